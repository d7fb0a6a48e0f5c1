/-
  What every row of the packet's seat shares.
-/
import Derived.Test.YtlmnjnhmhacgkaaGreatDoorPkE
import Derived.Test.YtlmnjnhmhacgkaaGreatDoorTie
import Derived.Test.YtlmnjnhmhacgkaaGreatDoorCards
import Derived.WalkKit
import Derived.ProofKit
import Derived.LaidMore
import Derived.OpenShut
import Derived.Stop.Joined
import Derived.ChangeSame
import Derived.ChangeOld
import Derived.Conc.Holds
import Derived.Leaving
import Derived.SevenTiedAt
import Derived.Test.YtlmnjnhmhacgkaaGreatDoorPkI
import Derived.JoinedCond
import Derived.Deep.DeepHandedRow
import Derived.Deep.DeepWitnessRowRef
section
set_option linter.unusedVariables false
set_option maxRecDepth 100000
namespace Go.Proofs.YtlmnjnhmhacgkaaGreatDoor.Top
open Go Go.Am Go.Proofs Go.Proofs.YtlmnjnhmhacgkaaGreatDoor.Am
open Go.ChangeShapes Go.WideShapes Go.ChangeAt Go.RowKit
theorem own:ownKnob Tryz.prog.godebug=none:=by kernel_rfl
theorem lay:laidOutB Tryz.prog=true:=by kernel_rfl
section
variable {H:Type} {enc:TypeId × Value->H} {P:Program}
theorem gI (hl:laidOutB P=true) {W W' : World} {sp' : Nat->Bool}:∀ {ts:List TypeId} {vs:List Value} {ds:List (DataW H)} {ps:List MemPlace},(∀ t∈ts,P.readableRec t=true/\t<P.types.size)->
  DataW.TrodAll enc P W 0 (fun _=>true) true ts vs ds ps->(∀ p∈ps,W.sameAt W' p)->(∀ p∈ps,sp' p.block=true)->DataW.TrodAll enc P W' 0 sp' true ts vs ds ps
 | [],[],[],ps,_,h,_,_=>h
 | t::ts,v::vs,d::ds,ps,ht,h,h1,h2=>by
  obtain ⟨p,q,hp,hq,rfl⟩:=h
  exact ⟨p,q,WideElems.Trod_stays hl (ht t (by simp)).1 (ht t (by simp)).2 hp (fun x hx=>h1 x (by simp [hx])) (fun x hx=>h2 x (by simp [hx])),
   gI hl (fun u hu=>ht u (by simp [hu])) hq (fun x hx=>h1 x (by simp [hx])) (fun x hx=>h2 x (by simp [hx])),rfl⟩
 | [],[],_::_,_,_,h,_,_=>h.elim
 | [],_::_,_,_,_,h,_,_=>h.elim
 | _::_,[],_,_,_,h,_,_=>h.elim
 | _::_,_::_,[],_,_,h,_,_=>h.elim
theorem ox (hl:laidOutB P=true) {f:Func} {s:ChangeSpec} {apart fresh handsOn again:Bool} {W W' : World} {args:Array Value} {ds:List (DataW H)} {before:List MemPlace} {tb:TypeId}
  (hts:∀ t∈f.params.toList,P.readableRec t=true/\t<P.types.size) (hr:f.resultTypes = #[tb]) (htb:P.underlying tb=some .bool) (hvars:s.vars=[])
  (hW:DataW.Whole enc P f.params.toList s.vars apart W args.toList ds [] before) (hb:Below W.heap.size W W')
  (hres:(s.fn H (ds++[])).results=[.lit (.bool true)]) (hargs:(s.fn H (ds++[])).args=ds) (hv:(s.fn H (ds++[])).vars=[]):s.post enc P f apart fresh handsOn again W args (.bool true) W':=by
 have hlt:=hW.lt;obtain ⟨p,q,hA,hV,rfl,hfz,hnd⟩:=hW;have hq:q=[]:=by rw [hvars] at hV; exact hV
 subst hq;have hW:DataW.Whole enc P f.params.toList s.vars apart W args.toList ds [] (p++[]):=⟨p,[],hA,hV,rfl,hfz,hnd⟩
 have hA' : ∀ sp' : Nat->Bool,(∀ x∈p,sp' x.block=true)->DataW.TrodAll enc P W' 0 sp' true f.params.toList args.toList ds p:=fun sp' hs=>
  gI hl hts hA (fun x hx=>hb.same (hlt x (by simp [hx]))) hs
 have hold:∀ x∈p,(fun b=>decide (b<W.heap.size)) x.block=true:=fun x hx=>by simpa using hlt x (by simp [hx])
 have hR:∀ (b:Nat) (sp:Nat->Bool) (hd:Bool),DataW.TrodAll enc P W' b sp hd f.resultTypes.toList ((Value.bool true).resultList f.resultTypes.size) [.lit (.bool true)] []:=fun b sp hd=>by
  rw [hr];exact trodAll_cons_mk (shut_bool htb _) trodAll_mk0
 have hA2:∀ sp' : Nat->Bool,(∀ x∈p,sp' x.block=true)->DataW.TrodAll enc P W' 0 sp' true f.params.toList args.toList (s.fn H (ds++[])).args p:=by rw [hargs]; exact hA'
 have hR2:∀ (b:Nat) (sp:Nat->Bool) (hd:Bool),DataW.TrodAll enc P W' b sp hd f.resultTypes.toList ((Value.bool true).resultList f.resultTypes.size) (s.fn H (ds++[])).results []:=by rw [hres]; exact hR
 have hV2:∀ sp:Nat->Bool,DataW.TrodVars enc P W' sp s.vars (s.fn H (ds++[])).vars []:=fun sp=>by rw [hv,hvars]; exact rfl
 refine ⟨ds,[],p++[],[],p,[],hW,hR2 _ _ _,hA2 _ hold,hV2 _,hb.frame _,fun _=>?_⟩;refine ⟨ok_one hr rfl (okWide_bool_mk htb _),_,_,([]++p)++[],⟨[]++p,[],trodAll_append (hA2 _ (fun _ _=>rfl)) (hR2 _ _ _),hV2 _,rfl,?_,?_⟩,?_⟩
 ·intro b off hp;have hp' : MemPlace.cell b off∈p:=by simpa using hp
  have hbl:b<W.heap.size:=hlt (.cell b off) (by simp [hp']);rw [hb.frozen (show (⟨b,off,none⟩ : Addr).block<W.heap.size from hbl)];exact hfz b off (by simp [hp'])
 ·intro ha;have:=hnd ha;simpa using this
 ·intro x hx _;simpa using hx
end
theorem and_t {a b:Bool} (ha:a=true) (hb:b=true):(a && b)=true:=by rw [ha,hb]; rfl
theorem iS (Lk:Looks) {p:Pinned} {s:OpenSpec} {c:OpenClaim} (kinds:List LaidKind) (tests:Bool) (har:Bool × String) (lk:Bool)
  (hc:c.holds p s) (hw:c.wfByText s=true) (htie:c.laidByTextAt Lk p kinds tests)
  (hst:c.start=.entering) (hnb:c.noBlocks=false/\c.again=false) (hm:p.checked.prog.mainIs=some (har.1,har.2.toList)) (hn:(!har.1 && har.2.isEmpty && !lk)=false)
  (hl:∀ f fn,p.checked.prog.funcNamed c.func=some f->p.checked.prog.funcs[f]? = some fn->lk=p.checked.prog.looks []/\∀ (j:Nat) t,fn.params[j]? = some t->p.checked.prog.wantsStandIn t=false)
  (hg:true=c.goesBy p.checked.prog) :
  Claim7.holds p (.plain s) { stood:={ row:=c,standIns:=[],harness:=har,looks:=lk },kinds:=[],alts:=[],goes:=true,laidByText:=true,laidKinds:=kinds,laidTests:=tests,laidLooks:=Lk }:=by
 have h6:∀ r:OpenClaim,Claim7.isSixth { stood:={ row:=r,standIns:=[],harness:=har,looks:=lk },kinds:=[] }=false:=fun r=>by simpa [Claim7.isSixth] using hn
 exact ⟨Claim7.tied_new_at Lk kinds tests (Claim7.new_of_sixth hc har lk hst hnb hm (h6 c) hl) hw,fun D hD=>(by cases hD),htie,(fun h=>by cases h),hg⟩
theorem ml {a:Assume} {C:Checked} {os:Os} {f:FuncId} {r:Reach} {Pre:World->Array Value->Prop} {Post:World->Array Value->Value->World->Prop} (h:ReturnsInHanded a C os f r Pre Post):ReturnsInLeavingWide a C os f r Pre Post:=
 fun enter=>ReturnsInOpen.mono (fun _ _ _ q=>⟨q.2.1,onlyLeaving_of_quiet q.1,q.2.2⟩) (fun _ x=>x) (h enter)
abbrev listed : List (String × DataW Unit) := [("weir/ip4.widths", Rows.laid_weir_ip4_widths), ("weir/ip6.known", Rows.laid_weir_ip6_known), ("weir/l4.udpWidths", Rows.laid_weir_l4_udpWidths), ("weir/l4.tcpWidths", Rows.laid_weir_l4_tcpWidths), ("weir/l4.lengths", Rows.laid_weir_l4_lengths)]
theorem gWn : Tryz.prog.globalNamed "weir/ip4.widths" = some 0 := by kernel_rfl
theorem gWt:(Tryz.prog.globals[0]?).map (·.type)=some 141:=by kernel_rfl
theorem gWs:shT Tryz.prog env 9 141=some (.arr .i64 12):=by kernel_rfl
theorem gWl:141<Tryz.prog.types.size:=by decide +kernel
theorem gWv:avD (.arr .i64 12) (Rows.laid_weir_ip4_widths (H:=Unit))=(.arr .i64 12 [4,4,8,16,16,1,1,1,13,8,8,16]):=by kernel_rfl
theorem gKn : Tryz.prog.globalNamed "weir/ip6.known" = some 3 := by kernel_rfl
theorem gKt:(Tryz.prog.globals[3]?).map (·.type)=some 238:=by kernel_rfl
theorem gKs:shT Tryz.prog env 9 238=some (.agg [s237,s237,s237,s237]):=by kernel_rfl
theorem gKl:238<Tryz.prog.types.size:=by decide +kernel
theorem gKv:avD (.agg [s237,s237,s237,s237]) (Rows.laid_weir_ip6_known (H:=Unit))=(.agg [.agg [.int .i64 0,.int .i64 1],.agg [.int .i64 43,.int .i64 2],.agg [.int .i64 44,.int .i64 3],.agg [.int .i64 60,.int .i64 1]]):=by kernel_rfl
theorem gUn : Tryz.prog.globalNamed "weir/l4.udpWidths" = some 1 := by kernel_rfl
theorem gUt:(Tryz.prog.globals[1]?).map (·.type)=some 162:=by kernel_rfl
theorem gUs:shT Tryz.prog env 9 162=some (.arr .i64 4):=by kernel_rfl
theorem gUl:162<Tryz.prog.types.size:=by decide +kernel
theorem gUv:avD (.arr .i64 4) (Rows.laid_weir_l4_udpWidths (H:=Unit))=(.arr .i64 4 [16,16,16,16]):=by kernel_rfl
theorem gTn : Tryz.prog.globalNamed "weir/l4.tcpWidths" = some 2 := by kernel_rfl
theorem gTt:(Tryz.prog.globals[2]?).map (·.type)=some 164:=by kernel_rfl
theorem gTs:shT Tryz.prog env 9 164=some (.arr .i64 10):=by kernel_rfl
theorem gTl:164<Tryz.prog.types.size:=by decide +kernel
theorem gTv:avD (.arr .i64 10) (Rows.laid_weir_l4_tcpWidths (H:=Unit))=(.arr .i64 10 [16,16,32,32,4,4,8,16,16,16]):=by kernel_rfl
theorem gLn : Tryz.prog.globalNamed "weir/l4.lengths" = some 4 := by kernel_rfl
theorem gLt:(Tryz.prog.globals[4]?).map (·.type)=some 242:=by kernel_rfl
theorem gLs:shT Tryz.prog env 9 242=some (.arr .u64 9):=by kernel_rfl
theorem gLl:242<Tryz.prog.types.size:=by decide +kernel
theorem gLv:avD (.arr .u64 9) (Rows.laid_weir_l4_lengths (H:=Unit))=(.arr .u64 9 [0,0,16,8,4,17247241216,0,0,1024]):=by kernel_rfl
theorem Vj {W:World} (h:laidMetH Tryz.prog listed W) (ok:Nat->Prop) (hok:∀ b,b<W.heap.size->ok b):ni W ok env.glob:=by
 rw [MakeChecks.laidMetH_plain _ _ _ (by kernel_rfl)] at h;obtain ⟨ps,⟨g0,t0,cs0,f0,p0,q0,hg0,ht0,hv0,hd0,⟨g1,t1,cs1,f1,p1,q1,hg1,ht1,hv1,hd1,⟨g2,t2,cs2,f2,p2,q2,hg2,ht2,hv2,hd2,⟨g3,t3,cs3,f3,p3,q3,hg3,ht3,hv3,hd3,⟨g4,t4,cs4,f4,p4,q4,hg4,ht4,hv4,hd4,_,_⟩,_⟩,_⟩,_⟩,_⟩,_⟩:=h;obtain rfl:=Option.some.inj (gWn.symm.trans hg0);obtain rfl:=Option.some.inj (gKn.symm.trans hg1);obtain rfl:=Option.some.inj (gUn.symm.trans hg2);obtain rfl:=Option.some.inj (gTn.symm.trans hg3);obtain rfl:=Option.some.inj (gLn.symm.trans hg4);obtain rfl:=Option.some.inj (gWt.symm.trans ht0);obtain rfl:=Option.some.inj (gKt.symm.trans ht1);obtain rfl:=Option.some.inj (gUt.symm.trans ht2);obtain rfl:=Option.some.inj (gTt.symm.trans ht3);obtain rfl:=Option.some.inj (gLt.symm.trans ht4);intro g t hg;have hg:glob g=some t:=hg;unfold glob at hg
 split at hg
 ·cases hg; exact ye lay hok gWs gWl rfl rfl hg0 hv0 hd0 gWv
 ·cases hg; exact ye lay hok gUs gUl rfl rfl hg2 hv2 hd2 gUv
 ·cases hg; exact ye lay hok gTs gTl rfl rfl hg3 hv3 hd3 gTv
 ·cases hg; exact ye lay hok gKs gKl rfl rfl hg1 hv1 hd1 gKv
 ·cases hg; exact ye lay hok gLs gLl rfl rfl hg4 hv4 hd4 gLv
 ·cases hg
theorem gd:∀ g t,env.glob g=some t->∃ s,WT s t/\inF [] s=true:=by
 intro g t hg;have hg:glob g=some t:=hg;unfold glob at hg
 split at hg
 ·cases hg; exact ⟨.arr .i64 12,by rw [show ((.arr .i64 12 [4,4,8,16,16,1,1,1,13,8,8,16]):AV)=eta (.arr .i64 12) (.arr .i64 12 [4,4,8,16,16,1,1,1,13,8,8,16]) by kernel_rfl]; exact kO _ _,rfl⟩
 ·cases hg; exact ⟨.arr .i64 4,by rw [show ((.arr .i64 4 [16,16,16,16]):AV)=eta (.arr .i64 4) (.arr .i64 4 [16,16,16,16]) by kernel_rfl]; exact kO _ _,rfl⟩
 ·cases hg; exact ⟨.arr .i64 10,by rw [show ((.arr .i64 10 [16,16,32,32,4,4,8,16,16,16]):AV)=eta (.arr .i64 10) (.arr .i64 10 [16,16,32,32,4,4,8,16,16,16]) by kernel_rfl]; exact kO _ _,rfl⟩
 ·cases hg; exact ⟨.agg [s237,s237,s237,s237],by rw [show ((.agg [.agg [.int .i64 0,.int .i64 1],.agg [.int .i64 43,.int .i64 2],.agg [.int .i64 44,.int .i64 3],.agg [.int .i64 60,.int .i64 1]]):AV)=eta (.agg [s237,s237,s237,s237]) (.agg [.agg [.int .i64 0,.int .i64 1],.agg [.int .i64 43,.int .i64 2],.agg [.int .i64 44,.int .i64 3],.agg [.int .i64 60,.int .i64 1]]) by kernel_rfl]; exact kO _ _,rfl⟩
 ·cases hg; exact ⟨.arr .u64 9,by rw [show ((.arr .u64 9 [0,0,16,8,4,17247241216,0,0,1024]):AV)=eta (.arr .u64 9) (.arr .u64 9 [0,0,16,8,4,17247241216,0,0,1024]) by kernel_rfl]; exact kO _ _,rfl⟩
 ·cases hg
theorem QC (os:Os) (args:Array Value):laidMetH Tryz.prog listed ((World.doorLaid Tryz.prog 400 os).forCall (fun _ _=>0) ⟨#[],args,[]⟩).memory:=
 laidMetH_of_parts3 (fuel:=8) (laidMet_of_run' 8 (by kernel_rfl) (by kernel_rfl)) (by kernel_rfl) (by kernel_rfl)
theorem VF:shT Tryz.prog env 9 46=some s46:=by kernel_rfl
theorem VE:46<Tryz.prog.types.size:=by decide +kernel
end Go.Proofs.YtlmnjnhmhacgkaaGreatDoor.Top
end
section
set_option linter.unusedVariables false
set_option maxRecDepth 100000
namespace Go.Proofs.YtlmnjnhmhacgkaaGreatDoor.Top
open Go Go.Am Go.Proofs Go.Proofs.YtlmnjnhmhacgkaaGreatDoor.Am
open Go.ChangeShapes Go.WideShapes Go.ChangeAt Go.RowKit
mutual
def Sml (N:Nat):Sh->AV->Prop
 | .agg ss,x=>match x with | .agg cs=>WI N ss cs | _=>True
 | .fs k,x=>x.qq.length<=N
 | .fv s,x=>x.qz.length<=N/\∀ y∈x.qz,Sml N s y
 | .int _,_=>True
 | .bool,_=>True
 | .str,_=>True
 | .arr _ _,_=>True
 | .nl _,_=>True
 | .pt _,_=>True
 | .mp _,_=>True
def WI (N:Nat):List Sh->List AV->Prop
 | s::ss,c::cs=>Sml N s c/\WI N ss cs
 | _,_=>True
end
section
variable {H:Type}
theorem oa (d:DataW H):1<=Rows.uptoBulk d:=by
 cases d with
 | lit l=>cases l <;> simp [Rows.uptoBulk]
 | nil=>simp [Rows.uptoBulk]
 | ptr d=>simp [Rows.uptoBulk]
 | slice elems spare=>simp [Rows.uptoBulk]
 | agg parts=>simp [Rows.uptoBulk]
 | iface t d=>simp [Rows.uptoBulk]
 | map entries=>simp [Rows.uptoBulk]
 | held h=>simp [Rows.uptoBulk]
theorem lU (l:List (DataW H)):l.length<=Rows.uptoBulkAll l:=by
 induction l with
 | nil=>simp [Rows.uptoBulkAll]
 | cons x r ih=>have:=oa x; simp only [Rows.uptoBulkAll,List.length_cons]; omega
theorem lp {d:DataW H} {l:List (DataW H)} (h:d∈l):Rows.uptoBulk d<=Rows.uptoBulkAll l:=by
 induction l with
 | nil=>cases h
 | cons x r ih=>
  simp only [Rows.uptoBulkAll]
  rcases List.mem_cons.1 h with rfl | h
  ·omega
  ·have:=ih h; omega
mutual
theorem lL {N:Nat}:∀ (s:Sh) (d:DataW H),Rows.uptoBulk d<=N->Sml N s (avD s d)
 | .int _,_,_=>trivial
 | .bool,_,_=>trivial
 | .str,_,_=>trivial
 | .arr _ _,_,_=>trivial
 | .nl _,_,_=>trivial
 | .pt _,_,_=>trivial
 | .mp _,_,_=>trivial
 | .agg ss,d,h=>by
  unfold avD
  split
  ·rename_i l;simp only [Rows.uptoBulk] at h;exact eR ss l (by omega)
  ·cases ss <;> exact trivial
 | .fs k,d,h=>by
  unfold avD
  split
  ·rename_i l sp;simp only [Rows.uptoBulk] at h;have:=lU l
   show (l.map nD).length<=N;rw [List.length_map]; omega
  ·show ([]:List Int).length<=N;simp
 | .fv s,d,h=>by
  unfold avD
  split
  ·rename_i l sp;simp only [Rows.uptoBulk] at h;have hl:=lU l;refine ⟨by show (l.map (avD s)).length<=N; rw [List.length_map]; omega,fun y hy=>?_⟩;obtain ⟨e,he,rfl⟩:=List.mem_map.1 hy;have:=lp he;exact lL s e (by omega)
  ·exact ⟨by show ([]:List AV).length<=N; simp,fun y hy=>by cases hy⟩
theorem eR {N:Nat}:∀ (ss:List Sh) (ds:List (DataW H)),Rows.uptoBulkAll ds<=N->WI N ss (dN ss ds)
 | [],ds,_=>by cases ds <;> exact trivial
 | s::ss,[],_=>trivial
 | s::ss,d::ds,h=>by
  simp only [Rows.uptoBulkAll] at h;exact ⟨lL s d (by omega),eR ss ds (by omega)⟩
end
end
theorem Vz {n:Int} (h:inK .u8 n):0<=n/\n<=255:=by
 have h1:IntKind.u8.min=0:=rfl;have h2:IntKind.u8.max=255:=rfl;unfold inK at h;simp only [Lit.wf,Bool.and_eq_true,decide_eq_true_eq] at h;omega
theorem fi {l:List Int} (h:Fit (.fs .u8) (.fs .u8 l)):Bytes l:=fun x hx=>Vz (h x hx)
theorem pG {x:Ip} (h:Fit s27 x.av):x.Ok:=⟨h.2.1.1,fun y hy=>Vz (h.2.1.2 y hy)⟩
theorem uD {l:List Int} (h:Fit (.arr .u8 6) (.arr .u8 6 l)):l.length=6/\Bytes l:=⟨h.1,fun y hy=>Vz (h.2 y hy)⟩
theorem dc {l:List Opt} (h:Fit (.fv s93) (.fv s93 (l.map Opt.av))):∀ o∈l,Bytes o.data:=fun o ho=>by
 have:=h o.av (List.mem_map.2 ⟨o,ho,rfl⟩);exact fi this.2.1
theorem ou {l:List Ext} (h:Fit (.fv s124) (.fv s124 (l.map Ext.av))):∀ x∈l,Bytes x.data/\∀ o∈x.opts,Bytes o.data:=fun x hx=>by
 have:=h x.av (List.mem_map.2 ⟨x,hx,rfl⟩);exact ⟨fi this.2.2.1,dc this.2.1⟩
theorem cX {N:Nat} {l:List Opt} (h:Sml N (.fv s93) (.fv s93 (l.map Opt.av))):l.length<=N/\∀ o∈l,o.data.length<=N:=by
 have h1:(l.map Opt.av).length<=N:=h.1;rw [List.length_map] at h1;refine ⟨h1,fun o ho=>?_⟩;have:=h.2 o.av (List.mem_map.2 ⟨o,ho,rfl⟩);exact this.2.1
theorem QD {l:List Ext} (h:Sml (2 ^ 20) (.fv s124) (.fv s124 (l.map Ext.av))):l.length<=2 ^ 20/\∀ x∈l,x.Sm:=by
 have h1:(l.map Ext.av).length<=2 ^ 20:=h.1;rw [List.length_map] at h1;refine ⟨h1,fun x hx=>?_⟩;have:=h.2 x.av (List.mem_map.2 ⟨x,hx,rfl⟩);have ho:=cX this.2.1;exact ⟨ho.1,ho.2,this.2.2.1⟩
theorem Vv {p:Pkt} (f:Fit s46 p.av) (g:Sml (2 ^ 20) s46 p.av):p.Sm:=by
 obtain ⟨f0,f1,f2,f3,f4,f5,f6,f7,f8,f9,f10,_⟩:=f;obtain ⟨g0,g1,g2,g3,g4,g5,g6,g7,g8,g9,g10,_⟩:=g;obtain ⟨_,a1,a2,a3,a4,_⟩:=f4;obtain ⟨_,_,_,_,_,_,_,b7,b8,b9,b10,_⟩:=f5;obtain ⟨_,_,_,_,_,_,_,_,_,gb9,gb10,_⟩:=g5;obtain ⟨_,_,_,c3,c4,c5,_,_,c8,_⟩:=f6;obtain ⟨_,_,_,_,_,gc5,_,_,gc8,_⟩:=g6;obtain ⟨_,_,_,_,d4,_⟩:=f8;obtain ⟨_,_,_,_,gd4,_⟩:=g8;obtain ⟨_,_,_,e3,_⟩:=f9;obtain ⟨_,_,_,ge3,_⟩:=g9;obtain ⟨_,_,_,_,_,_,_,h7,h8,_⟩:=f10;obtain ⟨_,_,_,_,_,_,_,gh7,gh8,_⟩:=g10;have t:(p.tags.map Tag.av).length<=2 ^ 20:=g2.1;rw [List.length_map] at t;have o4:=cX gb9;have x6:=QD gc5;have ot:=cX gh7
 exact ⟨⟨pG b7,pG b8,pG c3,pG c4,uD f0,uD f1,uD a1,uD a3,pG a2,pG a4,dc b9,fi b10,ou c5,fi c8,fi d4,fi e3,dc h7,fi h8⟩,
  t,o4.1,o4.2,gb10,x6.2,x6.1,gc8,gd4,ge3,ot.1,ot.2,gh8⟩
theorem fT {p:Pinned} {s:OpenSpec} {c:OpenClaim} (f:FuncId) (fn:Func)
  (hn:c.program=p.name) (hs:c.sum=p.sum) (hsp:c.spec=s.name)
  (hstart:c.start=.entering) (hout:c.outside=[]) (hin:c.inits=[]) (hun:c.under=none) (hi4:c.initsInPlace=[]/\c.initsUnfollowed=false/\c.initsRecurse=false/\c.initsNamed=[]/\c.initsPassed=[]) (hnb:c.noBlocks=false) (hlv:c.leaving=true) (hfo:c.followed=none) (hnar:c.narrowed=s.cond.isSome) (hstill:c.still=false)
  (hfn:p.checked.prog.funcNamed c.func=some f) (hf:p.checked.prog.funcs[f]? = some fn)
  (closed:joinedFacts p.checked.prog f fn s.bare c=true)
  (hinst:fn.isInstance p.checked.prog c.origin c.targs) (hwrap:fn.isWrapper p.checked.prog c.wrapper c.mainSum)
  (h:∀ os:Os,os.Started->∀ (H:Type) (enc:TypeId × Value->H),(∀ a b,enc a=enc b->a=b)->∀ F:Stop.Interp,
   ReturnsInLeavingWide c.assume p.checked os f .any (c.pre enc p.checked.prog fn s) ((s.at F).post enc p.checked.prog fn c.apart c.fresh c.handsOn c.again)):c.holds p s:=by
 simp only [joinedFacts,Bool.and_eq_true,beq_iff_eq,Array.all_eq_true_iff_forall_mem,List.all_eq_true,decide_eq_true_eq] at closed;obtain ⟨⟨⟨⟨⟨⟨⟨⟨⟨⟨⟨⟨⟨⟨⟨⟨⟨⟨⟨⟨⟨⟨⟨⟨⟨⟨⟨⟨⟨⟨⟨k1,k2⟩,k3⟩,k4⟩,k5⟩,k6⟩,k7⟩,k8⟩,k9⟩,k10⟩,k11⟩,k12⟩,k13⟩,k14⟩,k15⟩,k16⟩,k17⟩,k17b⟩,k18⟩,k19⟩,k20⟩,k21⟩,k22⟩,k23⟩,k23b⟩,k24⟩,k24b⟩,k24c⟩,k25⟩,k26⟩,k27⟩,k28⟩:=closed;have quiet:∀ os:Os,Stop.quiet p.checked.prog os:=fun os k hk=>by rw [k9] at hk; cases hk
 have w1:c.startFits p.checked.prog:=by unfold OpenClaim.startFits; rw [hstart]; exact k24
 have w2:c.startTold p.checked.prog:=by unfold OpenClaim.startTold; rw [hstart]; exact ⟨hin,hun,hi4⟩
 refine ⟨k1,hn,hs,hsp,k2,k3,w1,w2,f,fn,hfn,hf,⟨k4,k19⟩,(fun hb=>by rw [hnb] at hb; cases hb),by unfold OpenClaim.namedList; rw [hfo]; exact k5,hinst,hwrap,
  k6.trans k7.symm,⟨k8.trans k9.symm,by unfold Program.envWorded; rw [k9]; rfl,k23b⟩,k10,k11,k12,k13,k14,⟨k15,k27,k28⟩,⟨k16,k20⟩,⟨k17,k21,k25,k26⟩,⟨k22,k24b,k24c,k17b⟩,(by rw [hout,hnar]; cases hsh:c.shortTexts with | none=>simp | some _=>rw [hsh] at k23; cases k23),fun n hn'=>varReadable_some (k18 n hn'),
  ⟨_,by unfold OpenClaim.world; rw [hout,hstart]; exact WideRow.started_initial,quiet _⟩,[],by unfold OpenClaim.lists; rw [hfo],fun os st _ H enc inj=>?_⟩
 have begun:os.Started:=by unfold OpenClaim.world at st; rw [hout,hstart] at st; exact st
 rw [OpenClaim.post_not_still hstill];unfold OpenClaim.form;rw [hstart,k6];intro F;have e1:c.okInput=Input.okWide:=by unfold OpenClaim.okInput; rw [hnb]
 have e2:c.atReturn p.checked.prog=leavingAtReturn p.checked.prog:=by unfold OpenClaim.atReturn; rw [hlv]
 have e3:c.always p.checked.prog []=nothingAlways:=by unfold OpenClaim.always; rw [hfo]
 have e4:s.post enc p.checked.prog fn F c.outside c.apart c.fresh c.handsOn c.again=(s.at F).post enc p.checked.prog fn c.apart c.fresh c.handsOn c.again:=by rw [hout]; rfl
 rw [e1,e2,e3]
 show ReturnsInOpen _ _ _ _ _ _ _ _ (s.post enc p.checked.prog fn F c.outside c.apart c.fresh c.handsOn c.again) _ _;rw [e4];exact h os begun H enc inj F k24
def ii:Array Value:=#[.int .u8 0,.int .u8 0,.int .u8 0,.int .u8 0,.int .u8 0,.int .u8 0]
def au:Array Value:=#[.int .i64 0,.int .u8 0,.int .u8 0,.int .u8 0,.int .u8 0,.int .u8 0,.int .u8 0,.int .u8 0,.int .u8 0,.int .u8 0,.int .u8 0,.int .u8 0,.int .u8 0,.int .u8 0,.int .u8 0,.int .u8 0,.int .u8 0]
def zi_:Value:=.int .i64 0
def zb_:Value:=.bool false
def zs_:Value:=.slice none 0 0
def rx:Value:=.agg (ii++ii++#[zs_,zi_,zi_]++ii++au++ii++au++#[zi_,zi_,zb_,zb_,zi_,zi_,zi_]++au++au++#[zs_,zs_,zi_,zi_,zi_]++au++au++#[zs_,zb_,zb_,zi_,zi_,zi_,zs_,zi_,zi_,zi_,zi_,zi_,zs_,zi_,zi_,zb_,zs_,zi_,zi_,zi_,zi_,zi_,zi_,zi_,zs_,zs_])
theorem Wm {H:Type} {l:List (DataW H)} (h:Rows.uptoSmall H l=true):Rows.uptoBulkAll l<=2 ^ 20:=by
 have:Rows.uptoBulkAll l<=1048576:=by simpa [Rows.uptoSmall] using h
 omega
end Go.Proofs.YtlmnjnhmhacgkaaGreatDoor.Top
end
