/-
  What every row of the packet's seat shares.
-/
import Derived.Test.YtlmnjnhmhacgkaaGreatDoorPkE
import Derived.Test.YtlmnjnhmhacgkaaGreatDoorTie
import Derived.Test.YtlmnjnhmhacgkaaGreatDoorCards
import Derived.WalkKit
import Derived.ProofKit
import Derived.LaidMore
import Derived.OpenShut
import Derived.Stop.Joined
import Derived.ChangeSame
import Derived.ChangeOld
import Derived.Conc.Holds
import Derived.Leaving
import Derived.SevenTiedAt
section
set_option linter.unusedVariables false
set_option maxRecDepth 100000
namespace Go.Proofs.YtlmnjnhmhacgkaaGreatDoor.Top
open Go Go.Am Go.Proofs Go.Proofs.YtlmnjnhmhacgkaaGreatDoor.Am
open Go.ChangeShapes Go.WideShapes Go.ChangeAt Go.RowKit
theorem own:ownKnob Tryz.prog.godebug=none:=by kernel_rfl
theorem lay:laidOutB Tryz.prog=true:=by kernel_rfl
section
variable {H:Type} {enc:TypeId × Value->H} {P:Program}
theorem gI (hl:laidOutB P=true) {W W' : World} {sp' : Nat->Bool}:∀ {ts:List TypeId} {vs:List Value} {ds:List (DataW H)} {ps:List MemPlace},(∀ t∈ts,P.readableRec t=true/\t<P.types.size)->
  DataW.TrodAll enc P W 0 (fun _=>true) true ts vs ds ps->(∀ p∈ps,W.sameAt W' p)->(∀ p∈ps,sp' p.block=true)->DataW.TrodAll enc P W' 0 sp' true ts vs ds ps
 | [],[],[],ps,_,h,_,_=>h
 | t::ts,v::vs,d::ds,ps,ht,h,h1,h2=>by
  obtain ⟨p,q,hp,hq,rfl⟩:=h
  exact ⟨p,q,WideElems.Trod_stays hl (ht t (by simp)).1 (ht t (by simp)).2 hp (fun x hx=>h1 x (by simp [hx])) (fun x hx=>h2 x (by simp [hx])),
   gI hl (fun u hu=>ht u (by simp [hu])) hq (fun x hx=>h1 x (by simp [hx])) (fun x hx=>h2 x (by simp [hx])),rfl⟩
 | [],[],_::_,_,_,h,_,_=>h.elim
 | [],_::_,_,_,_,h,_,_=>h.elim
 | _::_,[],_,_,_,h,_,_=>h.elim
 | _::_,_::_,[],_,_,h,_,_=>h.elim
theorem ox (hl:laidOutB P=true) {f:Func} {s:ChangeSpec} {apart fresh handsOn again:Bool} {W W' : World} {args:Array Value} {ds:List (DataW H)} {before:List MemPlace} {tb:TypeId}
  (hts:∀ t∈f.params.toList,P.readableRec t=true/\t<P.types.size) (hr:f.resultTypes = #[tb]) (htb:P.underlying tb=some .bool) (hvars:s.vars=[])
  (hW:DataW.Whole enc P f.params.toList s.vars apart W args.toList ds [] before) (hb:Below W.heap.size W W')
  (hres:(s.fn H (ds++[])).results=[.lit (.bool true)]) (hargs:(s.fn H (ds++[])).args=ds) (hv:(s.fn H (ds++[])).vars=[]):s.post enc P f apart fresh handsOn again W args (.bool true) W':=by
 have hlt:=hW.lt;obtain ⟨p,q,hA,hV,rfl,hfz,hnd⟩:=hW;have hq:q=[]:=by rw [hvars] at hV; exact hV
 subst hq;have hW:DataW.Whole enc P f.params.toList s.vars apart W args.toList ds [] (p++[]):=⟨p,[],hA,hV,rfl,hfz,hnd⟩
 have hA' : ∀ sp' : Nat->Bool,(∀ x∈p,sp' x.block=true)->DataW.TrodAll enc P W' 0 sp' true f.params.toList args.toList ds p:=fun sp' hs=>
  gI hl hts hA (fun x hx=>hb.same (hlt x (by simp [hx]))) hs
 have hold:∀ x∈p,(fun b=>decide (b<W.heap.size)) x.block=true:=fun x hx=>by simpa using hlt x (by simp [hx])
 have hR:∀ (b:Nat) (sp:Nat->Bool) (hd:Bool),DataW.TrodAll enc P W' b sp hd f.resultTypes.toList ((Value.bool true).resultList f.resultTypes.size) [.lit (.bool true)] []:=fun b sp hd=>by
  rw [hr];exact trodAll_cons_mk (shut_bool htb _) trodAll_mk0
 have hA2:∀ sp' : Nat->Bool,(∀ x∈p,sp' x.block=true)->DataW.TrodAll enc P W' 0 sp' true f.params.toList args.toList (s.fn H (ds++[])).args p:=by rw [hargs]; exact hA'
 have hR2:∀ (b:Nat) (sp:Nat->Bool) (hd:Bool),DataW.TrodAll enc P W' b sp hd f.resultTypes.toList ((Value.bool true).resultList f.resultTypes.size) (s.fn H (ds++[])).results []:=by rw [hres]; exact hR
 have hV2:∀ sp:Nat->Bool,DataW.TrodVars enc P W' sp s.vars (s.fn H (ds++[])).vars []:=fun sp=>by rw [hv,hvars]; exact rfl
 refine ⟨ds,[],p++[],[],p,[],hW,hR2 _ _ _,hA2 _ hold,hV2 _,hb.frame _,fun _=>?_⟩;refine ⟨ok_one hr rfl (okWide_bool_mk htb _),_,_,([]++p)++[],⟨[]++p,[],trodAll_append (hA2 _ (fun _ _=>rfl)) (hR2 _ _ _),hV2 _,rfl,?_,?_⟩,?_⟩
 ·intro b off hp;have hp' : MemPlace.cell b off∈p:=by simpa using hp
  have hbl:b<W.heap.size:=hlt (.cell b off) (by simp [hp']);rw [hb.frozen (show (⟨b,off,none⟩ : Addr).block<W.heap.size from hbl)];exact hfz b off (by simp [hp'])
 ·intro ha;have:=hnd ha;simpa using this
 ·intro x hx _;simpa using hx
end
theorem and_t {a b:Bool} (ha:a=true) (hb:b=true):(a && b)=true:=by rw [ha,hb]; rfl
theorem iS (Lk:Looks) {p:Pinned} {s:OpenSpec} {c:OpenClaim} (kinds:List LaidKind) (tests:Bool) (har:Bool × String) (lk:Bool)
  (hc:c.holds p s) (hw:c.wfByText s=true) (htie:c.laidByTextAt Lk p kinds tests)
  (hst:c.start=.entering) (hnb:c.noBlocks=false/\c.again=false) (hm:p.checked.prog.mainIs=some (har.1,har.2.toList)) (hn:(!har.1 && har.2.isEmpty && !lk)=false)
  (hl:∀ f fn,p.checked.prog.funcNamed c.func=some f->p.checked.prog.funcs[f]? = some fn->lk=p.checked.prog.looks []/\∀ (j:Nat) t,fn.params[j]? = some t->p.checked.prog.wantsStandIn t=false)
  (hg:true=c.goesBy p.checked.prog) :
  Claim7.holds p (.plain s) { stood:={ row:=c,standIns:=[],harness:=har,looks:=lk },kinds:=[],alts:=[],goes:=true,laidByText:=true,laidKinds:=kinds,laidTests:=tests,laidLooks:=Lk }:=by
 have h6:∀ r:OpenClaim,Claim7.isSixth { stood:={ row:=r,standIns:=[],harness:=har,looks:=lk },kinds:=[] }=false:=fun r=>by simpa [Claim7.isSixth] using hn
 exact ⟨Claim7.tied_new_at Lk kinds tests (Claim7.new_of_sixth hc har lk hst hnb hm (h6 c) hl) hw,fun D hD=>(by cases hD),htie,(fun h=>by cases h),hg⟩
theorem ml {a:Assume} {C:Checked} {os:Os} {f:FuncId} {r:Reach} {Pre:World->Array Value->Prop} {Post:World->Array Value->Value->World->Prop} (h:ReturnsInHanded a C os f r Pre Post):ReturnsInLeavingWide a C os f r Pre Post:=
 fun enter=>ReturnsInOpen.mono (fun _ _ _ q=>⟨q.2.1,onlyLeaving_of_quiet q.1,q.2.2⟩) (fun _ x=>x) (h enter)
abbrev listed : List (String × DataW Unit) := [("weir/ip4.widths", Rows.laid_weir_ip4_widths), ("weir/ip6.known", Rows.laid_weir_ip6_known), ("weir/l4.udpWidths", Rows.laid_weir_l4_udpWidths), ("weir/l4.tcpWidths", Rows.laid_weir_l4_tcpWidths), ("weir/l4.lengths", Rows.laid_weir_l4_lengths)]
theorem gWn : Tryz.prog.globalNamed "weir/ip4.widths" = some 0 := by kernel_rfl
theorem gWt:(Tryz.prog.globals[0]?).map (·.type)=some 141:=by kernel_rfl
theorem gWs:shT Tryz.prog env 9 141=some (.arr .i64 12):=by kernel_rfl
theorem gWl:141<Tryz.prog.types.size:=by decide +kernel
theorem gWv:avD (.arr .i64 12) (Rows.laid_weir_ip4_widths (H:=Unit))=(.arr .i64 12 [4,4,8,16,16,1,1,1,13,8,8,16]):=by kernel_rfl
theorem gKn : Tryz.prog.globalNamed "weir/ip6.known" = some 3 := by kernel_rfl
theorem gKt:(Tryz.prog.globals[3]?).map (·.type)=some 238:=by kernel_rfl
theorem gKs:shT Tryz.prog env 9 238=some (.agg [s237,s237,s237,s237]):=by kernel_rfl
theorem gKl:238<Tryz.prog.types.size:=by decide +kernel
theorem gKv:avD (.agg [s237,s237,s237,s237]) (Rows.laid_weir_ip6_known (H:=Unit))=(.agg [.agg [.int .i64 0,.int .i64 1],.agg [.int .i64 43,.int .i64 2],.agg [.int .i64 44,.int .i64 3],.agg [.int .i64 60,.int .i64 1]]):=by kernel_rfl
theorem gUn : Tryz.prog.globalNamed "weir/l4.udpWidths" = some 1 := by kernel_rfl
theorem gUt:(Tryz.prog.globals[1]?).map (·.type)=some 162:=by kernel_rfl
theorem gUs:shT Tryz.prog env 9 162=some (.arr .i64 4):=by kernel_rfl
theorem gUl:162<Tryz.prog.types.size:=by decide +kernel
theorem gUv:avD (.arr .i64 4) (Rows.laid_weir_l4_udpWidths (H:=Unit))=(.arr .i64 4 [16,16,16,16]):=by kernel_rfl
theorem gTn : Tryz.prog.globalNamed "weir/l4.tcpWidths" = some 2 := by kernel_rfl
theorem gTt:(Tryz.prog.globals[2]?).map (·.type)=some 164:=by kernel_rfl
theorem gTs:shT Tryz.prog env 9 164=some (.arr .i64 10):=by kernel_rfl
theorem gTl:164<Tryz.prog.types.size:=by decide +kernel
theorem gTv:avD (.arr .i64 10) (Rows.laid_weir_l4_tcpWidths (H:=Unit))=(.arr .i64 10 [16,16,32,32,4,4,8,16,16,16]):=by kernel_rfl
theorem gLn : Tryz.prog.globalNamed "weir/l4.lengths" = some 4 := by kernel_rfl
theorem gLt:(Tryz.prog.globals[4]?).map (·.type)=some 242:=by kernel_rfl
theorem gLs:shT Tryz.prog env 9 242=some (.arr .u64 9):=by kernel_rfl
theorem gLl:242<Tryz.prog.types.size:=by decide +kernel
theorem gLv:avD (.arr .u64 9) (Rows.laid_weir_l4_lengths (H:=Unit))=(.arr .u64 9 [0,0,16,8,4,17247241216,0,0,1024]):=by kernel_rfl
theorem Vj {W:World} (h:laidMetH Tryz.prog listed W) (ok:Nat->Prop) (hok:∀ b,b<W.heap.size->ok b):ni W ok env.glob:=by
 rw [MakeChecks.laidMetH_plain _ _ _ (by kernel_rfl)] at h;obtain ⟨ps,⟨g0,t0,cs0,f0,p0,q0,hg0,ht0,hv0,hd0,⟨g1,t1,cs1,f1,p1,q1,hg1,ht1,hv1,hd1,⟨g2,t2,cs2,f2,p2,q2,hg2,ht2,hv2,hd2,⟨g3,t3,cs3,f3,p3,q3,hg3,ht3,hv3,hd3,⟨g4,t4,cs4,f4,p4,q4,hg4,ht4,hv4,hd4,_,_⟩,_⟩,_⟩,_⟩,_⟩,_⟩:=h;obtain rfl:=Option.some.inj (gWn.symm.trans hg0);obtain rfl:=Option.some.inj (gKn.symm.trans hg1);obtain rfl:=Option.some.inj (gUn.symm.trans hg2);obtain rfl:=Option.some.inj (gTn.symm.trans hg3);obtain rfl:=Option.some.inj (gLn.symm.trans hg4);obtain rfl:=Option.some.inj (gWt.symm.trans ht0);obtain rfl:=Option.some.inj (gKt.symm.trans ht1);obtain rfl:=Option.some.inj (gUt.symm.trans ht2);obtain rfl:=Option.some.inj (gTt.symm.trans ht3);obtain rfl:=Option.some.inj (gLt.symm.trans ht4);intro g t hg;have hg:glob g=some t:=hg;unfold glob at hg
 split at hg
 ·cases hg; exact ye lay hok gWs gWl rfl rfl hg0 hv0 hd0 gWv
 ·cases hg; exact ye lay hok gUs gUl rfl rfl hg2 hv2 hd2 gUv
 ·cases hg; exact ye lay hok gTs gTl rfl rfl hg3 hv3 hd3 gTv
 ·cases hg; exact ye lay hok gKs gKl rfl rfl hg1 hv1 hd1 gKv
 ·cases hg; exact ye lay hok gLs gLl rfl rfl hg4 hv4 hd4 gLv
 ·cases hg
theorem gd:∀ g t,env.glob g=some t->∃ s,WT s t/\inF [] s=true:=by
 intro g t hg;have hg:glob g=some t:=hg;unfold glob at hg
 split at hg
 ·cases hg; exact ⟨.arr .i64 12,by rw [show ((.arr .i64 12 [4,4,8,16,16,1,1,1,13,8,8,16]):AV)=eta (.arr .i64 12) (.arr .i64 12 [4,4,8,16,16,1,1,1,13,8,8,16]) by kernel_rfl]; exact kO _ _,rfl⟩
 ·cases hg; exact ⟨.arr .i64 4,by rw [show ((.arr .i64 4 [16,16,16,16]):AV)=eta (.arr .i64 4) (.arr .i64 4 [16,16,16,16]) by kernel_rfl]; exact kO _ _,rfl⟩
 ·cases hg; exact ⟨.arr .i64 10,by rw [show ((.arr .i64 10 [16,16,32,32,4,4,8,16,16,16]):AV)=eta (.arr .i64 10) (.arr .i64 10 [16,16,32,32,4,4,8,16,16,16]) by kernel_rfl]; exact kO _ _,rfl⟩
 ·cases hg; exact ⟨.agg [s237,s237,s237,s237],by rw [show ((.agg [.agg [.int .i64 0,.int .i64 1],.agg [.int .i64 43,.int .i64 2],.agg [.int .i64 44,.int .i64 3],.agg [.int .i64 60,.int .i64 1]]):AV)=eta (.agg [s237,s237,s237,s237]) (.agg [.agg [.int .i64 0,.int .i64 1],.agg [.int .i64 43,.int .i64 2],.agg [.int .i64 44,.int .i64 3],.agg [.int .i64 60,.int .i64 1]]) by kernel_rfl]; exact kO _ _,rfl⟩
 ·cases hg; exact ⟨.arr .u64 9,by rw [show ((.arr .u64 9 [0,0,16,8,4,17247241216,0,0,1024]):AV)=eta (.arr .u64 9) (.arr .u64 9 [0,0,16,8,4,17247241216,0,0,1024]) by kernel_rfl]; exact kO _ _,rfl⟩
 ·cases hg
theorem QC (os:Os) (args:Array Value):laidMetH Tryz.prog listed ((World.doorLaid Tryz.prog 400 os).forCall (fun _ _=>0) ⟨#[],args,[]⟩).memory:=
 laidMetH_of_parts3 (fuel:=8) (laidMet_of_run' 8 (by kernel_rfl) (by kernel_rfl)) (by kernel_rfl) (by kernel_rfl)
end Go.Proofs.YtlmnjnhmhacgkaaGreatDoor.Top
end
section
set_option linter.unusedVariables false
set_option maxRecDepth 100000
namespace Go.Proofs.YtlmnjnhmhacgkaaGreatDoor.Top
open Go Go.Am Go.Proofs Go.Proofs.YtlmnjnhmhacgkaaGreatDoor.Am
open Go.ChangeShapes Go.WideShapes Go.ChangeAt Go.RowKit
section
variable {H:Type} {enc:TypeId × Value->H} {P:Program} {E:Env} {W:World} {ok:Nat->Prop} {θ:Nm->Option Value} {base:Nat} {spare:Nat->Bool} {held:Bool}
theorem Kt (hl:laidOutB P=true) (hok:∀ b,b<W.heap.size->ok b) {n:Nat} {t e:TypeId} {k:IntKind} (hu:P.underlying t=some (.slice e)) (hs:shT P E n t=some (.fs k)) (ht:t<P.types.size) (hin:inF [] (.fs k)=true) (hp:rz (.fs k)=true)
  {w:World} {r:Reach} {b0:Nat} {v:Value} (hv:Value.okWide P w r b0 t v) {d:DataW H} {ps:List MemPlace} (h:DataW.Trod enc P W base spare held t v d ps):CV W ok θ (avD (.fs k) d) v/\(∃ l,avD (.fs k) d=.fs k l)/\Fit (.fs k) (avD (.fs k) d):=by
 obtain ⟨a,len,cap,rfl⟩:=WideShapes.okWide_slice hu hv;obtain ⟨fuel,h⟩:=h;obtain ⟨⟨u,h1,_,h2⟩,h3,h4⟩:=eG (θ:=θ) hl hok n t _ hs ht hin hp fuel _ _ h;have h2':=h2;obtain ⟨x,hx⟩:=h3;replace hx:avD (.fs k) d=.fs k x:=hx;rw [hx] at h2';obtain ⟨A,c,rfl,_⟩:=h2';have:Value.slice A x.length c=.slice a len cap:=lS h1 (.inr ⟨rfl,rfl⟩);exact ⟨by rw [<-this]; exact h2,⟨x,hx⟩,h4⟩
end
theorem Ky {l:List Int} (h:Fit (.fs .u8) (.fs .u8 l)):Bytes l:=fun x hx=>by
 have h0:inK .u8 x:=h x hx;have h1:IntKind.u8.min=0:=rfl;have h2:IntKind.u8.max=255:=rfl;unfold inK at h0;simp only [Lit.wf,Bool.and_eq_true,decide_eq_true_eq] at h0;omega
theorem KC:shT Tryz.prog env 9 31=some (.fs .u8):=by kernel_rfl
theorem KP:31<Tryz.prog.types.size:=by decide +kernel
end Go.Proofs.YtlmnjnhmhacgkaaGreatDoor.Top
end
