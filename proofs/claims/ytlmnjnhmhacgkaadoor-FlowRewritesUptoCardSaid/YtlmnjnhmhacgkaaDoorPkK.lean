/-
  What every row of the packet's seat shares.
-/
import Derived.Test.YtlmnjnhmhacgkaaDoorPkE
import Derived.Test.YtlmnjnhmhacgkaaDoorTie
import Derived.Test.YtlmnjnhmhacgkaaDoorCards
import Derived.WalkKit
import Derived.ProofKit
import Derived.LaidMore
import Derived.OpenShut
import Derived.Stop.Joined
import Derived.ChangeSame
import Derived.ChangeOld
import Derived.Conc.Holds
import Derived.Leaving
import Derived.SevenTiedAt
import Derived.Test.YtlmnjnhmhacgkaaDoorPkJ
import Derived.JoinedCond
import Derived.Deep.DeepHandedRow
import Derived.Deep.DeepWitnessRowRef
section
set_option linter.unusedVariables false
set_option maxRecDepth 100000
namespace Go.Proofs.YtlmnjnhmhacgkaaDoor.Top
open Go Go.Am Go.Proofs Go.Proofs.YtlmnjnhmhacgkaaDoor.Am
open Go.ChangeShapes Go.WideShapes Go.ChangeAt Go.RowKit
theorem own:ownKnob Tryd.prog.godebug=none:=by kernel_rfl
theorem lay:laidOutB Tryd.prog=true:=by kernel_rfl
section
variable {H:Type} {enc:TypeId × Value→H} {P:Program}
theorem trodAll_stays (hl:laidOutB P=true) {W W' : World} {sp' : Nat→Bool}:∀ {ts:List TypeId} {vs:List Value} {ds:List (DataW H)} {ps:List MemPlace},(∀ t∈ts,P.readableRec t=true∧t<P.types.size)→
  DataW.TrodAll enc P W 0 (fun _=>true) true ts vs ds ps→(∀ p∈ps,W.sameAt W' p)→(∀ p∈ps,sp' p.block=true)→DataW.TrodAll enc P W' 0 sp' true ts vs ds ps
 | [],[],[],ps,_,h,_,_=>h
 | t::ts,v::vs,d::ds,ps,ht,h,h1,h2=>by
  obtain ⟨p,q,hp,hq,rfl⟩:=h
  exact ⟨p,q,WideElems.Trod_stays hl (ht t (by simp)).1 (ht t (by simp)).2 hp (fun x hx=>h1 x (by simp [hx])) (fun x hx=>h2 x (by simp [hx])),
   trodAll_stays hl (fun u hu=>ht u (by simp [hu])) hq (fun x hx=>h1 x (by simp [hx])) (fun x hx=>h2 x (by simp [hx])),rfl⟩
 | [],[],_::_,_,_,h,_,_=>h.elim
 | [],_::_,_,_,_,h,_,_=>h.elim
 | _::_,[],_,_,_,h,_,_=>h.elim
 | _::_,_::_,[],_,_,h,_,_=>h.elim
theorem post_true (hl:laidOutB P=true) {f:Func} {s:ChangeSpec} {apart fresh handsOn again:Bool} {W W' : World} {args:Array Value} {ds:List (DataW H)} {before:List MemPlace} {tb:TypeId}
  (hts:∀ t∈f.params.toList,P.readableRec t=true∧t<P.types.size) (hr:f.resultTypes = #[tb]) (htb:P.underlying tb=some .bool) (hvars:s.vars=[])
  (hW:DataW.Whole enc P f.params.toList s.vars apart W args.toList ds [] before) (hb:Below W.heap.size W W')
  (hres:(s.fn H (ds++[])).results=[.lit (.bool true)]) (hargs:(s.fn H (ds++[])).args=ds) (hv:(s.fn H (ds++[])).vars=[]):s.post enc P f apart fresh handsOn again W args (.bool true) W':=by
 have hlt:=hW.lt
 obtain ⟨p,q,hA,hV,rfl,hfz,hnd⟩:=hW
 have hq:q=[]:=by rw [hvars] at hV; exact hV
 subst hq
 have hW:DataW.Whole enc P f.params.toList s.vars apart W args.toList ds [] (p++[]):=⟨p,[],hA,hV,rfl,hfz,hnd⟩
 have hA' : ∀ sp' : Nat→Bool,(∀ x∈p,sp' x.block=true)→DataW.TrodAll enc P W' 0 sp' true f.params.toList args.toList ds p:=fun sp' hs=>
  trodAll_stays hl hts hA (fun x hx=>hb.same (hlt x (by simp [hx]))) hs
 have hold:∀ x∈p,(fun b=>decide (b<W.heap.size)) x.block=true:=fun x hx=>by simpa using hlt x (by simp [hx])
 have hR:∀ (b:Nat) (sp:Nat→Bool) (hd:Bool),DataW.TrodAll enc P W' b sp hd f.resultTypes.toList ((Value.bool true).resultList f.resultTypes.size) [.lit (.bool true)] []:=fun b sp hd=>by
  rw [hr]
  exact trodAll_cons_mk (shut_bool htb _) trodAll_mk0
 have hA2:∀ sp' : Nat→Bool,(∀ x∈p,sp' x.block=true)→DataW.TrodAll enc P W' 0 sp' true f.params.toList args.toList (s.fn H (ds++[])).args p:=by rw [hargs]; exact hA'
 have hR2:∀ (b:Nat) (sp:Nat→Bool) (hd:Bool),DataW.TrodAll enc P W' b sp hd f.resultTypes.toList ((Value.bool true).resultList f.resultTypes.size) (s.fn H (ds++[])).results []:=by rw [hres]; exact hR
 have hV2:∀ sp:Nat→Bool,DataW.TrodVars enc P W' sp s.vars (s.fn H (ds++[])).vars []:=fun sp=>by rw [hv,hvars]; exact rfl
 refine ⟨ds,[],p++[],[],p,[],hW,hR2 _ _ _,hA2 _ hold,hV2 _,hb.frame _,fun _=>?_⟩
 refine ⟨ok_one hr rfl (okWide_bool_mk htb _),_,_,([]++p)++[],⟨[]++p,[],trodAll_append (hA2 _ (fun _ _=>rfl)) (hR2 _ _ _),hV2 _,rfl,?_,?_⟩,?_⟩
 ·intro b off hp
  have hp' : MemPlace.cell b off∈p:=by simpa using hp
  have hbl:b<W.heap.size:=hlt (.cell b off) (by simp [hp'])
  rw [hb.frozen (show (⟨b,off,none⟩ : Addr).block<W.heap.size from hbl)]
  exact hfz b off (by simp [hp'])
 ·intro ha
  have:=hnd ha
  simpa using this
 ·intro x hx _
  simpa using hx
end
theorem and_t {a b:Bool} (ha:a=true) (hb:b=true):(a && b)=true:=by rw [ha,hb]; rfl
abbrev listed : List (String × DataW Unit) := [("weir/ip4.widths", Rows.laid_weir_ip4_widths), ("weir/ip6.known", Rows.laid_weir_ip6_known), ("weir/l4.udpWidths", Rows.laid_weir_l4_udpWidths), ("weir/l4.tcpWidths", Rows.laid_weir_l4_tcpWidths), ("weir/l4.lengths", Rows.laid_weir_l4_lengths)]
theorem gWn : Tryd.prog.globalNamed "weir/ip4.widths" = some 0 := by kernel_rfl
theorem gWt:(Tryd.prog.globals[0]?).map (·.type)=some 118:=by kernel_rfl
theorem gWs:shT Tryd.prog env 9 118=some (.arr .i64 12):=by kernel_rfl
theorem gWl:118<Tryd.prog.types.size:=by decide +kernel
theorem gWv:avD (.arr .i64 12) (Rows.laid_weir_ip4_widths (H:=Unit))=(.arr .i64 12 [4,4,8,16,16,1,1,1,13,8,8,16]):=by kernel_rfl
theorem gKn : Tryd.prog.globalNamed "weir/ip6.known" = some 4 := by kernel_rfl
theorem gKt:(Tryd.prog.globals[4]?).map (·.type)=some 142:=by kernel_rfl
theorem gKs:shT Tryd.prog env 9 142=some (.agg [s237,s237,s237,s237]):=by kernel_rfl
theorem gKl:142<Tryd.prog.types.size:=by decide +kernel
theorem gKv:avD (.agg [s237,s237,s237,s237]) (Rows.laid_weir_ip6_known (H:=Unit))=(.agg [.agg [.int .i64 0,.int .i64 1],.agg [.int .i64 43,.int .i64 2],.agg [.int .i64 44,.int .i64 3],.agg [.int .i64 60,.int .i64 1]]):=by kernel_rfl
theorem gUn : Tryd.prog.globalNamed "weir/l4.udpWidths" = some 1 := by kernel_rfl
theorem gUt:(Tryd.prog.globals[1]?).map (·.type)=some 128:=by kernel_rfl
theorem gUs:shT Tryd.prog env 9 128=some (.arr .i64 4):=by kernel_rfl
theorem gUl:128<Tryd.prog.types.size:=by decide +kernel
theorem gUv:avD (.arr .i64 4) (Rows.laid_weir_l4_udpWidths (H:=Unit))=(.arr .i64 4 [16,16,16,16]):=by kernel_rfl
theorem gTn : Tryd.prog.globalNamed "weir/l4.tcpWidths" = some 2 := by kernel_rfl
theorem gTt:(Tryd.prog.globals[2]?).map (·.type)=some 130:=by kernel_rfl
theorem gTs:shT Tryd.prog env 9 130=some (.arr .i64 10):=by kernel_rfl
theorem gTl:130<Tryd.prog.types.size:=by decide +kernel
theorem gTv:avD (.arr .i64 10) (Rows.laid_weir_l4_tcpWidths (H:=Unit))=(.arr .i64 10 [16,16,32,32,4,4,8,16,16,16]):=by kernel_rfl
theorem gLn : Tryd.prog.globalNamed "weir/l4.lengths" = some 3 := by kernel_rfl
theorem gLt:(Tryd.prog.globals[3]?).map (·.type)=some 140:=by kernel_rfl
theorem gLs:shT Tryd.prog env 9 140=some (.arr .u64 9):=by kernel_rfl
theorem gLl:140<Tryd.prog.types.size:=by decide +kernel
theorem gLv:avD (.arr .u64 9) (Rows.laid_weir_l4_lengths (H:=Unit))=(.arr .u64 9 [0,0,16,8,4,17247241216,0,0,1024]):=by kernel_rfl
theorem globOK {W:World} (h:laidMetH Tryd.prog listed W) (ok:Nat→Prop) (hok:∀ b,b<W.heap.size→ok b):GlobOK W ok env.glob:=by
 rw [MakeChecks.laidMetH_plain _ _ _ (by kernel_rfl)] at h
 obtain ⟨ps,⟨g0,t0,cs0,f0,p0,q0,hg0,ht0,hv0,hd0,⟨g1,t1,cs1,f1,p1,q1,hg1,ht1,hv1,hd1,⟨g2,t2,cs2,f2,p2,q2,hg2,ht2,hv2,hd2,⟨g3,t3,cs3,f3,p3,q3,hg3,ht3,hv3,hd3,⟨g4,t4,cs4,f4,p4,q4,hg4,ht4,hv4,hd4,_,_⟩,_⟩,_⟩,_⟩,_⟩,_⟩:=h
 obtain rfl:=Option.some.inj (gWn.symm.trans hg0)
 obtain rfl:=Option.some.inj (gKn.symm.trans hg1)
 obtain rfl:=Option.some.inj (gUn.symm.trans hg2)
 obtain rfl:=Option.some.inj (gTn.symm.trans hg3)
 obtain rfl:=Option.some.inj (gLn.symm.trans hg4)
 obtain rfl:=Option.some.inj (gWt.symm.trans ht0)
 obtain rfl:=Option.some.inj (gKt.symm.trans ht1)
 obtain rfl:=Option.some.inj (gUt.symm.trans ht2)
 obtain rfl:=Option.some.inj (gTt.symm.trans ht3)
 obtain rfl:=Option.some.inj (gLt.symm.trans ht4)
 intro g t hg
 have hg:glob g=some t:=hg
 unfold glob at hg
 split at hg
 ·cases hg; exact glob_read lay hok gWs gWl rfl rfl hg0 hv0 hd0 gWv
 ·cases hg; exact glob_read lay hok gUs gUl rfl rfl hg2 hv2 hd2 gUv
 ·cases hg; exact glob_read lay hok gTs gTl rfl rfl hg3 hv3 hd3 gTv
 ·cases hg; exact glob_read lay hok gKs gKl rfl rfl hg1 hv1 hd1 gKv
 ·cases hg; exact glob_read lay hok gLs gLl rfl rfl hg4 hv4 hd4 gLv
 ·cases hg
theorem gd:∀ g t,env.glob g=some t→∃ s,WT s t∧inF [] s=true:=by
 intro g t hg
 have hg:glob g=some t:=hg
 unfold glob at hg
 split at hg
 ·cases hg; exact ⟨.arr .i64 12,by rw [show ((.arr .i64 12 [4,4,8,16,16,1,1,1,13,8,8,16]):AV)=eta (.arr .i64 12) (.arr .i64 12 [4,4,8,16,16,1,1,1,13,8,8,16]) by kernel_rfl]; exact eta_WT _ _,rfl⟩
 ·cases hg; exact ⟨.arr .i64 4,by rw [show ((.arr .i64 4 [16,16,16,16]):AV)=eta (.arr .i64 4) (.arr .i64 4 [16,16,16,16]) by kernel_rfl]; exact eta_WT _ _,rfl⟩
 ·cases hg; exact ⟨.arr .i64 10,by rw [show ((.arr .i64 10 [16,16,32,32,4,4,8,16,16,16]):AV)=eta (.arr .i64 10) (.arr .i64 10 [16,16,32,32,4,4,8,16,16,16]) by kernel_rfl]; exact eta_WT _ _,rfl⟩
 ·cases hg; exact ⟨.agg [s237,s237,s237,s237],by rw [show ((.agg [.agg [.int .i64 0,.int .i64 1],.agg [.int .i64 43,.int .i64 2],.agg [.int .i64 44,.int .i64 3],.agg [.int .i64 60,.int .i64 1]]):AV)=eta (.agg [s237,s237,s237,s237]) (.agg [.agg [.int .i64 0,.int .i64 1],.agg [.int .i64 43,.int .i64 2],.agg [.int .i64 44,.int .i64 3],.agg [.int .i64 60,.int .i64 1]]) by kernel_rfl]; exact eta_WT _ _,rfl⟩
 ·cases hg; exact ⟨.arr .u64 9,by rw [show ((.arr .u64 9 [0,0,16,8,4,17247241216,0,0,1024]):AV)=eta (.arr .u64 9) (.arr .u64 9 [0,0,16,8,4,17247241216,0,0,1024]) by kernel_rfl]; exact eta_WT _ _,rfl⟩
 ·cases hg
theorem door_met (os:Os) (args:Array Value):laidMetH Tryd.prog listed ((World.doorLaid Tryd.prog 400 os).forCall (fun _ _=>0) ⟨#[],args,[]⟩).memory:=
 laidMetH_of_parts3 (fuel:=8) (laidMet_of_run' 8 (by kernel_rfl) (by kernel_rfl)) (by kernel_rfl) (by kernel_rfl)
theorem sh46:shT Tryd.prog env 9 46=some s46:=by kernel_rfl
theorem sh66:shT Tryd.prog env 9 48=some s66:=by kernel_rfl
theorem lt46:46<Tryd.prog.types.size:=by decide +kernel
theorem lt66:48<Tryd.prog.types.size:=by decide +kernel
end Go.Proofs.YtlmnjnhmhacgkaaDoor.Top
end
section
set_option linter.unusedVariables false
set_option maxRecDepth 100000
namespace Go.Proofs.YtlmnjnhmhacgkaaDoor.Top
open Go Go.Am Go.Proofs Go.Proofs.YtlmnjnhmhacgkaaDoor.Am
open Go.ChangeShapes Go.WideShapes Go.ChangeAt Go.RowKit
mutual
def Sml (N:Nat):Sh→AV→Prop
 | .agg ss,x=>match x with | .agg cs=>Smls N ss cs | _=>True
 | .fs k,x=>x.toInts.length≤N
 | .fv s,x=>x.toElems.length≤N∧∀ y∈x.toElems,Sml N s y
 | .int _,_=>True
 | .bool,_=>True
 | .str,_=>True
 | .arr _ _,_=>True
 | .nl _,_=>True
 | .pt _,_=>True
 | .mp _,_=>True
def Smls (N:Nat):List Sh→List AV→Prop
 | s::ss,c::cs=>Sml N s c∧Smls N ss cs
 | _,_=>True
end
section
variable {H:Type}
theorem bulk_one (d:DataW H):1≤Rows.uptoBulk d:=by
 cases d with
 | lit l=>cases l <;> simp [Rows.uptoBulk]
 | nil=>simp [Rows.uptoBulk]
 | ptr d=>simp [Rows.uptoBulk]
 | slice elems spare=>simp [Rows.uptoBulk]
 | agg parts=>simp [Rows.uptoBulk]
 | iface t d=>simp [Rows.uptoBulk]
 | map entries=>simp [Rows.uptoBulk]
 | held h=>simp [Rows.uptoBulk]
theorem bulk_len (l:List (DataW H)):l.length≤Rows.uptoBulkAll l:=by
 induction l with
 | nil=>simp [Rows.uptoBulkAll]
 | cons x r ih=>have:=bulk_one x; simp only [Rows.uptoBulkAll,List.length_cons]; omega
theorem bulk_mem {d:DataW H} {l:List (DataW H)} (h:d∈l):Rows.uptoBulk d≤Rows.uptoBulkAll l:=by
 induction l with
 | nil=>cases h
 | cons x r ih=>
  simp only [Rows.uptoBulkAll]
  rcases List.mem_cons.1 h with rfl | h
  ·omega
  ·have:=ih h; omega
mutual
theorem sml_of {N:Nat}:∀ (s:Sh) (d:DataW H),Rows.uptoBulk d≤N→Sml N s (avD s d)
 | .int _,_,_=>trivial
 | .bool,_,_=>trivial
 | .str,_,_=>trivial
 | .arr _ _,_,_=>trivial
 | .nl _,_,_=>trivial
 | .pt _,_,_=>trivial
 | .mp _,_,_=>trivial
 | .agg ss,d,h=>by
  unfold avD
  split
  ·rename_i l
   simp only [Rows.uptoBulk] at h
   exact smls_of ss l (by omega)
  ·cases ss <;> exact trivial
 | .fs k,d,h=>by
  unfold avD
  split
  ·rename_i l sp
   simp only [Rows.uptoBulk] at h
   have:=bulk_len l
   show (l.map dInt).length≤N
   rw [List.length_map]; omega
  ·show ([]:List Int).length≤N
   simp
 | .fv s,d,h=>by
  unfold avD
  split
  ·rename_i l sp
   simp only [Rows.uptoBulk] at h
   have hl:=bulk_len l
   refine ⟨by show (l.map (avD s)).length≤N; rw [List.length_map]; omega,fun y hy=>?_⟩
   obtain ⟨e,he,rfl⟩:=List.mem_map.1 hy
   have:=bulk_mem he
   exact sml_of s e (by omega)
  ·exact ⟨by show ([]:List AV).length≤N; simp,fun y hy=>by cases hy⟩
theorem smls_of {N:Nat}:∀ (ss:List Sh) (ds:List (DataW H)),Rows.uptoBulkAll ds≤N→Smls N ss (avDs ss ds)
 | [],ds,_=>by cases ds <;> exact trivial
 | s::ss,[],_=>trivial
 | s::ss,d::ds,h=>by
  simp only [Rows.uptoBulkAll] at h
  exact ⟨sml_of s d (by omega),smls_of ss ds (by omega)⟩
end
end
theorem inK8 {n:Int} (h:inK .u8 n):0≤n∧n≤255:=by
 have h1:IntKind.u8.min=0:=rfl
 have h2:IntKind.u8.max=255:=rfl
 unfold inK at h
 simp only [Lit.wf,Bool.and_eq_true,decide_eq_true_eq] at h
 omega
theorem by_fit {l:List Int} (h:Fit (.fs .u8) (.fs .u8 l)):Bytes l:=fun x hx=>inK8 (h x hx)
theorem ip_fit {x:Ip} (h:Fit s27 x.av):x.Ok:=⟨h.2.1.1,fun y hy=>inK8 (h.2.1.2 y hy)⟩
theorem mac_fit {l:List Int} (h:Fit (.arr .u8 6) (.arr .u8 6 l)):l.length=6∧Bytes l:=⟨h.1,fun y hy=>inK8 (h.2 y hy)⟩
theorem opts_fit {l:List Opt} (h:Fit (.fv s93) (.fv s93 (l.map Opt.av))):∀ o∈l,Bytes o.data:=fun o ho=>by
 have:=h o.av (List.mem_map.2 ⟨o,ho,rfl⟩)
 exact by_fit this.2.1
theorem exts_fit {l:List Ext} (h:Fit (.fv s124) (.fv s124 (l.map Ext.av))):∀ x∈l,Bytes x.data∧∀ o∈x.opts,Bytes o.data:=fun x hx=>by
 have:=h x.av (List.mem_map.2 ⟨x,hx,rfl⟩)
 exact ⟨by_fit this.2.2.1,opts_fit this.2.1⟩
theorem opts_sml {N:Nat} {l:List Opt} (h:Sml N (.fv s93) (.fv s93 (l.map Opt.av))):l.length≤N∧∀ o∈l,o.data.length≤N:=by
 have h1:(l.map Opt.av).length≤N:=h.1
 rw [List.length_map] at h1
 refine ⟨h1,fun o ho=>?_⟩
 have:=h.2 o.av (List.mem_map.2 ⟨o,ho,rfl⟩)
 exact this.2.1
theorem exts_sml {l:List Ext} (h:Sml (2 ^ 20) (.fv s124) (.fv s124 (l.map Ext.av))):l.length≤2 ^ 20∧∀ x∈l,x.Sm:=by
 have h1:(l.map Ext.av).length≤2 ^ 20:=h.1
 rw [List.length_map] at h1
 refine ⟨h1,fun x hx=>?_⟩
 have:=h.2 x.av (List.mem_map.2 ⟨x,hx,rfl⟩)
 have ho:=opts_sml this.2.1
 exact ⟨ho.1,ho.2,this.2.2.1⟩
theorem pkt_sm {p:Pkt} (f:Fit s46 p.av) (g:Sml (2 ^ 20) s46 p.av):p.Sm:=by
 obtain ⟨f0,f1,f2,f3,f4,f5,f6,f7,f8,f9,f10,_⟩:=f
 obtain ⟨g0,g1,g2,g3,g4,g5,g6,g7,g8,g9,g10,_⟩:=g
 obtain ⟨_,a1,a2,a3,a4,_⟩:=f4
 obtain ⟨_,_,_,_,_,_,_,b7,b8,b9,b10,_⟩:=f5
 obtain ⟨_,_,_,_,_,_,_,_,_,gb9,gb10,_⟩:=g5
 obtain ⟨_,_,_,c3,c4,c5,_,_,c8,_⟩:=f6
 obtain ⟨_,_,_,_,_,gc5,_,_,gc8,_⟩:=g6
 obtain ⟨_,_,_,_,d4,_⟩:=f8
 obtain ⟨_,_,_,_,gd4,_⟩:=g8
 obtain ⟨_,_,_,e3,_⟩:=f9
 obtain ⟨_,_,_,ge3,_⟩:=g9
 obtain ⟨_,_,_,_,_,_,_,h7,h8,_⟩:=f10
 obtain ⟨_,_,_,_,_,_,_,gh7,gh8,_⟩:=g10
 have t:(p.tags.map Tag.av).length≤2 ^ 20:=g2.1
 rw [List.length_map] at t
 have o4:=opts_sml gb9
 have x6:=exts_sml gc5
 have ot:=opts_sml gh7
 exact ⟨⟨ip_fit b7,ip_fit b8,ip_fit c3,ip_fit c4,mac_fit f0,mac_fit f1,mac_fit a1,mac_fit a3,ip_fit a2,ip_fit a4,opts_fit b9,by_fit b10,exts_fit c5,by_fit c8,by_fit d4,by_fit e3,opts_fit h7,by_fit h8⟩,
  t,o4.1,o4.2,gb10,x6.2,x6.1,gc8,gd4,ge3,ot.1,ot.2,gh8⟩
def zmac_:Array Value:=#[.int .u8 0,.int .u8 0,.int .u8 0,.int .u8 0,.int .u8 0,.int .u8 0]
def zip_:Array Value:=#[.int .i64 0,.int .u8 0,.int .u8 0,.int .u8 0,.int .u8 0,.int .u8 0,.int .u8 0,.int .u8 0,.int .u8 0,.int .u8 0,.int .u8 0,.int .u8 0,.int .u8 0,.int .u8 0,.int .u8 0,.int .u8 0,.int .u8 0]
def zi_:Value:=.int .i64 0
def zb_:Value:=.bool false
def zs_:Value:=.slice none 0 0
def zpkt_:Value:=.agg (zmac_++zmac_++#[zs_,zi_,zi_]++zmac_++zip_++zmac_++zip_++#[zi_,zi_,zb_,zb_,zi_,zi_,zi_]++zip_++zip_++#[zs_,zs_,zi_,zi_,zi_]++zip_++zip_++#[zs_,zb_,zb_,zi_,zi_,zi_,zs_,zi_,zi_,zi_,zi_,zi_,zs_,zi_,zi_,zb_,zs_,zi_,zi_,zi_,zi_,zi_,zi_,zi_,zs_,zs_])
def ztup_:Value:=.agg (#[zi_]++zip_++zip_++#[zi_,zi_])
theorem bulk_of {H:Type} {l:List (DataW H)} (h:Rows.uptoSmall H l=true):Rows.uptoBulkAll l≤2 ^ 20:=by
 have:Rows.uptoBulkAll l≤1048576:=by simpa [Rows.uptoSmall] using h
 omega
end Go.Proofs.YtlmnjnhmhacgkaaDoor.Top
end
