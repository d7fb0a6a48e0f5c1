/-
  weirlaw10.PacketCanon answers true, and its argument reads behind the call as it did before, at every input (the card PacketCanonCardSaid, tied: the listed variables hold what the program's text lays). No other condition.
-/
import Derived.Test.YtlmnjnhmhacgkaaGreatDoorPkK
import Derived.Test.YtlmnjnhmhacgkaaGreatDoorPkJ
import Derived.Test.YtlmnjnhmhacgkaaGreatDoorPkN
section
set_option linter.unusedVariables false
set_option maxRecDepth 100000
namespace Go.Proofs.YtlmnjnhmhacgkaaGreatDoor.Top
open Go Go.Am Go.Proofs Go.Proofs.YtlmnjnhmhacgkaaGreatDoor.Am
open Go.ChangeShapes Go.WideShapes Go.ChangeAt Go.RowKit
theorem KU {H:Type} {enc:TypeId × Value->H} {W:World} {base:Nat} {r:Reach} {w:World} {v0:Value} {d0:DataW H} {p0:List MemPlace} (hv0:Value.okWide Tryz.prog w r base 31 v0)
  (h0:DataW.Trod enc Tryz.prog W 0 (fun _=>true) true 31 v0 d0 p0) (hL:laidMetH Tryz.prog listed W) :
  Calls Tryz.prog 6 #[v0] W fun e W'=>e=.returned (.bool true)/\Below W.heap.size W W':=by
 obtain ⟨_,⟨l,hx⟩,f0⟩:=Kt (ok:=fun b=>b<W.heap.size) (θ:=fun _=>none) lay (fun _ h=>h) Tryz.underlying31 KC KP rfl rfl hv0 h0;rw [hx] at f0;refine iB T6 (n:=N0) (xs:=[.fs .u8 l]) (b6 l (Ky f0)) rfl rfl rfl rfl rfl rfl rfl gd (fun ok hok=>?_) (Vj hL);obtain ⟨c0,_,_⟩:=Kt (ok:=ok) (θ:=fun _=>none) lay hok Tryz.underlying31 KC KP rfl rfl hv0 h0;rw [hx] at c0;exact ⟨v0,[],rfl,c0,rfl⟩
theorem Ki (os:Os) (started:os.Started) (H:Type) (enc:TypeId × Value->H) :
  ReturnsInHanded {} Tryz.checked os 6 .any (fun w args=>(Rows.packetCanonSpec.pre enc Tryz.prog Tryz.f6 [] false w args/\laidMetH Tryz.prog listed w)/\sizedMet enc Tryz.prog Tryz.f6 (OpenSpec.ofChange Rows.packetCanonSpec) false w args)
   (Rows.packetCanonSpec.post enc Tryz.prog Tryz.f6 false true false false):=by
 refine returnsInHanded_of_change_and (C:=Tryz.checked) (X:=fun w _=>laidMetH Tryz.prog listed w) (fun _ _ _ hh h=>h.of_heap hh) own started (by kernel_rfl) Tryz.func6
  (ChangeSpec.witness_shaped (enc:=enc) (C:=Tryz.checked) (os:=os) (X:=fun w _=>laidMetH Tryz.prog listed w) false (World.doorLaid Tryz.prog 400 os) #[.slice none 0 0] 8 rfl (World.shaped_of_RefB (by kernel_rfl) (by kernel_rfl)) (by kernel_rfl) (by kernel_rfl) (by kernel_rfl) (QC os _)) ?_
 intro W base args ds gs before hval0 hW _ _ hL _;have hval:∀ (j:Nat) t v,Tryz.f6.params[j]? = some t->args[j]? = some v->Value.okWide Tryz.prog W .any base t v:=hval0;have hW':=hW;obtain ⟨p,q,hA0,hV,rfl,hfz,hnd⟩:=hW;have hA:DataW.TrodAll enc Tryz.prog W 0 (fun _=>true) true Tryz.f6.params.toList args.toList ds p:=hA0;rw [Tryz.params6] at hA hval;obtain ⟨v0,vs0,d0,ds0,p0,q0,hargs,rfl,rfl,h0,r0⟩:=trodAll_cons hA;obtain ⟨rfl,rfl,rfl⟩:=trodAll_nil r0;obtain rfl:args = #[v0]:=by cases args; simp_all
 obtain ⟨rfl,rfl⟩:=trodVars_none hV;refine (KU (hval 0 31 _ rfl rfl) h0 hL).mono fun e W' h=>?_
 obtain ⟨rfl,hb⟩:=h;exact ⟨_,rfl,ox lay (by rw [Tryz.params6]; decide +kernel) rfl Tryz.underlying4 rfl hW' hb rfl rfl rfl⟩
theorem KM:Rows.PacketCanonSaid:=
 OpenClaim.holds_of_wide_leaving 6 Tryz.f6 rfl rfl rfl rfl rfl rfl rfl ⟨rfl,rfl,rfl,rfl,rfl⟩ rfl rfl rfl rfl rfl (by kernel_rfl) Tryz.func6 packetCanon_facts
  (of_decide_eq_true (by kernel_rfl)) (by unfold Func.isWrapper; first | (rw [if_pos (by decide +kernel)]; kernel_rfl) | (rw [if_neg (by decide +kernel)]; exact ⟨rfl,rfl⟩))
  (fun os started H enc _=>ml (Ki os started H enc))
theorem packetCanon:Rows.PacketCanonCardSaid:=
 iS .later [.data, .data, .data, .data, .data] true (true, "de1881f335d967bb94e2e97f87fb5b88821b989b9c4e96864de1193f0998bff6") false
  KM (by kernel_rfl) packetCanon_row_tie rfl ⟨rfl,rfl⟩ (by kernel_rfl) rfl
  (fun f fn hf hfn=>by
   obtain rfl : f = 6 := Option.some.inj ((show Tryz.prog.funcNamed "weir/weirlaw10.PacketCanon" = some 6 by kernel_rfl).symm.trans hf) |>.symm;obtain rfl:fn=Tryz.f6:=(Option.some.inj (Tryz.func6.symm.trans hfn)).symm
   exact ⟨by kernel_rfl,fun j t ht=>by
    rw [Tryz.params6] at ht;have hm:t∈[31]:=by simpa using Array.mem_of_getElem? ht
    have hall:([31].all fun u=>!Tryz.prog.wantsStandIn u)=true:=by kernel_rfl
    exact (show Tryz.prog.wantsStandIn t=false by simpa using List.all_eq_true.1 hall t hm)⟩)
  (by kernel_rfl)
#print axioms packetCanon
end Go.Proofs.YtlmnjnhmhacgkaaGreatDoor.Top
end
