/-
  The closed facts of the row packetTuples, together. Printed by a program (wip/pk/rowfacts.py).
  weirlaw10.PacketTuples answers true, and its arguments read behind the call as they did before, at every input (the card PacketTuplesCardSaid, tied: the listed variables hold what the program's text lays). No other condition.
-/
import Derived.Test.YtlmnjnhmhacgkaaGreatDoorPkI
import Derived.Test.YtlmnjnhmhacgkaaGreatDoorPkJ
import Derived.Test.YtlmnjnhmhacgkaaGreatDoorPkH
import Derived.Test.YtlmnjnhmhacgkaaGreatDoorPkG
section
set_option linter.unusedVariables false
set_option maxRecDepth 100000
namespace Go.Proofs.YtlmnjnhmhacgkaaGreatDoor.Top
open Go Go.Am Go.Proofs Go.Proofs.YtlmnjnhmhacgkaaGreatDoor.Am

theorem packetTuples_facts : joinedFacts Tryz.pinned.checked.prog 8 Tryz.f8 Rows.packetTuplesSpec Rows.packetTuplesRow = true := by
  unfold joinedFacts
  exact and_t (and_t (and_t (and_t (and_t (and_t (and_t (and_t (and_t (and_t (and_t (and_t (and_t (and_t (and_t (and_t (and_t (and_t (and_t (and_t (and_t (and_t (and_t (and_t (and_t (and_t (and_t (and_t (and_t (and_t (and_t packetTuples_k0 packetTuples_k1) packetTuples_k2) packetTuples_k3) packetTuples_k4) packetTuples_k5) packetTuples_k6) packetTuples_k7) packetTuples_k8) packetTuples_k9) packetTuples_k10) packetTuples_k11) packetTuples_k12) packetTuples_k13) packetTuples_k14) packetTuples_k15) packetTuples_k16) packetTuples_k17) packetTuples_k18) packetTuples_k19) packetTuples_k20) packetTuples_k21) packetTuples_k22) packetTuples_k23) packetTuples_k24) packetTuples_k25) packetTuples_k26) packetTuples_k27) packetTuples_k28) packetTuples_k29) packetTuples_k30) packetTuples_k31
end Go.Proofs.YtlmnjnhmhacgkaaGreatDoor.Top
end

section
set_option linter.unusedVariables false
set_option maxRecDepth 100000
namespace Go.Proofs.YtlmnjnhmhacgkaaGreatDoor.Top
open Go Go.Am Go.Proofs Go.Proofs.YtlmnjnhmhacgkaaGreatDoor.Am
open Go.ChangeShapes Go.WideShapes Go.ChangeAt Go.RowKit

def zmac_ : Array Value := #[.int .u8 0, .int .u8 0, .int .u8 0, .int .u8 0, .int .u8 0, .int .u8 0]
def zip_ : Array Value := #[.int .i64 0, .int .u8 0, .int .u8 0, .int .u8 0, .int .u8 0, .int .u8 0, .int .u8 0, .int .u8 0, .int .u8 0, .int .u8 0, .int .u8 0, .int .u8 0, .int .u8 0, .int .u8 0, .int .u8 0, .int .u8 0, .int .u8 0]
def zi_ : Value := .int .i64 0
def zb_ : Value := .bool false
def zs_ : Value := .slice none 0 0
def zpkt_ : Value := .agg (zmac_ ++ zmac_ ++ #[zs_, zi_, zi_] ++ zmac_ ++ zip_ ++ zmac_ ++ zip_ ++ #[zi_, zi_, zb_, zb_, zi_, zi_, zi_] ++ zip_ ++ zip_ ++ #[zs_, zs_, zi_, zi_, zi_] ++ zip_ ++ zip_ ++ #[zs_, zb_, zb_, zi_, zi_, zi_, zs_, zi_, zi_, zi_, zi_, zi_, zs_, zi_, zi_, zb_, zs_, zi_, zi_, zi_, zi_, zi_, zi_, zi_, zs_, zs_])
def ztup_ : Value := .agg (#[zi_] ++ zip_ ++ zip_ ++ #[zi_, zi_])

theorem call8 {H : Type} {enc : TypeId × Value → H} {W : World} {base : Nat} {r : Reach} {w : World} {v0 v1 : Value} {d0 d1 : DataW H} {p0 p1 : List MemPlace} (hv0 : Value.okWide Tryz.prog w r base 46 v0) (hv1 : Value.okWide Tryz.prog w r base 66 v1)
    (h0 : DataW.Trod enc Tryz.prog W 0 (fun _ => true) true 46 v0 d0 p0) (h1 : DataW.Trod enc Tryz.prog W 0 (fun _ => true) true 66 v1 d1 p1) (hL : laidMetH Tryz.prog listed W) :
    Calls Tryz.prog 8 #[v0, v1] W fun e W' => e = .returned (.bool true) ∧ Below W.heap.size W W' := by
  obtain ⟨_, w0, f0⟩ := arg_struct (ok := fun b => b < W.heap.size) (θ := fun _ => none) lay (fun _ h => h) Tryz.underlying46 sh46 lt46 rfl rfl hv0 h0
  obtain ⟨_, w1, f1⟩ := arg_struct (ok := fun b => b < W.heap.size) (θ := fun _ => none) lay (fun _ h => h) Tryz.underlying66 sh66 lt66 rfl rfl hv1 h1
  have hp := Pkt.in_ (deep_of_fit s46 d0 f0)
  have ht := Tup.in_ (deep_of_fit s66 d1 f1)
  generalize Pkt.of (avD s46 d0) = p at hp
  generalize Tup.of (avD s66 d1) = t at ht
  refine call_true T8 (n := N0) (xs := [p.av, t.av]) (b8 p t) rfl rfl rfl rfl rfl rfl rfl gd (fun ok hok => ?_) (globOK hL)
  obtain ⟨c0, _, _⟩ := arg_struct (ok := ok) (θ := fun _ => none) lay hok Tryz.underlying46 sh46 lt46 rfl rfl hv0 h0
  obtain ⟨c1, _, _⟩ := arg_struct (ok := ok) (θ := fun _ => none) lay hok Tryz.underlying66 sh66 lt66 rfl rfl hv1 h1
  have hp' : avD (.agg _) d0 = p.av := hp.symm
  have ht' : avD (.agg _) d1 = t.av := ht.symm
  rw [hp'] at c0
  rw [ht'] at c1
  exact ⟨v0, [v1], rfl, c0, v1, [], rfl, c1, rfl⟩

theorem lifted8 (os : Os) (started : os.Started) (H : Type) (enc : TypeId × Value → H) :
    ReturnsInHanded {} Tryz.checked os 8 .any (fun w args => (Rows.packetTuplesSpec.pre enc Tryz.prog Tryz.f8 [] false w args ∧ laidMetH Tryz.prog listed w) ∧ sizedMet enc Tryz.prog Tryz.f8 (OpenSpec.ofChange Rows.packetTuplesSpec) false w args)
      (Rows.packetTuplesSpec.post enc Tryz.prog Tryz.f8 false true false false) := by
  refine returnsInHanded_of_change_and (C := Tryz.checked) (X := fun w _ => laidMetH Tryz.prog listed w) (fun _ _ _ hh h => h.of_heap hh) own started (by kernel_rfl) Tryz.func8
    (ChangeSpec.witness_shaped (enc := enc) (C := Tryz.checked) (os := os) (X := fun w _ => laidMetH Tryz.prog listed w) false (World.doorLaid Tryz.prog 400 os) #[zpkt_, ztup_] 8 rfl (World.shaped_of_RefB (by kernel_rfl) (by kernel_rfl)) (by kernel_rfl) (by kernel_rfl) (by kernel_rfl) (door_met os _)) ?_
  intro W base args ds gs before hval0 hW _ _ hL _
  have hval : ∀ (j : Nat) t v, Tryz.f8.params[j]? = some t → args[j]? = some v → Value.okWide Tryz.prog W .any base t v := hval0
  have hW' := hW
  obtain ⟨p, q, hA0, hV, rfl, hfz, hnd⟩ := hW
  have hA : DataW.TrodAll enc Tryz.prog W 0 (fun _ => true) true Tryz.f8.params.toList args.toList ds p := hA0
  rw [Tryz.params8] at hA hval
  obtain ⟨v0, vs0, d0, ds0, p0, q0, hargs, rfl, rfl, h0, r0⟩ := trodAll_cons hA
  obtain ⟨v1, vs1, d1, ds1, p1, q1, hargs1, rfl, rfl, h1, r1⟩ := trodAll_cons r0
  obtain ⟨rfl, rfl, rfl⟩ := trodAll_nil r1
  subst hargs1
  obtain rfl : args = #[v0, v1] := by cases args; simp_all
  obtain ⟨rfl, rfl⟩ := trodVars_none hV
  refine (call8 (hval 0 46 _ rfl rfl) (hval 1 66 _ rfl rfl) h0 h1 hL).mono fun e W' h => ?_
  obtain ⟨rfl, hb⟩ := h
  exact ⟨_, rfl, post_true lay (by rw [Tryz.params8]; decide +kernel) rfl Tryz.underlying4 rfl hW' hb rfl rfl rfl⟩

theorem said8 : Rows.PacketTuplesSaid :=
  OpenClaim.holds_of_wide_leaving 8 Tryz.f8 rfl rfl rfl rfl rfl rfl rfl ⟨rfl, rfl, rfl, rfl, rfl⟩ rfl rfl rfl rfl rfl (by kernel_rfl) Tryz.func8 packetTuples_facts
    (of_decide_eq_true (by kernel_rfl)) (by unfold Func.isWrapper; first | (rw [if_pos (by decide +kernel)]; kernel_rfl) | (rw [if_neg (by decide +kernel)]; exact ⟨rfl, rfl⟩))
    (fun os started H enc _ => leaving_of_handed (lifted8 os started H enc))

theorem packetTuples : Rows.PacketTuplesCardSaid :=
  tied_goes .later [.data, .data, .data, .data, .data] true (true, "de1881f335d967bb94e2e97f87fb5b88821b989b9c4e96864de1193f0998bff6") false
    said8 (by kernel_rfl) packetTuples_row_tie rfl ⟨rfl, rfl⟩ (by kernel_rfl) rfl
    (fun f fn hf hfn => by
      obtain rfl : f = 8 := Option.some.inj ((show Tryz.prog.funcNamed "weir/weirlaw10.PacketTuples" = some 8 by kernel_rfl).symm.trans hf) |>.symm
      obtain rfl : fn = Tryz.f8 := (Option.some.inj (Tryz.func8.symm.trans hfn)).symm
      exact ⟨by kernel_rfl, fun j t ht => by
        rw [Tryz.params8] at ht
        have hm : t ∈ [46, 66] := by simpa using Array.mem_of_getElem? ht
        have hall : ([46, 66].all fun u => !Tryz.prog.wantsStandIn u) = true := by kernel_rfl
        exact (show Tryz.prog.wantsStandIn t = false by simpa using List.all_eq_true.1 hall t hm)⟩)
    (by kernel_rfl)
#print axioms packetTuples
end Go.Proofs.YtlmnjnhmhacgkaaGreatDoor.Top
end
