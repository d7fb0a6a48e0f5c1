/-
  weirlaw10.PacketUnlike answers true, and its arguments read behind the call as they did before, at all arguments whose reading is of bulk at most 1048576 (the card PacketUnlikeUptoCardSaid, tied: the listed variables hold what the program's text lays). No other condition.
-/
import Derived.Test.YtlmnjnhmhacgkaaGreatDoorPkK
import Derived.Test.YtlmnjnhmhacgkaaGreatDoorPkN
section
set_option linter.unusedVariables false
set_option maxRecDepth 100000
namespace Go.Proofs.YtlmnjnhmhacgkaaGreatDoor.Top
open Go Go.Am Go.Proofs Go.Proofs.YtlmnjnhmhacgkaaGreatDoor.Am
open Go.ChangeShapes Go.WideShapes Go.ChangeAt Go.RowKit
theorem call3 {H : Type} {enc : TypeId × Value → H} {W : World} {base : Nat} {r : Reach} {w : World} {v0 v1 : Value} {d0 d1 : DataW H} {p0 p1 : List MemPlace} (hv0 : Value.okWide Tryz.prog w r base 46 v0) (hv1 : Value.okWide Tryz.prog w r base 46 v1)
    (h0 : DataW.Trod enc Tryz.prog W 0 (fun _ => true) true 46 v0 d0 p0) (h1 : DataW.Trod enc Tryz.prog W 0 (fun _ => true) true 46 v1 d1 p1) (hL : laidMetH Tryz.prog listed W) (hb0 : Rows.uptoBulk d0 ≤ 2 ^ 20) (hb1 : Rows.uptoBulk d1 ≤ 2 ^ 20) :
    Calls Tryz.prog 3 #[v0, v1] W fun e W' => e = .returned (.bool true) ∧ Below W.heap.size W W' := by
  obtain ⟨_, w0, f0⟩ := arg_struct (ok := fun b => b < W.heap.size) (θ := fun _ => none) lay (fun _ h => h) Tryz.underlying46 sh46 lt46 rfl rfl hv0 h0
  obtain ⟨_, w1, f1⟩ := arg_struct (ok := fun b => b < W.heap.size) (θ := fun _ => none) lay (fun _ h => h) Tryz.underlying46 sh46 lt46 rfl rfl hv1 h1
  have hp := Pkt.in_ (deep_of_fit s46 d0 f0)
  have hq := Pkt.in_ (deep_of_fit s46 d1 f1)
  have hs := sml_of (N := 2 ^ 20) s46 d0 hb0
  have hs1 := sml_of (N := 2 ^ 20) s46 d1 hb1
  change Fit s46 (avD s46 d0) at f0
  change Fit s46 (avD s46 d1) at f1
  rw [← hp] at f0 hs
  rw [← hq] at f1 hs1
  have hsm := pkt_sm f0 hs
  have hsm1 := pkt_sm f1 hs1
  generalize Pkt.of (avD s46 d0) = p at hp hsm
  generalize Pkt.of (avD s46 d1) = q at hq hsm1
  refine call_true T3 (n := N0) (xs := [p.av, q.av]) (b3 p q hsm hsm1) rfl rfl rfl rfl rfl rfl rfl gd (fun ok hok => ?_) (globOK hL)
  obtain ⟨c0, _, _⟩ := arg_struct (ok := ok) (θ := fun _ => none) lay hok Tryz.underlying46 sh46 lt46 rfl rfl hv0 h0
  obtain ⟨c1, _, _⟩ := arg_struct (ok := ok) (θ := fun _ => none) lay hok Tryz.underlying46 sh46 lt46 rfl rfl hv1 h1
  have hp' : avD (.agg _) d0 = p.av := hp.symm
  have hq' : avD (.agg _) d1 = q.av := hq.symm
  rw [hp'] at c0
  rw [hq'] at c1
  exact ⟨v0, [v1], rfl, c0, v1, [], rfl, c1, rfl⟩
theorem lifted3 (os : Os) (started : os.Started) (H : Type) (enc : TypeId × Value → H) (F : Stop.Interp) :
    ReturnsInHanded {} Tryz.checked os 3 .any ((Rows.OpenSpec.upto Rows.packetUnlikeSpec).preRow enc Tryz.prog Tryz.f3 Rows.packetUnlikeUptoRow.domain false Rows.packetUnlikeUptoRow.laid) (((Rows.OpenSpec.upto Rows.packetUnlikeSpec).at F).post enc Tryz.prog Tryz.f3 false true false false) := by
  have hsome : (match DataW.whole enc Tryz.prog ((World.doorLaid Tryz.prog 400 os).forCall (fun _ _ => 0) ⟨#[], #[zpkt_, zpkt_], []⟩).memory Tryz.f3.params.toList Rows.packetUnlikeSpec.vars false #[zpkt_, zpkt_].toList 9 with
      | some x => Rows.uptoSmall H (x.1 ++ x.2.1)
      | none => false) = true := by kernel_rfl
  obtain ⟨x, hx, hx2⟩ : ∃ x, DataW.whole enc Tryz.prog ((World.doorLaid Tryz.prog 400 os).forCall (fun _ _ => 0) ⟨#[], #[zpkt_, zpkt_], []⟩).memory Tryz.f3.params.toList Rows.packetUnlikeSpec.vars false #[zpkt_, zpkt_].toList 9 = some x ∧ Rows.uptoSmall H (x.1 ++ x.2.1) = true := by
    split at hsome
    · rename_i x hx; exact ⟨x, hx, hsome⟩
    · cases hsome
  refine returnsInHanded_of_row (C := Tryz.checked) (s := Rows.OpenSpec.upto Rows.packetUnlikeSpec) own started (by kernel_rfl) Tryz.func3
    (witness_row_atRef (enc := enc) (C := Tryz.checked) false (World.doorLaid Tryz.prog 400 os) #[zpkt_, zpkt_] rfl (by kernel_rfl) (by kernel_rfl) (by kernel_rfl)
      (OpenSpec.preRow_of_cond 9 hx (by kernel_rfl) (fun k hk => by cases hk; exact hx2) (by kernel_rfl) (door_met os _))) ?_
  intro W base args ds gs before hval0 hW _ hcond _ hL _ _
  have hval : ∀ (j : Nat) t v, Tryz.f3.params[j]? = some t → args[j]? = some v → Value.okWide Tryz.prog W .any base t v := hval0
  have hL : laidMetH Tryz.prog listed W := hL
  have hW' := hW
  obtain ⟨p, q, hA0, hV, rfl, hfz, hnd⟩ := hW
  have hA : DataW.TrodAll enc Tryz.prog W 0 (fun _ => true) true Tryz.f3.params.toList args.toList ds p := hA0
  rw [Tryz.params3] at hA hval
  obtain ⟨v0, vs0, d0, ds0, p0, q0, hargs, rfl, rfl, h0, r0⟩ := trodAll_cons hA
  obtain ⟨v1, vs1, d1, ds1, p1, q1, hargs1, rfl, rfl, h1, r1⟩ := trodAll_cons r0
  obtain ⟨rfl, rfl, rfl⟩ := trodAll_nil r1
  subst hargs1
  obtain rfl : args = #[v0, v1] := by cases args; simp_all
  obtain ⟨rfl, rfl⟩ := trodVars_none hV
  have hk := bulk_of (hcond _ rfl)
  have hk0 : Rows.uptoBulk d0 ≤ 2 ^ 20 := by
    have : Rows.uptoBulk d0 ≤ Rows.uptoBulkAll ([d0, d1] ++ []) := bulk_mem (by simp)
    omega
  have hk1 : Rows.uptoBulk d1 ≤ 2 ^ 20 := by
    have : Rows.uptoBulk d1 ≤ Rows.uptoBulkAll ([d0, d1] ++ []) := bulk_mem (by simp)
    omega
  refine (call3 (hval 0 46 _ rfl rfl) (hval 1 46 _ rfl rfl) h0 h1 hL hk0 hk1).mono fun e W' h => ?_
  obtain ⟨rfl, hb⟩ := h
  exact ⟨_, rfl, post_true (s := Rows.packetUnlikeSpec) lay (by rw [Tryz.params3]; decide +kernel) rfl Tryz.underlying4 rfl hW' hb rfl rfl rfl⟩
theorem said3 : Rows.PacketUnlikeUptoSaid :=
  holds_cond_leaving 3 Tryz.f3 rfl rfl rfl rfl rfl rfl rfl ⟨rfl, rfl, rfl, rfl, rfl⟩ rfl rfl rfl rfl rfl (by kernel_rfl) Tryz.func3 packetUnlike_facts
    (of_decide_eq_true (by kernel_rfl)) (by unfold Func.isWrapper; first | (rw [if_pos (by decide +kernel)]; kernel_rfl) | (rw [if_neg (by decide +kernel)]; exact ⟨rfl, rfl⟩))
    (fun os started H enc _ F => by rw [OpenClaim.pre_eq_preRow]; exact leaving_of_handed (lifted3 os started H enc F))
theorem packetUnlike : Rows.PacketUnlikeUptoCardSaid :=
  tied_goes .later [.data, .data, .data, .data, .data] true (true, "de1881f335d967bb94e2e97f87fb5b88821b989b9c4e96864de1193f0998bff6") false
    said3 (by kernel_rfl) packetUnlikeUpto_row_tie rfl ⟨rfl, rfl⟩ (by kernel_rfl) rfl
    (fun f fn hf hfn => by
      obtain rfl : f = 3 := Option.some.inj ((show Tryz.prog.funcNamed "weir/weirlaw10.PacketUnlike" = some 3 by kernel_rfl).symm.trans hf) |>.symm
      obtain rfl : fn = Tryz.f3 := (Option.some.inj (Tryz.func3.symm.trans hfn)).symm
      exact ⟨by kernel_rfl, fun j t ht => by
        rw [Tryz.params3] at ht
        have hm : t ∈ [46, 46] := by simpa using Array.mem_of_getElem? ht
        have hall : ([46, 46].all fun u => !Tryz.prog.wantsStandIn u) = true := by kernel_rfl
        exact (show Tryz.prog.wantsStandIn t = false by simpa using List.all_eq_true.1 hall t hm)⟩)
    (by kernel_rfl)
#print axioms packetUnlike
end Go.Proofs.YtlmnjnhmhacgkaaGreatDoor.Top
end
