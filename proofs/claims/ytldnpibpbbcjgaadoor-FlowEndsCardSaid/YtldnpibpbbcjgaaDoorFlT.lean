/-
  weirlaw17.FlowEnds answers true, and its arguments read behind the call as they did before, at every input (the card FlowEndsCardSaid, tied: the variables addr.nets, flow.out, flow.in hold what the program's text lays). No other condition.
-/
import Derived.Test.YtldnpibpbbcjgaaDoorFlQ
import Derived.Test.YtldnpibpbbcjgaaDoorFlP
section
set_option linter.unusedVariables false
set_option maxRecDepth 100000
namespace Go.Proofs.YtldnpibpbbcjgaaDoor.Top
open Go Go.Am Go.Proofs Go.Proofs.YtldnpibpbbcjgaaDoor.Am
open Go.ChangeShapes Go.WideShapes Go.ChangeAt Go.RowKit

theorem s5 : SoundCal Tryd.prog env 5 (mkCal D5 (D5.run Tryd.prog env (cal5 G8 G9 G11 G14r G15 G17 G18 G19) H5)) := snd5 G8 G9 G11 G14r G15 G17 G18 G19 s8 s9 s11 s14r s15 s17 s18 s19

theorem call5 {H : Type} {enc : TypeId × Value → H} {W : World} {base : Nat} {r : Reach} {w : World} {v0 v1 : Value} {d0 d1 : DataW H} {p0 p1 : List MemPlace} (hv0 : Value.okWide Tryd.prog w r base 26 v0) (hv1 : Value.okWide Tryd.prog w r base 27 v1)
    (h0 : DataW.Trod enc Tryd.prog W 0 (fun _ => true) true 26 v0 d0 p0) (h1 : DataW.Trod enc Tryd.prog W 0 (fun _ => true) true 27 v1 d1 p1) (hL : laidMetH Tryd.prog listed W) :
    Calls Tryd.prog 5 #[v0, v1] W fun e W' => e = .returned (.bool true) ∧ Below W.heap.size W W' := by
  obtain ⟨c, l, hi, hl, harg⟩ := two_args hv0 hv1 h0 h1
  exact call_true s5 (n := 70001) (xs := [c.av, .fv s36 (l.map Stp.av)]) (ends_ok c hi l hl 70001 (by omega)) rfl rfl rfl rfl rfl rfl rfl gd harg (globOK hL)

theorem lifted5 (os : Os) (started : os.Started) (H : Type) (enc : TypeId × Value → H) :
    ReturnsInHanded {} Tryd.checked os 5 .any (fun w args => (Rows.flowEndsSpec.pre enc Tryd.prog Tryd.f5 [] false w args ∧ laidMetH Tryd.prog listed w) ∧ sizedMet enc Tryd.prog Tryd.f5 (OpenSpec.ofChange Rows.flowEndsSpec) false w args)
      (Rows.flowEndsSpec.post enc Tryd.prog Tryd.f5 false true false false) := by
  refine returnsInHanded_of_change_and (C := Tryd.checked) (X := fun w _ => laidMetH Tryd.prog listed w) (fun _ _ _ hh h => h.of_heap hh) own started (by kernel_rfl) Tryd.func5
    (ChangeSpec.witness_shaped (enc := enc) (C := Tryd.checked) (os := os) (X := fun w _ => laidMetH Tryd.prog listed w) false (World.doorLaid Tryd.prog 400 os) #[zcfg_, .slice none 0 0] 8 rfl (World.shaped_of_RefB (by kernel_rfl) (by kernel_rfl)) (by kernel_rfl) (by kernel_rfl) (by kernel_rfl) (door_met os _)) ?_
  intro W base args ds gs before hval0 hW _ _ hL _
  have hval : ∀ (j : Nat) t v, Tryd.f5.params[j]? = some t → args[j]? = some v → Value.okWide Tryd.prog W .any base t v := hval0
  have hW' := hW
  obtain ⟨p, q, hA0, hV, rfl, hfz, hnd⟩ := hW
  have hA : DataW.TrodAll enc Tryd.prog W 0 (fun _ => true) true Tryd.f5.params.toList args.toList ds p := hA0
  rw [Tryd.params5] at hA hval
  obtain ⟨v0, vs0, d0, ds0, p0, q0, hargs, rfl, rfl, h0, r0⟩ := trodAll_cons hA
  obtain ⟨v1, vs1, d1, ds1, p1, q1, hargs1, rfl, rfl, h1, r1⟩ := trodAll_cons r0
  obtain ⟨rfl, rfl, rfl⟩ := trodAll_nil r1
  subst hargs1
  obtain rfl : args = #[v0, v1] := by cases args; simp_all
  obtain ⟨rfl, rfl⟩ := trodVars_none hV
  refine (call5 (hval 0 26 _ rfl rfl) (hval 1 27 _ rfl rfl) h0 h1 hL).mono fun e W' h => ?_
  obtain ⟨rfl, hb⟩ := h
  exact ⟨_, rfl, post_true lay (by rw [Tryd.params5]; decide +kernel) rfl Tryd.underlying4 rfl hW' hb rfl rfl rfl⟩

theorem said5 : Rows.FlowEndsSaid :=
  OpenClaim.holds_of_wide 5 Tryd.f5 rfl rfl rfl rfl rfl rfl rfl ⟨rfl, rfl, rfl, rfl, rfl⟩ rfl rfl rfl rfl rfl (by kernel_rfl) Tryd.func5 (by kernel_rfl)
    (of_decide_eq_true (by kernel_rfl)) (by unfold Func.isWrapper; first | (rw [if_pos (by decide +kernel)]; kernel_rfl) | (rw [if_neg (by decide +kernel)]; exact ⟨rfl, rfl⟩))
    (fun os started H enc _ => lifted5 os started H enc)

theorem flowEnds : Rows.FlowEndsCardSaid :=
  Claim7.holds_tied_plain_at .later [] [.data, .data, .data] true (true, "6e59e2ca822a059749bbdd76a18203719dc762f4033304356116a2a8ba26646a") false
    said5 (fun _ h => by cases h) (by kernel_rfl) (fun _ h => by cases h) flowEnds_row_tie rfl ⟨rfl, rfl⟩ (by kernel_rfl) rfl
    (fun f fn hf hfn => by
      obtain rfl : f = 5 := Option.some.inj ((show Tryd.prog.funcNamed "weir/weirlaw17.FlowEnds" = some 5 by kernel_rfl).symm.trans hf) |>.symm
      obtain rfl : fn = Tryd.f5 := (Option.some.inj (Tryd.func5.symm.trans hfn)).symm
      exact ⟨by kernel_rfl, fun j t ht => by
        rw [Tryd.params5] at ht
        have hm : t ∈ [26, 27] := by simpa using Array.mem_of_getElem? ht
        have hall : ([26, 27].all fun u => !Tryd.prog.wantsStandIn u) = true := by kernel_rfl
        exact (show Tryd.prog.wantsStandIn t = false by simpa using List.all_eq_true.1 hall t hm)⟩)
    (by kernel_rfl)
#print axioms flowEnds
end Go.Proofs.YtldnpibpbbcjgaaDoor.Top
end
