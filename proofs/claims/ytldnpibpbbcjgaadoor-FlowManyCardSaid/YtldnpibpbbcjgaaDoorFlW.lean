/-
  weirlaw17.FlowMany answers true, and its arguments read behind the call as they did before, at every input (the card FlowManyCardSaid, tied: the variables addr.nets, flow.out, flow.in hold what the program's text lays). No other condition.
-/
import Derived.Test.YtldnpibpbbcjgaaDoorFlQ
import Derived.Test.YtldnpibpbbcjgaaDoorFlV
section
set_option linter.unusedVariables false
set_option maxRecDepth 100000
namespace Go.Proofs.YtldnpibpbbcjgaaDoor.Top
open Go Go.Am Go.Proofs Go.Proofs.YtldnpibpbbcjgaaDoor.Am
open Go.ChangeShapes Go.WideShapes Go.ChangeAt Go.RowKit

theorem s6 : SoundCal Tryd.prog env 6 (mkCal D6 (D6.run Tryd.prog env (cal6 G9 G10 G11 G12 G13 G15 G18 G20 (G21 outB) G22) H6)) := snd6 G9 G10 G11 G12 G13 G15 G18 G20 (G21 outB) G22 s9 s10 s11 s12 s13 s15 s18 s20 s21_ s22

theorem call6 {W : World} (x0 x1 : Int) (hL : laidMetH Tryd.prog listed W) :
    Calls Tryd.prog 6 #[.int .i64 x0, .int .i64 x1] W fun e W' => e = .returned (.bool true) ∧ Below W.heap.size W W' :=
  call_true s6 (n := 70001) (xs := [.int .i64 x0, .int .i64 x1]) (many_ok x0 x1 70001 (by omega)) rfl rfl rfl rfl rfl rfl rfl gd (fun ok hok => ⟨_, [_], rfl, rfl, _, [], rfl, rfl, rfl⟩) (globOK hL)

theorem lifted6 (os : Os) (started : os.Started) (H : Type) (enc : TypeId × Value → H) :
    ReturnsInHanded {} Tryd.checked os 6 .any (fun w args => (Rows.flowManySpec.pre enc Tryd.prog Tryd.f6 [] false w args ∧ laidMetH Tryd.prog listed w) ∧ sizedMet enc Tryd.prog Tryd.f6 (OpenSpec.ofChange Rows.flowManySpec) false w args)
      (Rows.flowManySpec.post enc Tryd.prog Tryd.f6 false true false false) := by
  refine returnsInHanded_of_change_and (C := Tryd.checked) (X := fun w _ => laidMetH Tryd.prog listed w) (fun _ _ _ hh h => h.of_heap hh) own started (by kernel_rfl) Tryd.func6
    (ChangeSpec.witness_shaped (enc := enc) (C := Tryd.checked) (os := os) (X := fun w _ => laidMetH Tryd.prog listed w) false (World.doorLaid Tryd.prog 400 os) #[.int .i64 0, .int .i64 0] 8 rfl (World.shaped_of_RefB (by kernel_rfl) (by kernel_rfl)) (by kernel_rfl) (by kernel_rfl) (by kernel_rfl) (door_met os _)) ?_
  intro W base args ds gs before hval0 hW _ _ hL _
  have hval : ∀ (j : Nat) t v, Tryd.f6.params[j]? = some t → args[j]? = some v → Value.okWide Tryd.prog W .any base t v := hval0
  have hW' := hW
  obtain ⟨p, q, hA0, hV, rfl, hfz, hnd⟩ := hW
  have hA : DataW.TrodAll enc Tryd.prog W 0 (fun _ => true) true Tryd.f6.params.toList args.toList ds p := hA0
  rw [Tryd.params6] at hA hval
  obtain ⟨v0, vs0, d0, ds0, p0, q0, hargs, rfl, rfl, h0, r0⟩ := trodAll_cons hA
  obtain ⟨v1, vs1, d1, ds1, p1, q1, hargs1, rfl, rfl, h1, r1⟩ := trodAll_cons r0
  obtain ⟨rfl, rfl, rfl⟩ := trodAll_nil r1
  subst hargs1
  obtain rfl : args = #[v0, v1] := by cases args; simp_all
  obtain ⟨rfl, rfl⟩ := trodVars_none hV
  obtain ⟨x0, rfl⟩ := okWide_int Tryd.underlying3 (hval 0 3 _ rfl rfl)
  obtain ⟨x1, rfl⟩ := okWide_int Tryd.underlying3 (hval 1 3 _ rfl rfl)
  refine (call6 x0 x1 hL).mono fun e W' h => ?_
  obtain ⟨rfl, hb⟩ := h
  exact ⟨_, rfl, post_true lay (by rw [Tryd.params6]; decide +kernel) rfl Tryd.underlying4 rfl hW' hb rfl rfl rfl⟩

theorem said6 : Rows.FlowManySaid :=
  OpenClaim.holds_of_wide 6 Tryd.f6 rfl rfl rfl rfl rfl rfl rfl ⟨rfl, rfl, rfl, rfl, rfl⟩ rfl rfl rfl rfl rfl (by kernel_rfl) Tryd.func6 (by kernel_rfl)
    (of_decide_eq_true (by kernel_rfl)) (by unfold Func.isWrapper; first | (rw [if_pos (by decide +kernel)]; kernel_rfl) | (rw [if_neg (by decide +kernel)]; exact ⟨rfl, rfl⟩))
    (fun os started H enc _ => lifted6 os started H enc)

theorem flowMany : Rows.FlowManyCardSaid :=
  Claim7.holds_tied_plain_at .later [] [.data, .data, .data] true (true, "6e59e2ca822a059749bbdd76a18203719dc762f4033304356116a2a8ba26646a") false
    said6 (fun _ h => by cases h) (by kernel_rfl) (fun _ h => by cases h) flowMany_row_tie rfl ⟨rfl, rfl⟩ (by kernel_rfl) rfl
    (fun f fn hf hfn => by
      obtain rfl : f = 6 := Option.some.inj ((show Tryd.prog.funcNamed "weir/weirlaw17.FlowMany" = some 6 by kernel_rfl).symm.trans hf) |>.symm
      obtain rfl : fn = Tryd.f6 := (Option.some.inj (Tryd.func6.symm.trans hfn)).symm
      exact ⟨by kernel_rfl, fun j t ht => by
        rw [Tryd.params6] at ht
        have hm : t ∈ [3, 3] := by simpa using Array.mem_of_getElem? ht
        have hall : ([3, 3].all fun u => !Tryd.prog.wantsStandIn u) = true := by kernel_rfl
        exact (show Tryd.prog.wantsStandIn t = false by simpa using List.all_eq_true.1 hall t hm)⟩)
    (by kernel_rfl)
#print axioms flowMany
end Go.Proofs.YtldnpibpbbcjgaaDoor.Top
end
