/-
  The desk's functions: what their runs say holds.
-/
import Derived.Test.YtjhbpadplglnlaaR1Def
set_option linter.unusedVariables false
namespace Go.Proofs.Ytjhbpadplglnlaa.Am
open Go Go.Am Go.Proofs

theorem gok : ∀ g t, glob0 g = some t → ∃ s, WT s t := fun g t h => by cases h
theorem mix : Try.prog.follows .mixedOrders = true := by rfl

theorem none_ok (P : Program) (G : Nat → Option AV) : ∀ f c, (fun _ => none : FuncId → Option Cal) f = some c → SoundCal P G f c := fun f c h => by cases h

theorem snd7 : SoundCal Try.prog glob0 7 (mkCal D7 (D7.run Try.prog glob0 cal7 H7)) :=
  FnD.sound gok (none_ok _ _) mix Try.func7 rfl (by decide) rfl rfl good7
theorem snd8 : SoundCal Try.prog glob0 8 (mkCal D8 (D8.run Try.prog glob0 cal7 H8)) :=
  FnD.sound gok (none_ok _ _) mix Try.func8 rfl (by decide) rfl rfl good8
theorem snd9 : SoundCal Try.prog glob0 9 (mkCal D9 (D9.run Try.prog glob0 cal7 H9)) :=
  FnD.sound gok (none_ok _ _) mix Try.func9 rfl (by decide) rfl rfl good9
theorem snd6 (F15 : Fun) (h : SoundCal Try.prog glob0 15 (mkCal D15 F15)) : SoundCal Try.prog glob0 6 (mkCal D6 (D6.run Try.prog glob0 (cal6 F15) H6)) :=
  FnD.sound gok (fun f c hf => by
    unfold cal6 at hf
    split at hf
    · cases hf; exact h
    · cases hf) mix Try.func6 rfl (by decide) rfl rfl good6
theorem snd3 (F6 F7 F8 F9 : Fun) (h6 : SoundCal Try.prog glob0 6 (mkCal D6 F6)) (h7 : SoundCal Try.prog glob0 7 (mkCal D7 F7)) (h8 : SoundCal Try.prog glob0 8 (mkCal D8 F8)) (h9 : SoundCal Try.prog glob0 9 (mkCal D9 F9)) :
    SoundCal Try.prog glob0 3 (mkCal D3 (D3.run Try.prog glob0 (cal3 F6 F7 F8 F9) H3)) :=
  FnD.sound gok (fun f c hf => by
    unfold cal3 at hf
    split at hf
    · cases hf; exact h6
    · cases hf; exact h7
    · cases hf; exact h8
    · cases hf; exact h9
    · cases hf) mix Try.func3 rfl (by decide) rfl rfl good3
end Go.Proofs.Ytjhbpadplglnlaa.Am
