/-
  slices.Clone of bytes.
-/
import Derived.Test.YtjhbpadplglnlaaR1Snd
import Derived.WalkSpells
set_option linter.unusedVariables false
namespace Go.Proofs.Ytjhbpadplglnlaa.Am
open Go Go.Am Go.Proofs

def F15 : Fun := fun n l => match l with
  | [.fs .u8 xs] => match Nat.ble xs.length 140737488355328 with
    | true => some [.fs .u8 xs]
    | false => none
  | _ => none

def H0 : Hints := { loops := fun _ => none, joins := noJ }

def Code.l : Code → Code
  | .seq a _ => a
  | _ => .skip
def Code.r : Code → Code
  | .seq _ b => b
  | _ => .skip
def Code.ops : Code → Array Oper
  | .region _ ops _ => ops
  | _ => #[]
noncomputable def c0 : Code := Code.l D15.body
noncomputable def c1 : Code := Code.l (Code.l (Code.r D15.body))
noncomputable def c2 : Code := Code.r (Code.l (Code.r D15.body))
noncomputable def c3 : Code := Code.r (Code.r D15.body)
theorem cloneB : D15.body = .seq c0 (.seq (.seq c1 c2) c3) := by kernel_rfl
noncomputable def ops1 : Array Oper := Code.ops c1
theorem clone1 : c1 = .region 1 ops1 false := by kernel_rfl
noncomputable def o1 : Oper := ops1.getD 0 default
noncomputable def o2 : Oper := ops1.getD 1 default
theorem ops1_eq : ops1 = #[o1, o2] := by kernel_rfl
theorem o2_g : o2.guard = none := by kernel_rfl
theorem o2_op : o2.op = .binOp .eql 22 (.tmp 3) (.const (.slice none 0 0)) 22 := by kernel_rfl
theorem o2_dst : o2.dst = some 4 := by kernel_rfl
theorem run_eqnil (A : Option Addr) (n c : Nat) (w : World) : (Go.binOp .eql 22 (.slice A n c) (.slice none 0 0)).run Try.prog w = .ok (.bool A.isNone) w :=
  Go.Lib.run_eql_slice_nil _ _ _ _ _ _ _ _ Try.underlying22

def S0 (xs : List Int) : St := ⟨[.fs .u8 xs, .undef, .undef, .undef, .undef, .undef, .undef, .undef], []⟩
def S1 (xs : List Int) : St := ⟨[.fs .u8 xs, .undef, .nils, .undef, .undef, .undef, .undef, .undef], []⟩
def S2 (xs : List Int) : St := ⟨[.fs .u8 xs, .undef, .nils, .fs .u8 xs, .undef, .undef, .undef, .undef], []⟩
def S3 (xs : List Int) (b : Bool) : St := ⟨[.fs .u8 xs, .undef, .nils, .fs .u8 xs, .bool b, .undef, .undef, .undef], []⟩

def cN : FuncId → Option Cal := fun _ => none
def keep (e : Ex) (S : St) : Option St := match e with | .nrm => some S | _ => none
noncomputable def fin15 (e : Ex) (S : St) : Option (List AV) := match e with | .ext _ => none | .nrm => absT S D15.rs [] [] | .ret => absT S D15.rs [] []

theorem e0 (n : Nat) (xs : List Int) : exec n 8 Try.prog glob0 cN H0 c0 (S0 xs) keep = some (S1 xs) := by kernel_rfl
theorem e1 (n : Nat) (xs : List Int) : (gop Try.prog glob0 cN ops1.toList o1).exe n (S1 xs) = some (S2 xs) := by kernel_rfl
theorem e1' (n : Nat) (xs : List Int) : (gop Try.prog glob0 cN [o1, o2] o1).exe n (S1 xs) = some (S2 xs) := by kernel_rfl
theorem e2t (n : Nat) : exec n 8 Try.prog glob0 cN H0 c2 (S3 [] true) (fun e S => match e with | .nrm => exec n 8 Try.prog glob0 cN H0 c3 S fin15 | e => fin15 e S) = some [.fs .u8 []] := by kernel_rfl
theorem e2f (n : Nat) (xs : List Int) : exec n 8 Try.prog glob0 cN H0 c2 (S3 xs false) (fun e S => match e with | .nrm => exec n 8 Try.prog glob0 cN H0 c3 S fin15 | e => fin15 e S) =
  brO (Nat.ble ((0 + xs.length) * 1) 140737488355328) (some [.fs .u8 xs]) none := by kernel_rfl

theorem body15 : BodyOk Try.prog glob0 D15 F15 := by
  intro C n l r hC hF θ a w hrel Q hQ
  have hl : ∃ xs, l = [.fs .u8 xs] ∧ r = [.fs .u8 xs] ∧ Nat.ble xs.length 140737488355328 = true := by
    unfold F15 at hF
    split at hF
    · split at hF
      · rename_i xs h; cases hF; exact ⟨_, rfl, rfl, h⟩
      · cases hF
    · cases hF
  obtain ⟨xs, rfl, rfl, hle⟩ := hl
  have hcal : ∀ f c, cN f = some c → SoundCal Try.prog C.G f c := fun f c h => by cases h
  have hrel : Rel C (S0 xs) θ a w := hrel
  rw [cloneB]
  refine wp_seq (exec_ok (H := H0) (n := n) (m := 8) hcal mix c0 (S0 xs) keep (S1 xs) (by rw [hC]; exact e0 n xs) θ a w hrel _ (fun e S' θ1 a1 w1 hk hr1 hd1 => ?_))
  cases e with
  | ext i => cases hk
  | ret => cases hk
  | nrm =>
  cases hk
  refine wp_seq (wp_seq ?_)
  rw [clone1]
  refine wp_region ?_
  rw [ops1_eq]
  show wpOps Try.prog #[o1, o2] _ [0, 1] a1 w1
  rw [wpOps_cons]
  refine gop_wpOp (C := C) (n := n) (S := S1 xs) (S' := S2 xs) hcal rfl hr1 (by rw [hC]; exact e1' n xs) _ _ (fun a2 w2 θ2 hr2 hd2 => ?_)
  rw [wpOps_cons]
  unfold wpOp
  simp only [show (#[o1, o2] : Array Oper)[1]? = some o2 from rfl]
  rw [if_pos (by simp [Region.wanted, o2_g])]
  refine .inl ?_
  -- the value that is asked for
  obtain ⟨u, _, hu, hcv⟩ := slot_in hr2 (i := 3) (by intro e; cases e)
  have hcv : CV w2 (okOf C w2 (S2 xs) θ2) θ2 (.fs .u8 xs) u := hcv
  obtain ⟨A, c, rfl, hc, hA⟩ := hcv
  have hev : a2.eval (.tmp 3) = .slice A xs.length c := hu
  unfold Oper.wp
  have hrun : (execOp a2.eval o2).run Try.prog w2 = .ok (.value (.bool A.isNone)) w2 := by
    have hg : ∀ (v u : Value) (x y : Operand) (W : World), v = .slice A xs.length c → (eqGuard .eql 22 x y v u).run Try.prog W = .ok () W := by
      intro v u x y W e
      subst e
      simp [eqGuard]
    have hcst : a2.eval (.const (.slice none 0 0)) = .slice none 0 0 := rfl
    simp only [execOp, o2_op, Sem.run_bind, hg _ _ _ _ _ hev, Result.andThen_ok]
    rw [hev, hcst]
    simp only [run_eqnil, Result.andThen_ok, Sem.run_pure]
  rw [hrun, Oper.upon_value, o2_dst]
  show wpOps Try.prog #[o1, o2] _ [] (a2.put (some 4) (.bool A.isNone)) w2
  have hr3 : Rel C (S3 xs A.isNone) θ2 (a2.put (some 4) (.bool A.isNone)) w2 := hr2.put (d := 4) (x := .bool A.isNone) rfl
  show c2.wp Try.prog _ _ _
  have hdf : (a2.put (some 4) (.bool A.isNone)).defers = a.defers := (hd2.trans hd1)
  generalize a2.put (some 4) (.bool A.isNone) = a3 at hr3 hdf
  have run : ∀ b, A.isNone = b → exec n 8 Try.prog C.G cN H0 c2 (S3 xs b) (fun e S => match e with | .nrm => exec n 8 Try.prog C.G cN H0 c3 S fin15 | e => fin15 e S) = some [.fs .u8 xs] := by
    intro b hb
    rw [hC]
    cases b with
    | true =>
      have : xs = [] := by
        cases xs with
        | nil => rfl
        | cons x xs => obtain ⟨ad, rfl, _⟩ := hA (by simp); cases hb
      subst this
      exact e2t n
    | false =>
      rw [e2f, show (0 + xs.length) * 1 = xs.length by omega, hle]
      rfl
  refine exec_ok (H := H0) (n := n) (m := 8) hcal mix c2 (S3 xs A.isNone) _ _ (run _ rfl) θ2 a3 w2 hr3 _ (fun e S' θ4 a4 w4 hk hr4 hd4 => ?_)
  cases e with
  | nrm => exact exec_ok (H := H0) (n := n) (m := 8) hcal mix c3 S' _ _ hk θ4 a4 w4 hr4 _ (fun e S'' θ5 a5 w5 hk5 hr5 hd5 => hQ e S'' θ5 a5 w5 hk5 hr5 (hd5.trans (hd4.trans hdf)))
  | ext i => cases hk
  | ret => exact hQ .ret S' θ4 a4 w4 hk hr4 (hd4.trans hdf)

theorem good15 : D15.good Try.prog = true := by rfl
theorem snd15 : SoundCal Try.prog glob0 15 (mkCal D15 F15) := FnD.sound_of gok body15 Try.func15 rfl (by decide) rfl rfl good15
end Go.Proofs.Ytjhbpadplglnlaa.Am
