/-
  The reference: the nets by their texts, an address's class.
-/
import Derived.Test.YtldnpibpbbcjgaaDoorFlF
import Derived.Test.YtldnpibpbbcjgaaDoorFlE
import Derived.KernelRfl
section
set_option linter.unusedVariables false
set_option linter.unusedSimpArgs false
namespace Go.Proofs.YtldnpibpbbcjgaaDoor.Am
open Go Go.Am Go.Proofs

def txt : Nat → List UInt8
  | 0 => [48, 46, 48, 46, 48, 46, 48, 47, 51, 50]
  | 1 => [58, 58, 47, 49, 50, 56]
  | 2 => [49, 50, 55, 46, 48, 46, 48, 46, 48, 47, 56]
  | 3 => [58, 58, 49, 47, 49, 50, 56]
  | 4 => [50, 50, 52, 46, 48, 46, 48, 46, 48, 47, 52]
  | 5 => [102, 102, 48, 48, 58, 58, 47, 56]
  | 6 => [49, 54, 57, 46, 50, 53, 52, 46, 48, 46, 48, 47, 49, 54]
  | 7 => [102, 101, 56, 48, 58, 58, 47, 49, 48]
  | 8 => [50, 53, 53, 46, 50, 53, 53, 46, 50, 53, 53, 46, 50, 53, 53, 47, 51, 50]
  | 9 => [48, 46, 48, 46, 48, 46, 48, 47, 56]
  | 10 => [50, 52, 48, 46, 48, 46, 48, 46, 48, 47, 52]
  | _ => [58, 58, 47, 56]
def pfx : Nat → Pfx
  | 0 => ⟨⟨4, [0, 0, 0, 0, 0, 0, 0, 0, 0, 0, 0, 0, 0, 0, 0, 0]⟩, 32⟩
  | 1 => ⟨⟨6, [0, 0, 0, 0, 0, 0, 0, 0, 0, 0, 0, 0, 0, 0, 0, 0]⟩, 128⟩
  | 2 => ⟨⟨4, [127, 0, 0, 0, 0, 0, 0, 0, 0, 0, 0, 0, 0, 0, 0, 0]⟩, 8⟩
  | 3 => ⟨⟨6, [0, 0, 0, 0, 0, 0, 0, 0, 0, 0, 0, 0, 0, 0, 0, 1]⟩, 128⟩
  | 4 => ⟨⟨4, [224, 0, 0, 0, 0, 0, 0, 0, 0, 0, 0, 0, 0, 0, 0, 0]⟩, 4⟩
  | 5 => ⟨⟨6, [255, 0, 0, 0, 0, 0, 0, 0, 0, 0, 0, 0, 0, 0, 0, 0]⟩, 8⟩
  | 6 => ⟨⟨4, [169, 254, 0, 0, 0, 0, 0, 0, 0, 0, 0, 0, 0, 0, 0, 0]⟩, 16⟩
  | 7 => ⟨⟨6, [254, 128, 0, 0, 0, 0, 0, 0, 0, 0, 0, 0, 0, 0, 0, 0]⟩, 10⟩
  | 8 => ⟨⟨4, [255, 255, 255, 255, 0, 0, 0, 0, 0, 0, 0, 0, 0, 0, 0, 0]⟩, 32⟩
  | 9 => ⟨⟨4, [0, 0, 0, 0, 0, 0, 0, 0, 0, 0, 0, 0, 0, 0, 0, 0]⟩, 8⟩
  | 10 => ⟨⟨4, [240, 0, 0, 0, 0, 0, 0, 0, 0, 0, 0, 0, 0, 0, 0, 0]⟩, 4⟩
  | _ => ⟨⟨6, [0, 0, 0, 0, 0, 0, 0, 0, 0, 0, 0, 0, 0, 0, 0, 0]⟩, 8⟩

theorem v0 (m : Nat) : A78 (m + 300) [(pfx 0).av] = some [.int .i64 0] := by kernel_rfl
theorem v1 (m : Nat) : A78 (m + 300) [(pfx 1).av] = some [.int .i64 0] := by kernel_rfl
theorem v2 (m : Nat) : A78 (m + 300) [(pfx 2).av] = some [.int .i64 0] := by kernel_rfl
theorem v3 (m : Nat) : A78 (m + 300) [(pfx 3).av] = some [.int .i64 0] := by kernel_rfl
theorem v4 (m : Nat) : A78 (m + 300) [(pfx 4).av] = some [.int .i64 0] := by kernel_rfl
theorem v5 (m : Nat) : A78 (m + 300) [(pfx 5).av] = some [.int .i64 0] := by kernel_rfl
theorem v6 (m : Nat) : A78 (m + 300) [(pfx 6).av] = some [.int .i64 0] := by kernel_rfl
theorem v7 (m : Nat) : A78 (m + 300) [(pfx 7).av] = some [.int .i64 0] := by kernel_rfl
theorem v8 (m : Nat) : A78 (m + 300) [(pfx 8).av] = some [.int .i64 0] := by kernel_rfl
theorem v9 (m : Nat) : A78 (m + 300) [(pfx 9).av] = some [.int .i64 0] := by kernel_rfl
theorem v10 (m : Nat) : A78 (m + 300) [(pfx 10).av] = some [.int .i64 0] := by kernel_rfl
theorem v11 (m : Nat) : A78 (m + 300) [(pfx 11).av] = some [.int .i64 0] := by kernel_rfl
theorem q0 (m : Nat) : A65 (m + 300) [.str (txt 0)] = some [(pfx 0).av, .int .i64 0, .int .i64 0] := by kernel_rfl
theorem q1 (m : Nat) : A65 (m + 300) [.str (txt 1)] = some [(pfx 1).av, .int .i64 0, .int .i64 0] := by kernel_rfl
theorem q2 (m : Nat) : A65 (m + 300) [.str (txt 2)] = some [(pfx 2).av, .int .i64 0, .int .i64 0] := by kernel_rfl
theorem q3 (m : Nat) : A65 (m + 300) [.str (txt 3)] = some [(pfx 3).av, .int .i64 0, .int .i64 0] := by kernel_rfl
theorem q4 (m : Nat) : A65 (m + 300) [.str (txt 4)] = some [(pfx 4).av, .int .i64 0, .int .i64 0] := by kernel_rfl
theorem q5 (m : Nat) : A65 (m + 300) [.str (txt 5)] = some [(pfx 5).av, .int .i64 0, .int .i64 0] := by kernel_rfl
theorem q6 (m : Nat) : A65 (m + 300) [.str (txt 6)] = some [(pfx 6).av, .int .i64 0, .int .i64 0] := by kernel_rfl
theorem q7 (m : Nat) : A65 (m + 300) [.str (txt 7)] = some [(pfx 7).av, .int .i64 0, .int .i64 0] := by kernel_rfl
theorem q8 (m : Nat) : A65 (m + 300) [.str (txt 8)] = some [(pfx 8).av, .int .i64 0, .int .i64 0] := by kernel_rfl
theorem q9 (m : Nat) : A65 (m + 300) [.str (txt 9)] = some [(pfx 9).av, .int .i64 0, .int .i64 0] := by kernel_rfl
theorem q10 (m : Nat) : A65 (m + 300) [.str (txt 10)] = some [(pfx 10).av, .int .i64 0, .int .i64 0] := by kernel_rfl
theorem q11 (m : Nat) : A65 (m + 300) [.str (txt 11)] = some [(pfx 11).av, .int .i64 0, .int .i64 0] := by kernel_rfl

theorem byOk_of {a : List Int} (h : a.all (fun b => decide (0 ≤ b ∧ b < 256)) = true) : ByOk a := by
  intro i
  unfold getI
  rw [List.getD_eq_getElem?_getD]
  cases h2 : a[i]? with
  | none => exact ⟨by simp, by simp⟩
  | some b => simpa using List.all_eq_true.1 h b (List.mem_of_getElem? h2)
theorem pOk : ∀ i, i < 12 → PfxOk (pfx i)
  | 0, _ => ⟨v0, by decide, byOk_of (by decide)⟩
  | 1, _ => ⟨v1, by decide, byOk_of (by decide)⟩
  | 2, _ => ⟨v2, by decide, byOk_of (by decide)⟩
  | 3, _ => ⟨v3, by decide, byOk_of (by decide)⟩
  | 4, _ => ⟨v4, by decide, byOk_of (by decide)⟩
  | 5, _ => ⟨v5, by decide, byOk_of (by decide)⟩
  | 6, _ => ⟨v6, by decide, byOk_of (by decide)⟩
  | 7, _ => ⟨v7, by decide, byOk_of (by decide)⟩
  | 8, _ => ⟨v8, by decide, byOk_of (by decide)⟩
  | 9, _ => ⟨v9, by decide, byOk_of (by decide)⟩
  | 10, _ => ⟨v10, by decide, byOk_of (by decide)⟩
  | 11, _ => ⟨v11, by decide, byOk_of (by decide)⟩
  | n + 12, h => by omega
theorem pRd (m : Nat) : ∀ i, i < 12 → A65 (m + 300) [.str (txt i)] = some [(pfx i).av, .int .i64 0, .int .i64 0]
  | 0, _ => q0 m
  | 1, _ => q1 m
  | 2, _ => q2 m
  | 3, _ => q3 m
  | 4, _ => q4 m
  | 5, _ => q5 m
  | 6, _ => q6 m
  | 7, _ => q7 m
  | 8, _ => q8 m
  | 9, _ => q9 m
  | 10, _ => q10 m
  | 11, _ => q11 m
  | n + 12, h => by omega

def which (s : List UInt8) : Option Nat := (List.range 12).find? fun i => txt i == s
theorem which_txt : ∀ i, i < 12 → which (txt i) = some i := by decide
theorem which_some {s : List UInt8} {i : Nat} (h : which s = some i) : i < 12 ∧ s = txt i := by
  have h1 := List.find?_some h
  have h2 := List.mem_of_find?_eq_some h
  exact ⟨List.mem_range.1 h2, (beq_iff_eq.1 h1).symm⟩
open Classical in
noncomputable def outOf (n : Nat) (q : List UInt8 × IP) : Option (List AV) := match which q.1 with
  | some i => if 300 ≤ n ∧ IPOk q.2 then some [.bool (hasP (pfx i) q.2)] else none
  | none => none
noncomputable def G51 : Fun := spec (fun q : List UInt8 × IP => [.str q.1, q.2.av]) (fun l => ((getE l 0).toStr, IP.of (getE l 1))) outOf
theorem g51 {n i : Nat} {x : IP} (hn : 300 ≤ n) (hx : IPOk x) (hi : i < 12) : G51 n [.str (txt i), x.av] = some [.bool (hasP (pfx i) x)] := by
  refine (spec_at (enc := fun q : List UInt8 × IP => [.str q.1, q.2.av]) (txt i, x) rfl).trans ?_
  unfold outOf
  rw [which_txt i hi]
  exact if_pos ⟨hn, hx⟩
theorem s51 : SoundCal Tryd.prog env 51 (mkCal D51 G51) := spec_ok (snd51 A65 G66 sA65 s66) (fun n q r h => by
  obtain ⟨s, x⟩ := q
  unfold outOf at h
  cases hw : which s with
  | none => simp only [hw] at h; cases h
  | some i =>
    simp only [hw] at h
    split at h
    case isFalse => cases h
    rename_i hh
    obtain ⟨hn, hx⟩ := hh
    replace hx : IPOk x := hx
    cases h
    obtain ⟨hi, rfl⟩ := which_some hw
    refine (eq51 A65 G66 n (txt i) x.av).trans ?_
    have := pRd (n - 300) i hi
    rw [show n - 300 + 300 = n by omega] at this
    rw [this, Option.bind_some]
    show brO true (Option.bind (G66 n [(pfx i).av, x.av]) _) none = _
    rw [g66 hn (pOk i hi) hx]
    rfl)

def refCls (x : IP) : Int :=
  if refValid x = false then 0
  else if hasP (pfx 0) x || hasP (pfx 1) x then 1
  else if hasP (pfx 2) x || hasP (pfx 3) x then 2
  else if hasP (pfx 4) x || hasP (pfx 5) x then 3
  else if hasP (pfx 6) x || hasP (pfx 7) x then 4
  else if hasP (pfx 8) x then 5
  else if hasP (pfx 9) x || (hasP (pfx 10) x || hasP (pfx 11) x) then 6
  else 7
open Classical in
noncomputable def outCls (n : Nat) (x : IP) : Option (List AV) := if 300 ≤ n ∧ IPOk x then some [.int .i64 (refCls x)] else none
noncomputable def G39 : Fun := spec (fun x : IP => [x.av]) (fun l => IP.of (getE l 0)) outCls
theorem g39 {n : Nat} {x : IP} (hn : 300 ≤ n) (hx : IPOk x) : G39 n [x.av] = some [.int .i64 (refCls x)] :=
  (spec_at (enc := fun x : IP => [x.av]) x rfl).trans (if_pos ⟨hn, hx⟩)
theorem s39 : SoundCal Tryd.prog env 39 (mkCal D39 G39) := spec_ok (snd39 G50 G51 s50 s51) (fun n x r h => by
  unfold outCls at h
  split at h
  case isFalse => cases h
  rename_i hh
  obtain ⟨hn, hx⟩ := hh
  cases h
  refine (eq39 G50 G51 n x.av).trans ?_
  have t : ∀ i, i < 12 → G51 n [.str (txt i), x.av] = some [.bool (hasP (pfx i) x)] := fun i hi => g51 hn hx hi
  have t0 := t 0 (by omega)
  have t1 := t 1 (by omega)
  have t2 := t 2 (by omega)
  have t3 := t 3 (by omega)
  have t4 := t 4 (by omega)
  have t5 := t 5 (by omega)
  have t6 := t 6 (by omega)
  have t7 := t 7 (by omega)
  have t8 := t 8 (by omega)
  have t9 := t 9 (by omega)
  have t10 := t 10 (by omega)
  have t11 := t 11 (by omega)
  simp only [txt] at t0 t1 t2 t3 t4 t5 t6 t7 t8 t9 t10 t11
  unfold refCls
  generalize hasP (pfx 0) x = b0 at *
  generalize hasP (pfx 1) x = b1 at *
  generalize hasP (pfx 2) x = b2 at *
  generalize hasP (pfx 3) x = b3 at *
  generalize hasP (pfx 4) x = b4 at *
  generalize hasP (pfx 5) x = b5 at *
  generalize hasP (pfx 6) x = b6 at *
  generalize hasP (pfx 7) x = b7 at *
  generalize hasP (pfx 8) x = b8 at *
  generalize hasP (pfx 9) x = b9 at *
  generalize hasP (pfx 10) x = b10 at *
  generalize hasP (pfx 11) x = b11 at *
  cases hv : refValid x with
  | false => simp [g50 (by omega : 13 < n), hv]
  | true =>
    have hg := g50 (by omega : 13 < n) x
    rw [hv] at hg
    cases b0 with
    | true => simp [hg, t0]
    | false =>
    cases b1 with
    | true => simp [hg, t0, t1]
    | false =>
    cases b2 with
    | true => simp [hg, t0, t1, t2]
    | false =>
    cases b3 with
    | true => simp [hg, t0, t1, t2, t3]
    | false =>
    cases b4 with
    | true => simp [hg, t0, t1, t2, t3, t4]
    | false =>
    cases b5 with
    | true => simp [hg, t0, t1, t2, t3, t4, t5]
    | false =>
    cases b6 with
    | true => simp [hg, t0, t1, t2, t3, t4, t5, t6]
    | false =>
    cases b7 with
    | true => simp [hg, t0, t1, t2, t3, t4, t5, t6, t7]
    | false =>
    cases b8 with
    | true => simp [hg, t0, t1, t2, t3, t4, t5, t6, t7, t8]
    | false =>
    cases b9 with
    | true => simp [hg, t0, t1, t2, t3, t4, t5, t6, t7, t8, t9]
    | false =>
    cases b10 with
    | true => simp [hg, t0, t1, t2, t3, t4, t5, t6, t7, t8, t9, t10]
    | false =>
    cases b11 <;> simp [hg, t0, t1, t2, t3, t4, t5, t6, t7, t8, t9, t10, t11])
end Go.Proofs.YtldnpibpbbcjgaaDoor.Am
end
