/-
  Comparing flows.
  The flows' order: a weak order; a list put in order.
  slices.SortFunc over a row of flows: the cells.
  slices.SortFunc over a row of flows: the call.
  slices.SortFunc over a row of flows, as Dump asks it.
  Dump: the live flows in order.
-/
import Derived.Test.YtldnpibpbbcjgaaDoorFlE
import Derived.Test.YtldnpibpbbcjgaaDoorFlK
import Derived.Test.YtldnpibpbbcjgaaDoorAmF
import Derived.Lib.QuietBelow
import Derived.Test.YtldnpibpbbcjgaaDoorSrt
section
set_option linter.unusedVariables false
set_option linter.unusedSimpArgs false
set_option maxRecDepth 20000
namespace Go.Proofs.YtldnpibpbbcjgaaDoor.Am
open Go Go.Am Go.Proofs

noncomputable def G46 : Fun := spec (fun x : Int => [.int .i64 x]) (fun l => (getE l 0).toInt) fun _ x => some [.bool false]
@[simp] theorem g46 (n : Nat) (x : Int) : G46 n [.int .i64 x] = some [.bool false] := spec_at (enc := fun x : Int => [.int .i64 x]) x rfl
theorem s46 : SoundCal Tryd.prog env 46 (mkCal D46 G46) := spec_ok snd46 (fun n x r h => by cases h; refine (eq46 n x).trans ?_; simp)
noncomputable def G72 : Fun := spec (fun x : Int => [.int .u8 x]) (fun l => (getE l 0).toInt) fun _ x => some [.bool false]
@[simp] theorem g72 (n : Nat) (x : Int) : G72 n [.int .u8 x] = some [.bool false] := spec_at (enc := fun x : Int => [.int .u8 x]) x rfl
theorem s72 : SoundCal Tryd.prog env 72 (mkCal D72 G72) := spec_ok snd72 (fun n x r h => by cases h; refine (eq72 n x).trans ?_; simp)

noncomputable def G34 : Fun := spec (fun p : Int × Int => [.int .i64 p.1, .int .i64 p.2]) (fun l => ((getE l 0).toInt, (getE l 1).toInt)) fun _ p => some [.int .i64 (cmpI p.1 p.2)]
@[simp] theorem g34 (n : Nat) (a b : Int) : G34 n [.int .i64 a, .int .i64 b] = some [.int .i64 (cmpI a b)] := spec_at (enc := fun p : Int × Int => [.int .i64 p.1, .int .i64 p.2]) (a, b) rfl
theorem s34_ : SoundCal Tryd.prog env 34 (mkCal D34 G34) := spec_ok (snd34 G46 s46) (fun n p r h => by
  obtain ⟨a, b⟩ := p
  cases h
  refine (eq34 G46 n a b).trans ?_
  unfold cmpI
  by_cases h1 : a < b
  · simp [h1]
  · by_cases h2 : b < a <;> simp [h1, h2])
noncomputable def G62 : Fun := spec (fun p : Int × Int => [.int .u8 p.1, .int .u8 p.2]) (fun l => ((getE l 0).toInt, (getE l 1).toInt)) fun _ p => some [.int .i64 (cmpI p.1 p.2)]
@[simp] theorem g62 (n : Nat) (a b : Int) : G62 n [.int .u8 a, .int .u8 b] = some [.int .i64 (cmpI a b)] := spec_at (enc := fun p : Int × Int => [.int .u8 p.1, .int .u8 p.2]) (a, b) rfl
theorem s62 : SoundCal Tryd.prog env 62 (mkCal D62 G62) := spec_ok (snd62 G72 s72) (fun n p r h => by
  obtain ⟨a, b⟩ := p
  cases h
  refine (eq62 G72 n a b).trans ?_
  unfold cmpI
  by_cases h1 : a < b
  · simp [h1]
  · by_cases h2 : b < a <;> simp [h1, h2])

theorem getI_drop {l : List Int} {i : Nat} (h : i < l.length) : l.drop i = getI l i :: l.drop (i + 1) := by
  rw [List.drop_eq_getElem_cons h]
  congr 1
  unfold getI
  simp [h]
theorem inRt {x : Int} {n : Nat} (h1 : 0 ≤ x) (h2 : x < n) : inR x n = true := by unfold inR; simp; omega

noncomputable def G33 : Fun := spec (fun l : List Int => [.fs .i64 l]) (fun l => (getE l 0).toInts) fun n l => if l.length < n ∧ l.length < 4611686018427387904 then some [.int .i64 (orL l)] else none
theorem g33 {n : Nat} {l : List Int} (h : l.length < n) (h2 : l.length < 4611686018427387904) : G33 n [.fs .i64 l] = some [.int .i64 (orL l)] := (spec_at (enc := fun l : List Int => [.fs .i64 l]) l rfl).trans (if_pos ⟨h, h2⟩)
theorem s33 : SoundCal Tryd.prog env 33 (mkCal D33 G33) := spec_ok snd33 (fun n l r h => by
  split at h
  case isFalse => cases h
  rename_i hh
  obtain ⟨hn, hs⟩ := hh
  cases h
  refine (eq33 n l).trans ?_
  have fin : ∀ X : Option (Sum (List AV) (List AV)), (X = some (.inr [.int .i64 (orL l)]) ∨ (X = some (.inl [.int .i64 0]) ∧ orL l = 0)) → jn X (fun d2 => some [AV.int .i64 (AV.toInt (getE d2 0))]) = some [.int .i64 (orL l)] := by
    rintro X (rfl | ⟨rfl, h⟩)
    · rfl
    · simp [h]
  refine fin _ ?_
  have key := iter_any (R := Sum (List AV) (List AV)) (g := fun d0 k1 => brO (decide ((AV.toInt (getE d0 3)) < (AV.toInt (getE d0 2))))
     (brO (inR (AV.toInt (getE d0 3)) (List.length (AV.toInts (getE d0 1))))
      (let v3 : Int := (getI (AV.toInts (getE d0 1)) (Int.toNat (AV.toInt (getE d0 3))))
      brO (v3 != (AV.toInt (getE d0 0)))
       (inr (some [(.int .i64 v3)]))
       ((k1 [(.int .i64 (AV.toInt (getE d0 0))), (.fs .i64 (AV.toInts (getE d0 1))), (.int .i64 (AV.toInt (getE d0 2))), (.int .i64 (IntKind.wrap .i64 ((AV.toInt (getE d0 3)) + 1)))])))
      (none))
     (inl (some [(.int .i64 (AV.toInt (getE d0 0)))])))
    (fun i : Nat => [.int .i64 0, .fs .i64 l, .int .i64 (Int.ofNat l.length), .int .i64 (i : Nat)]) (fun i => l.length - i) (fun i => if orL (l.drop i) = 0 then .inl [.int .i64 0] else .inr [.int .i64 (orL (l.drop i))]) (fun i => i ≤ l.length) (fun i k hi hk => by
      by_cases hl : i < l.length
      · have e := getI_drop hl
        have hk' := hk (i + 1) (by show l.length - (i + 1) < l.length - i; omega) (by show i + 1 ≤ l.length; omega)
        have w : IntKind.wrap .i64 (((i : Nat) : Int) + 1) = ((i : Nat) : Int) + 1 := W_id (by omega) (by omega)
        have r1 : inR ((i : Nat) : Int) l.length = true := inRt (by omega) (by omega)
        rw [e]
        by_cases h0 : getI l i = 0
        · simp [hl, w, r1, h0, orL]
          refine hk'.trans ?_
          simp
        · have h0' : (getI l i != 0) = true := by simpa using h0
          simp [hl, r1, h0', h0, orL]
      · have : i = l.length := by omega
        subst this
        simp [orL]) n 0 (by show l.length - 0 < n; omega) (Nat.zero_le _)
  refine Or.elim (Classical.em (orL l = 0)) (fun h => .inr ⟨key.trans (by simp [h]), h⟩) (fun h => .inl (key.trans (by simp [h]))))

noncomputable def G47 : Fun := spec (fun p : List Int × List Int => [.fs .u8 p.1, .fs .u8 p.2]) (fun l => ((getE l 0).toInts, (getE l 1).toInts)) fun n p => if p.1.length < n ∧ p.1.length < 4611686018427387904 then some [.int .i64 (cmpL p.1 p.2)] else none
theorem g47 {n : Nat} {l m : List Int} (h : l.length < n) (h2 : l.length < 4611686018427387904) : G47 n [.fs .u8 l, .fs .u8 m] = some [.int .i64 (cmpL l m)] := (spec_at (enc := fun p : List Int × List Int => [.fs .u8 p.1, .fs .u8 p.2]) (l, m) rfl).trans (if_pos ⟨h, h2⟩)
theorem cmpL_drop {l m : List Int} {i : Nat} (hl : i < l.length) (hm : i < m.length) : cmpL (l.drop i) (m.drop i) = if cmpI (getI l i) (getI m i) = 0 then cmpL (l.drop (i + 1)) (m.drop (i + 1)) else cmpI (getI l i) (getI m i) := by
  rw [getI_drop hl, getI_drop hm]
  rfl
open Classical in
theorem s47 : SoundCal Tryd.prog env 47 (mkCal D47 G47) := spec_ok (snd47 G62 s62) (fun n p r h => by
  obtain ⟨l, m⟩ := p
  split at h
  case isFalse => cases h
  rename_i hh
  obtain ⟨hn, hs⟩ := hh
  replace hn : l.length < n := hn
  replace hs : l.length < 4611686018427387904 := hs
  cases h
  refine (eq47 G62 n l m).trans ?_
  let rs : Nat → Sum (List AV) (List AV) := fun i => if ∃ j, i ≤ j ∧ j < l.length ∧ (j ≥ m.length ∨ cmpI (getI l j) (getI m j) ≠ 0) then .inr [.int .i64 (cmpL (l.drop i) (m.drop i))] else .inl [.fs .u8 l, .fs .u8 m]
  have fin : ∀ X : Option (Sum (List AV) (List AV)), X = some (rs 0) → jn X (fun d3 => brO (decide ((Int.ofNat (List.length (AV.toInts (getE d3 0)))) < (Int.ofNat (List.length (AV.toInts (getE d3 1)))))) (some [(.int .i64 (-1))]) (some [AV.int .i64 0])) = some [.int .i64 (cmpL l m)] := by
    rintro X rfl
    simp only [rs]
    split
    · simp
    · rename_i hno
      have hno' : ∀ j, j < l.length → j < m.length ∧ cmpI (getI l j) (getI m j) = 0 := fun j hj => by
        constructor
        · exact Classical.byContradiction fun h => hno ⟨j, Nat.zero_le _, hj, .inl (by omega)⟩
        · exact Classical.byContradiction fun h => hno ⟨j, Nat.zero_le _, hj, .inr h⟩
      have hle : l.length ≤ m.length := by
        rcases Nat.lt_or_ge m.length l.length with h | h
        · have := (hno' m.length h).1; omega
        · exact h
      have hc : ∀ k i, l.length - i = k → i ≤ l.length → cmpL (l.drop i) (m.drop i) = if l.length < m.length then -1 else 0 := by
        intro k
        induction k with
        | zero =>
          intro i h1 h2
          have : i = l.length := by omega
          subst this
          rw [List.drop_length]
          by_cases h3 : l.length < m.length
          · rw [if_pos h3, getI_drop h3]; rfl
          · rw [if_neg h3, List.drop_of_length_le (by omega)]; rfl
        | succ k ih =>
          intro i h1 h2
          have hi : i < l.length := by omega
          rw [cmpL_drop hi (hno' i hi).1, if_pos (hno' i hi).2]
          exact ih (i + 1) (by omega) (by omega)
      have := hc l.length 0 (by omega) (Nat.zero_le _)
      simp only [List.drop_zero] at this
      rw [this]
      by_cases h3 : l.length < m.length <;> simp [h3]
  refine fin _ ?_
  refine iter_any (fun i : Nat => [.fs .u8 l, .fs .u8 m, .fs .u8 l, .int .i64 (Int.ofNat l.length), .int .i64 (i : Nat)]) (fun i => l.length - i) rs (fun i => i ≤ l.length) (fun i k hi hk => ?_) n 0 (by show l.length - 0 < n; omega) (Nat.zero_le _)
  by_cases hl : i < l.length
  · have w : IntKind.wrap .i64 (((i : Nat) : Int) + 1) = ((i : Nat) : Int) + 1 := W_id (by omega) (by omega)
    have r1 : inR ((i : Nat) : Int) l.length = true := inRt (by omega) (by omega)
    by_cases hm : i < m.length
    · have r2 : inR ((i : Nat) : Int) m.length = true := inRt (by omega) (by omega)
      have hm' : ¬ m.length ≤ i := by omega
      have hk' := hk (i + 1) (by show l.length - (i + 1) < l.length - i; omega) (by show i + 1 ≤ l.length; omega)
      by_cases h0 : cmpI (getI l i) (getI m i) = 0
      · simp [hl, hm', w, r1, r2, h0]
        refine hk'.trans ?_
        simp only [rs]
        have e : (∃ j, i + 1 ≤ j ∧ j < l.length ∧ (j ≥ m.length ∨ cmpI (getI l j) (getI m j) ≠ 0)) ↔ ∃ j, i ≤ j ∧ j < l.length ∧ (j ≥ m.length ∨ cmpI (getI l j) (getI m j) ≠ 0) := by
          constructor
          · rintro ⟨j, h1, h2⟩; exact ⟨j, by omega, h2⟩
          · rintro ⟨j, h1, h2, h3⟩
            refine ⟨j, ?_, h2, h3⟩
            rcases Nat.lt_or_ge i j with h4 | h4
            · exact h4
            · have : j = i := by omega
              subst this
              rcases h3 with h3 | h3
              · omega
              · exact (h3 h0).elim
        simp only [e]
        rw [cmpL_drop hl hm, if_pos h0]
      · have h0' : (cmpI (getI l i) (getI m i) != 0) = true := by simpa using h0
        simp [hl, hm', r1, r2, h0']
        simp only [rs]
        rw [if_pos ⟨i, Nat.le_refl _, hl, .inr h0⟩, cmpL_drop hl hm, if_neg h0]
    · have hm' : m.length ≤ i := by omega
      simp [hl, r1, hm']
      simp only [rs]
      rw [if_pos ⟨i, Nat.le_refl _, hl, .inl hm'⟩, List.drop_of_length_le hm', getI_drop hl]
      rfl
  · have : i = l.length := by omega
    subst this
    simp
    simp only [rs]
    rw [if_neg (by rintro ⟨j, h1, h2, _⟩; omega)])

noncomputable def G35 : Fun := spec (fun p : IP × IP => [p.1.av, p.2.av]) (fun l => (IP.of (getE l 0), IP.of (getE l 1))) fun n p => if 20 < n then some [.int .i64 (cmpIP p.1.av p.2.av)] else none
theorem g35 {n : Nat} {a b : IP} (h : 20 < n) : G35 n [a.av, b.av] = some [.int .i64 (cmpIP a.av b.av)] := (spec_at (enc := fun p : IP × IP => [p.1.av, p.2.av]) (a, b) rfl).trans (if_pos h)
theorem s35 : SoundCal Tryd.prog env 35 (mkCal D35 G35) := spec_ok (snd35 G33 G34 G47 s33 s34_ s47) (fun n p r h => by
  obtain ⟨a, b⟩ := p
  split at h
  case isFalse => cases h
  rename_i hn
  cases h
  refine (eq35 G33 G34 G47 n a.av b.av).trans ?_
  have h47 := g47 (n := n) (l := List.take 16 a.a) (m := List.take 16 b.a) (by rw [List.length_take]; omega) (by rw [List.length_take]; omega)
  have h33 := g33 (n := n) (l := [cmpI a.v b.v, cmpL (List.take 16 a.a) (List.take 16 b.a)]) (by show 2 < n; omega) (by show 2 < _; omega)
  simp [h47, h33, cmpIP])

noncomputable def G32 : Fun := spec (fun p : Flw × Flw => [p.1.av, p.2.av]) (fun l => (Flw.of (getE l 0), Flw.of (getE l 1))) fun n p => if 20 < n then some [.int .i64 (cmpF p.1.av p.2.av)] else none
theorem g32 {n : Nat} {a b : Flw} (h : 20 < n) : G32 n [a.av, b.av] = some [.int .i64 (cmpF a.av b.av)] := (spec_at (enc := fun p : Flw × Flw => [p.1.av, p.2.av]) (a, b) rfl).trans (if_pos h)
theorem s32 : SoundCal Tryd.prog env 32 (mkCal D32 G32) := spec_ok (snd32 G33 G34 G35 s33 s34_ s35) (fun n p r h => by
  obtain ⟨a, b⟩ := p
  split at h
  case isFalse => cases h
  rename_i hn
  cases h
  refine (eq32 G33 G34 G35 n a.av b.av).trans ?_
  have h33 := g33 (n := n) (l := [cmpI a.t.p b.t.p, cmpIP a.t.s.av b.t.s.av, cmpI a.t.sp b.t.sp, cmpIP a.t.d.av b.t.d.av, cmpI a.t.dp b.t.dp]) (by show 5 < n; omega) (by show 5 < _; omega)
  simp [g35 hn, h33, cmpF, cmpT])
end Go.Proofs.YtldnpibpbbcjgaaDoor.Am
end

section
set_option linter.unusedVariables false
set_option linter.unusedSimpArgs false
namespace Go.Proofs.YtldnpibpbbcjgaaDoor.Am
open Go Go.Am Go.Proofs

/-- A comparison: antisymmetric in its sign, and transitive. -/
structure Cmp {α : Type} (c : α → α → Int) : Prop where
  sym : ∀ a b, c b a = - c a b
  le : ∀ a b d, c a b ≤ 0 → c b d ≤ 0 → c a d ≤ 0

section
variable {α β : Type} {c : α → α → Int}
theorem Cmp.refl (h : Cmp c) (a : α) : c a a = 0 := by have := h.sym a a; omega
theorem Cmp.lt_le (h : Cmp c) {a b d : α} (h1 : c a b < 0) (h2 : c b d ≤ 0) : c a d < 0 := by
  have h3 := h.le a b d (by omega) h2
  rcases Int.lt_or_eq_of_le h3 with h4 | h4
  · exact h4
  · have h5 : c d a ≤ 0 := by have := h.sym a d; omega
    have h6 := h.le b d a h2 h5
    have := h.sym a b
    omega
theorem Cmp.le_lt (h : Cmp c) {a b d : α} (h1 : c a b ≤ 0) (h2 : c b d < 0) : c a d < 0 := by
  have h3 := h.le a b d h1 (by omega)
  rcases Int.lt_or_eq_of_le h3 with h4 | h4
  · exact h4
  · have h5 : c d a ≤ 0 := by have := h.sym a d; omega
    have h6 := h.le d a b h5 h1
    have := h.sym b d
    omega
theorem Cmp.eq_l (h : Cmp c) {a b d : α} (h1 : c a b = 0) : c a d = 0 ↔ c b d = 0 := by
  have h2 : c b a = 0 := by have := h.sym a b; omega
  have s1 := h.sym a d
  have s2 := h.sym b d
  constructor
  · intro h3
    have p1 := h.le b a d (by omega) (by omega)
    have p2 := h.le d a b (by omega) (by omega)
    omega
  · intro h3
    have p1 := h.le a b d (by omega) (by omega)
    have p2 := h.le d b a (by omega) (by omega)
    omega
theorem Cmp.comap (h : Cmp c) (f : β → α) : Cmp fun a b => c (f a) (f b) := ⟨fun a b => h.sym _ _, fun a b d => h.le _ _ _⟩
/-- First by one, then by another. -/
theorem Cmp.lex {c₂ : α → α → Int} (h : Cmp c) (h₂ : Cmp c₂) : Cmp fun a b => if c a b = 0 then c₂ a b else c a b := by
  refine ⟨fun a b => ?_, fun a b d => ?_⟩
  · have s1 := h.sym a b
    have s2 := h₂.sym a b
    by_cases h0 : c a b = 0
    · rw [if_pos h0, if_pos (by omega)]; exact s2
    · rw [if_neg h0, if_neg (by omega)]; exact s1
  · intro h1 h2
    by_cases ha : c a b = 0
    · simp only [ha, if_true] at h1
      by_cases hb : c b d = 0
      · simp only [hb, if_true] at h2
        have : c a d = 0 := (h.eq_l ha).2 hb
        simp only [this, if_true]
        exact h₂.le a b d h1 h2
      · simp only [hb, if_false] at h2
        have := h.le_lt (by omega : c a b ≤ 0) (by omega : c b d < 0)
        rw [if_neg (by omega)]
        omega
    · simp only [ha, if_false] at h1
      have hb : c b d ≤ 0 := by
        by_cases hb : c b d = 0
        · omega
        · simp only [hb, if_false] at h2; exact h2
      have := h.lt_le (by omega : c a b < 0) hb
      rw [if_neg (by omega)]
      omega
end

theorem cmpI_ord : Cmp cmpI := by
  refine ⟨fun a b => ?_, fun a b d => ?_⟩
  · unfold cmpI
    by_cases h1 : a < b
    · rw [if_neg (by omega), if_pos h1, if_pos h1]; omega
    · by_cases h2 : b < a
      · rw [if_pos h2, if_neg h1, if_pos h2]
      · rw [if_neg h2, if_neg h1, if_neg h1, if_neg h2]; omega
  · unfold cmpI
    intro h1 h2
    have ha : a ≤ b := by
      by_cases h3 : a < b
      · omega
      · rw [if_neg h3] at h1
        by_cases h4 : a > b
        · rw [if_pos h4] at h1; omega
        · omega
    have hb : b ≤ d := by
      by_cases h3 : b < d
      · omega
      · rw [if_neg h3] at h2
        by_cases h4 : b > d
        · rw [if_pos h4] at h2; omega
        · omega
    by_cases h3 : a < d
    · rw [if_pos h3]; omega
    · rw [if_neg h3, if_neg (by omega)]; omega
theorem cmpI_zero {a b : Int} : cmpI a b = 0 ↔ a = b := by
  unfold cmpI
  by_cases h1 : a < b
  · rw [if_pos h1]; omega
  · rw [if_neg h1]
    by_cases h2 : a > b
    · rw [if_pos h2]; omega
    · rw [if_neg h2]; omega

theorem cmpL_sym : ∀ a b, cmpL b a = - cmpL a b
  | [], [] => rfl
  | [], _ :: _ => rfl
  | _ :: _, [] => rfl
  | x :: a, y :: b => by
    have s := cmpI_ord.sym x y
    show (if cmpI y x = 0 then cmpL b a else cmpI y x) = - (if cmpI x y = 0 then cmpL a b else cmpI x y)
    by_cases h : cmpI x y = 0
    · rw [if_pos h, if_pos (by omega)]; exact cmpL_sym a b
    · rw [if_neg h, if_neg (by omega)]; exact s
theorem cmpL_le : ∀ a b d, cmpL a b ≤ 0 → cmpL b d ≤ 0 → cmpL a d ≤ 0
  | [], _, [], _, _ => by show (0 : Int) ≤ 0; omega
  | [], _, _ :: _, _, _ => by show (-1 : Int) ≤ 0; omega
  | _ :: _, [], _, h, _ => by have h : (1 : Int) ≤ 0 := h; omega
  | _ :: _, _ :: _, [], _, h => by have h : (1 : Int) ≤ 0 := h; omega
  | x :: a, y :: b, z :: d, h1, h2 => by
    have ih := cmpL_le a b d
    replace h1 : (if cmpI x y = 0 then cmpL a b else cmpI x y) ≤ 0 := h1
    replace h2 : (if cmpI y z = 0 then cmpL b d else cmpI y z) ≤ 0 := h2
    show (if cmpI x z = 0 then cmpL a d else cmpI x z) ≤ 0
    have h := cmpI_ord
    by_cases ha : cmpI x y = 0
    · simp only [ha, if_true] at h1
      by_cases hb : cmpI y z = 0
      · simp only [hb, if_true] at h2
        have : cmpI x z = 0 := (h.eq_l ha).2 hb
        simp only [this, if_true]
        exact ih h1 h2
      · simp only [hb, if_false] at h2
        have := h.le_lt (by omega : cmpI x y ≤ 0) (by omega : cmpI y z < 0)
        rw [if_neg (by omega)]
        omega
    · simp only [ha, if_false] at h1
      have hb : cmpI y z ≤ 0 := by
        by_cases hb : cmpI y z = 0
        · omega
        · simp only [hb, if_false] at h2; exact h2
      have := h.lt_le (by omega : cmpI x y < 0) hb
      rw [if_neg (by omega)]
      omega
theorem cmpL_ord : Cmp cmpL := ⟨cmpL_sym, cmpL_le⟩
theorem cmpL_zero : ∀ {a b : List Int}, cmpL a b = 0 → a = b
  | [], [], _ => rfl
  | [], _ :: _, h => by cases h
  | _ :: _, [], h => by cases h
  | x :: a, y :: b, h => by
    replace h : (if cmpI x y = 0 then cmpL a b else cmpI x y) = 0 := h
    by_cases h0 : cmpI x y = 0
    · rw [if_pos h0] at h
      rw [cmpI_zero.1 h0, cmpL_zero h]
    · rw [if_neg h0] at h
      exact (h0 h).elim

theorem orL1 (x : Int) : orL [x] = x := by show (if x = 0 then 0 else x) = x; split <;> omega
theorem orL_cons (x : Int) (r : List Int) : orL (x :: r) = if x = 0 then orL r else x := rfl
theorem cmpIP_ord : Cmp cmpIP := by
  have h := (cmpI_ord.comap fun a : AV => (a.item 0).toInt).lex (cmpL_ord.comap fun a : AV => (a.item 1).toInts.take 16)
  have e : (fun a b : AV => if cmpI (a.item 0).toInt (b.item 0).toInt = 0 then cmpL ((a.item 1).toInts.take 16) ((b.item 1).toInts.take 16) else cmpI (a.item 0).toInt (b.item 0).toInt) = cmpIP := by
    funext a b
    unfold cmpIP
    rw [orL_cons, orL1]
  rw [← e]
  exact h
theorem cmpT_ord : Cmp cmpT := by
  have h := (cmpI_ord.comap fun a : AV => (a.item 0).toInt).lex ((cmpIP_ord.comap fun a : AV => a.item 1).lex ((cmpI_ord.comap fun a : AV => (a.item 3).toInt).lex ((cmpIP_ord.comap fun a : AV => a.item 2).lex (cmpI_ord.comap fun a : AV => (a.item 4).toInt))))
  refine Eq.mp (congrArg Cmp ?_) h
  funext a b
  unfold cmpT
  rw [orL_cons, orL_cons, orL_cons, orL_cons, orL1]
theorem cmpF_ord : Cmp cmpF := cmpT_ord.comap fun a : AV => a.item 0

/-- Tuples whose addresses have sixteen bytes. -/
structure TupIn (x : Tup) : Prop where
  s : x.s.a.length = 16
  d : x.d.a.length = 16
theorem cmpIP_zero {a b : IP} (ha : a.a.length = 16) (hb : b.a.length = 16) (h : cmpIP a.av b.av = 0) : a = b := by
  unfold cmpIP at h
  rw [orL_cons, orL1] at h
  by_cases h0 : cmpI a.v b.v = 0
  · replace h : cmpL (a.a.take 16) (b.a.take 16) = 0 := by
      have e : cmpI (AV.item a.av 0).toInt (AV.item b.av 0).toInt = 0 := h0
      rw [if_pos e] at h
      exact h
    have h1 := cmpL_zero h
    rw [List.take_of_length_le (by omega), List.take_of_length_le (by omega)] at h1
    cases a; cases b
    simp only at h1 h0
    rw [cmpI_zero.1 h0, h1]
  · have e : ¬ cmpI (AV.item a.av 0).toInt (AV.item b.av 0).toInt = 0 := h0
    rw [if_neg e] at h
    exact (h0 h).elim
theorem cmpT_zero {a b : Tup} (ha : TupIn a) (hb : TupIn b) (h : cmpT a.av b.av = 0) : a = b := by
  have h : orL [cmpI a.p b.p, cmpIP a.s.av b.s.av, cmpI a.sp b.sp, cmpIP a.d.av b.d.av, cmpI a.dp b.dp] = 0 := h
  rw [orL_cons, orL_cons, orL_cons, orL_cons, orL1] at h
  split at h
  case isFalse h1 => exact (h1 h).elim
  case isTrue h1 =>
  split at h
  case isFalse h2 => exact (h2 h).elim
  case isTrue h2 =>
  split at h
  case isFalse h3 => exact (h3 h).elim
  case isTrue h3 =>
  split at h
  case isFalse h4 => exact (h4 h).elim
  case isTrue h4 =>
  have e1 := cmpI_zero.1 h1
  have e2 := cmpIP_zero ha.s hb.s h2
  have e3 := cmpI_zero.1 h3
  have e4 := cmpIP_zero ha.d hb.d h4
  have e5 := cmpI_zero.1 h
  cases a; cases b
  simp only at e1 e2 e3 e4 e5
  rw [e1, e2, e3, e4, e5]
end Go.Proofs.YtldnpibpbbcjgaaDoor.Am
end

section
set_option linter.unusedVariables false
set_option linter.unusedSimpArgs false
set_option maxRecDepth 20000
namespace Go.Proofs.YtldnpibpbbcjgaaDoor.Am
open Go Go.Am Go.Proofs Go.Shelf Go.RowKit Go.Lib Go.Sort

/-- The k-long parts of a list of cells. -/
def part (k : Nat) (cs : List Value) (i : Nat) : List Value := (cs.drop (i * k)).take k
theorem part_len {k m : Nat} {cs : List Value} (h : cs.length = m * k) {i : Nat} (hi : i < m) : (part k cs i).length = k := by
  unfold part
  rw [List.length_take, List.length_drop, h]
  have : i * k + k ≤ m * k := by rw [← Nat.succ_mul]; exact Nat.mul_le_mul_right _ hi
  omega
theorem part_at {k m : Nat} {cs : List Value} (h : cs.length = m * k) {i r : Nat} (hr : r < k) : (part k cs i)[r]? = cs[i * k + r]? := by
  unfold part
  rw [List.getElem?_take_of_lt hr, List.getElem?_drop]

theorem flatK_list {m k : Nat} [Inhabited (Fin m)] (enc : Fin m → List Value) (hk : ∀ i, (enc i).length = k) : ∀ l : List (Fin m), (flatK enc k l.toArray).toList = l.flatMap enc := by
  intro l
  refine List.ext_getElem? (fun t => ?_)
  have hl : (l.flatMap enc).length = l.length * k := by
    induction l with
    | nil => simp
    | cons i l ih => rw [List.flatMap_cons, List.length_append, ih, hk, List.length_cons, Nat.add_mul]; omega
  rcases Nat.lt_or_ge t (l.length * k) with h | h
  · have hkp : 0 < k := by
      rcases Nat.eq_zero_or_pos k with h0 | h0
      · rw [h0] at h; omega
      · exact h0
    have e1 : (flatK enc k l.toArray).toList[t]? = some ((enc (l.toArray[t / k]!))[t % k]!) := by
      have hs : t < (flatK enc k l.toArray).size := by rw [size_flatK]; simpa using h
      have := get_flatK enc k l.toArray t (by simpa using h)
      rw [Array.getElem?_toList, Array.getElem?_eq_getElem hs]
      rw [getElem!_pos _ t hs] at this
      rw [this]
    rw [e1]
    have key : ∀ (l : List (Fin m)) (t : Nat), t < l.length * k → (l.flatMap enc)[t]? = some ((enc (l.toArray[t / k]!))[t % k]!) := by
      intro l
      induction l with
      | nil => intro t h; simp at h
      | cons i l ih =>
        intro t h
        rw [List.flatMap_cons]
        rcases Nat.lt_or_ge t k with h1 | h1
        · rw [List.getElem?_append_left (by rw [hk]; exact h1), Nat.div_eq_of_lt h1, Nat.mod_eq_of_lt h1]
          have h2 : t < (enc i).length := by rw [hk]; exact h1
          rw [List.getElem?_eq_getElem h2]
          simp [h2]
        · rw [List.getElem?_append_right (by rw [hk]; exact h1), hk]
          have h3 : t - k < l.length * k := by rw [List.length_cons, Nat.add_mul] at h; omega
          rw [ih (t - k) h3]
          have h4 : t / k = (t - k) / k + 1 := by
            have : t = (t - k) + k := by omega
            conv => lhs; rw [this]
            rw [Nat.add_div_right _ hkp]
          have h5 : t % k = (t - k) % k := by
            have : t = (t - k) + k := by omega
            conv => lhs; rw [this]
            rw [Nat.add_mod_right]
          have h6 : (t - k) / k < l.length := by rw [Nat.div_lt_iff_lt_mul hkp]; exact h3
          rw [h4, h5]
          congr 2
          simp [h6]
    exact (key l t h).symm
  · rw [List.getElem?_eq_none (by simpa using h), List.getElem?_eq_none (by omega)]

/-- What the cells of a row are, element by element. -/
theorem CVs_parts {w : World} {ok : Nat → Prop} {θ : Nm → Option Value} {s : Sh} : ∀ {xs : List AV} {cs : List Value}, (∀ x ∈ xs, WT s x) → CVs w ok θ xs cs → ∀ (i : Nat) (h : i < xs.length), ∃ v : Value, v.cells.toList = part s.width cs i ∧ v.cells.size = (xs[i]).width ∧ CV w ok θ xs[i] v
  | [], cs, _, _, i, h => by simp at h
  | x :: xs, cs, hw, hc, i, h => by
    obtain ⟨v, rest, rfl, hs, h1, h2⟩ := hc
    have hwid : v.cells.toList.length = s.width := by rw [Array.length_toList, hs, WT_width s x (hw x (by simp))]
    cases i with
    | zero =>
      refine ⟨v, ?_, hs, h1⟩
      unfold part
      rw [Nat.zero_mul, List.drop_zero, List.take_append_of_le_length (by omega), List.take_of_length_le (by omega)]
    | succ i =>
      obtain ⟨u, h3, h4, h5⟩ := CVs_parts (fun y hy => hw y (by simp [hy])) h2 i (by simpa using h)
      refine ⟨u, ?_, h4, h5⟩
      rw [h3]
      unfold part
      have e : (v.cells.toList ++ rest).drop ((i + 1) * s.width) = rest.drop (i * s.width) := by
        rw [Nat.add_mul, Nat.one_mul, Nat.add_comm, ← List.drop_drop, ← hwid, List.drop_left]
      rw [e]
theorem CVs_gather {w : World} {ok : Nat → Prop} {θ : Nm → Option Value} {α : Type} {f : α → AV} {g : α → List Value} : ∀ {l : List α}, (∀ i ∈ l, ∃ v : Value, v.cells.toList = g i ∧ v.cells.size = (f i).width ∧ CV w ok θ (f i) v) → CVs w ok θ (l.map f) (l.flatMap g)
  | [], _ => rfl
  | i :: l, h => by
    obtain ⟨v, h1, h2, h3⟩ := h i (by simp)
    exact ⟨v, l.flatMap g, by rw [h1]; rfl, h2, h3, CVs_gather (fun j hj => h j (by simp [hj]))⟩

theorem w48 : s48.width = 40 := by decide
theorem flow_of {x : AV} (h : WT s48 x) : (Flw.of x).av = x := by
  have := eta_of_WT s48 x h
  rwa [Flw.eta] at this
theorem flow_agg {w : World} {ok : Nat → Prop} {θ : Nm → Option Value} {x : AV} {v : Value} (h : WT s48 x) (hv : CV w ok θ x v) : v = .agg v.cells := by
  rw [← flow_of h] at hv
  obtain ⟨vs, rfl, _⟩ := hv
  rfl

/-- The closure: two flows compared, in whatever world. -/
theorem call32 {W : World} {x y : AV} {u v : Value} (hx : WT s48 x) (hy : WT s48 y) (hargs : ∀ ok : Nat → Prop, CVt W ok (fun _ => none) [x, y] [u, v]) (hgd : ∀ g t, env.glob g = some t → ∃ s, WT s t ∧ inF [] s = true) (hglob : ∀ ok : Nat → Prop, (∀ b, b < W.heap.size → ok b) → GlobOK W ok env.glob) :
    Calls Tryd.prog 32 #[u, v] W fun e W' => e = .returned (.int .i64 (cmpF x y)) ∧ ∃ q os', W' = grow (W.drewN q) os' := by
  have hF : G32 21 [x, y] = some [.int .i64 (cmpF x y)] := by
    rw [← flow_of hx, ← flow_of hy]
    exact g32 (by omega)
  refine (call_one s32 (n := 21) hF rfl rfl rfl rfl rfl rfl rfl rfl (fun _ _ _ _ h => h) hgd (fun ok _ => hargs ok) hglob).mono fun e W' h => ?_
  obtain ⟨rfl, hb⟩ := h
  refine ⟨rfl, ?_⟩
  obtain ⟨p, hp⟩ := regrown_of_below hb.toBelow
  have hd := hb.drawn
  rw [hp] at hd
  have hd : W.drawn ≤ p.d := hd
  refine ⟨p.d - W.drawn, p.os, ?_⟩
  rw [hp]
  unfold grow redrawn World.drewN
  simp only [show W.drawn + (p.d - W.drawn) = p.d by omega]
end Go.Proofs.YtldnpibpbbcjgaaDoor.Am
end

section
set_option linter.unusedVariables false
set_option linter.unusedSimpArgs false
set_option maxRecDepth 20000
namespace Go.Proofs.YtldnpibpbbcjgaaDoor.Am
open Go Go.Am Go.Proofs Go.Shelf Go.RowKit Go.Lib Go.Sort

theorem isAgg48 : ∀ w, (isAgg 48).run Tryd.prog w = .ok true w := fun w => by rfl
theorem sizeOf48 : ∀ w, (Go.sizeOf 48).run Tryd.prog w = .ok 40 w := fun w => by rfl
theorem enters32 : ∀ args w, (callFunc 32 args).run Tryd.prog w = .ok (.enter 32 args) w := enters_of Tryd.func32 (by kernel_rfl) rfl

/-- The cells of a row, sorted. -/
def sortCs (xs : List AV) (cs : List Value) : List Value := ((List.finRange xs.length).mergeSort fun i j => !(decide (cmpF xs[j] xs[i] < 0))).flatMap fun i : Fin xs.length => part 40 cs i.1

theorem sortAV_len (xs : List AV) : (sortAV xs).length = xs.length := by
  unfold sortAV
  rw [List.length_map, List.length_mergeSort, List.length_finRange]
theorem sortCs_len {xs : List AV} {cs : List Value} (h : cs.length = xs.length * 40) : (sortCs xs cs).length = xs.length * 40 := by
  unfold sortCs
  have : ∀ l : List (Fin xs.length), (l.flatMap fun i : Fin xs.length => part 40 cs i.1).length = l.length * 40 := by
    intro l
    induction l with
    | nil => simp
    | cons i l ih => rw [List.flatMap_cons, List.length_append, ih, part_len h i.2, List.length_cons, Nat.add_mul]; omega
  rw [this, List.length_mergeSort, List.length_finRange]

theorem ltOf_eq (xs : List AV) (x y : Fin xs.length) : ltOf (fun i j : Fin xs.length => cmpF xs[i] xs[j]) x y = decide (cmpF xs[x] xs[y] < 0) := rfl
theorem ltOf_swo (xs : List AV) : SWO (ltOf fun i j : Fin xs.length => cmpF xs[i] xs[j]) where
  irrefl x := by
    rw [ltOf_eq]
    have := cmpF_ord.refl xs[x]
    exact decide_eq_false (by omega)
  trans x y z h1 h2 := by
    rw [ltOf_eq] at *
    have h1 := of_decide_eq_true h1
    have h2 := of_decide_eq_true h2
    exact decide_eq_true (cmpF_ord.lt_le h1 (by omega))
  ntrans x y z h1 h2 := by
    rw [ltOf_eq] at *
    have h1 := of_decide_eq_false h1
    have h2 := of_decide_eq_false h2
    refine decide_eq_false (fun h3 => ?_)
    have s1 := cmpF_ord.sym xs[x] xs[y]
    have s2 := cmpF_ord.sym xs[y] xs[z]
    have s3 := cmpF_ord.sym xs[x] xs[z]
    have := cmpF_ord.le xs[z] xs[y] xs[x] (by omega) (by omega)
    omega

theorem flatK_id {m k : Nat} [Inhabited (Fin m)] {cs : List Value} (h : cs.length = m * k) (hkp : 0 < k) : (flatK (fun i : Fin m => part k cs i.1) k (List.finRange m).toArray).toList = cs := by
  refine List.ext_getElem? (fun t => ?_)
  rcases Nat.lt_or_ge t (m * k) with ht | ht
  · have hs : t < (flatK (fun i : Fin m => part k cs i.1) k (List.finRange m).toArray).size := by rw [size_flatK]; simpa using ht
    have h1 := get_flatK (fun i : Fin m => part k cs i.1) k (List.finRange m).toArray t (by simpa using ht)
    rw [getElem!_pos _ t hs] at h1
    rw [Array.getElem?_toList, Array.getElem?_eq_getElem hs, h1]
    have h2 : t / k < m := by rw [Nat.div_lt_iff_lt_mul hkp]; exact ht
    have h3 : (List.finRange m).toArray[t / k]! = ⟨t / k, h2⟩ := by
      rw [getElem!_pos _ _ (by simpa using h2)]
      simp
    have hr : t % k < k := Nat.mod_lt _ hkp
    have h4 := part_at h (i := t / k) hr
    have h5 : t / k * k + t % k = t := by rw [Nat.mul_comm]; exact Nat.div_add_mod _ _
    rw [h5] at h4
    rw [h3, ← h4]
    have h6 : t % k < (part k cs (t / k)).length := by rw [part_len h h2]; exact hr
    rw [List.getElem?_eq_getElem h6, getElem!_pos (part k cs (t / k)) (t % k) h6]
  · rw [List.getElem?_eq_none (by simpa using ht), List.getElem?_eq_none (by omega)]

theorem putRow_heap {w : World} {g : Nat} {cur F : Array Value} {e : TypeId} {fr : Nat × Nat} (hg : w.heap[g]? = some (.cells cur e fr)) : (putRow id w g 0 F).heap[g]? = some (.cells (putCells id 0 F cur) e fr) ∧ (∀ b, b ≠ g → (putRow id w g 0 F).heap[b]? = w.heap[b]?) ∧ (putRow id w g 0 F).heap.size = w.heap.size := by
  have hgs : g < w.heap.size := (Array.getElem?_eq_some_iff.1 hg).1
  refine ⟨?_, fun b hb => ?_, ?_⟩
  · show (w.heap.modify g _)[g]? = _
    rw [Array.getElem?_modify, if_pos rfl, hg]
    rfl
  · show (w.heap.modify g _)[b]? = _
    rw [Array.getElem?_modify, if_neg (fun h => hb h.symm)]
  · show (w.heap.modify g _).size = _
    simp
theorem putCells_take {F cur : Array Value} (h : F.size ≤ cur.size) : (putCells id 0 F cur).size = cur.size ∧ (putCells id 0 F cur).toList.take F.size = F.toList := by
  refine ⟨by simp [putCells], ?_⟩
  refine List.ext_getElem? (fun t => ?_)
  rcases Nat.lt_or_ge t F.size with ht | ht
  · rw [List.getElem?_take_of_lt ht, Array.getElem?_toList, Array.getElem?_toList]
    unfold putCells
    rw [Array.getElem?_mapIdx, Array.getElem?_eq_getElem (by omega : t < cur.size), Array.getElem?_eq_getElem ht]
    simp [ht]
  · rw [List.getElem?_eq_none (by rw [List.length_take]; omega), List.getElem?_eq_none (by simpa using ht)]

theorem call31 {w : World} {xs : List AV} {cs : List Value} {g cap : Nat} {cur : Array Value} {e : TypeId} {fr : Nat × Nat} {ok : Nat → Prop} {θ : Nm → Option Value} (h0 : 0 < xs.length) (hw : ∀ x ∈ xs, WT s48 x) (hcs : CVs w ok θ xs cs) (hlen : cs.length = xs.length * 40)
    (hg : w.heap[g]? = some (.cells cur e fr)) (hfr : Free cur fr) (hcur : cur.toList.take (xs.length * 40) = cs) (hap : Apart xs) (hsz : xs.length < 4611686018427387904)
    (hgd : ∀ g t, env.glob g = some t → ∃ s, WT s t ∧ inF [] s = true) (hglob : ∀ W : World, w.heap.size ≤ W.heap.size → (∀ b, b < w.heap.size → b ≠ g → W.heap[b]? = w.heap[b]?) → ∀ ok : Nat → Prop, (∀ b, b < W.heap.size → ok b) → GlobOK W ok env.glob) :
    Calls Tryd.prog 31 #[.slice (some ⟨g, 0, none⟩) xs.length cap, .func (.func 32) #[] #[]] w fun r w' => r = .returned (.tuple #[]) ∧ ∃ (n : Nat) (os : Array Obj) (cur' : Array Value),
      w'.heap[g]? = some (.cells cur' e fr) ∧ cur'.size = cur.size ∧ cur'.toList.take (xs.length * 40) = sortCs xs cs ∧ (∀ b, b < w.heap.size → b ≠ g → w'.heap[b]? = w.heap[b]?) ∧ w.heap.size ≤ w'.heap.size ∧ w'.os = w.os ∧ w'.tape = w.tape ∧ Out w w' := by
  have hgs : g < w.heap.size := (Array.getElem?_eq_some_iff.1 hg).1
  have : Inhabited (Fin xs.length) := ⟨⟨0, h0⟩⟩
  let enc : Fin xs.length → List Value := fun i => part 40 cs i
  have hk : ∀ i, (enc i).length = 40 := fun i => part_len hlen i.2
  have hparts := CVs_parts (s := s48) hw hcs
  rw [w48] at hparts
  have hfl : flatS s48 = true := rfl
  have h1 : ∀ x, ∀ v ∈ enc x, v.oneCell' = true := by
    intro i v hv
    obtain ⟨u, hu1, hu2, hu3⟩ := hparts i i.2
    rw [show enc i = u.cells.toList from hu1.symm] at hv
    exact CV_cells (WT_flat (hw xs[i] (List.getElem_mem _))) hu3 v hv
  let d : Array (Fin xs.length) := (List.finRange xs.length).toArray
  have hd : d.size = xs.length := by simp [d]
  have hflat : (flatK enc 40 d).toList = cs := flatK_id hlen (by omega)
  have hle : xs.length * 40 ≤ cur.size := by
    have := congrArg List.length hcur
    have h2 : cur.toList.length = cur.size := Array.length_toList
    rw [List.length_take, hlen, h2] at this
    omega
  have hcell : ∀ j, j < xs.length * 40 → w.cell? ⟨g, j, none⟩ = cs[j]? ∧ w.frozen? ⟨g, j, none⟩ = false := by
    intro j hj
    constructor
    · rw [← hcur, List.getElem?_take_of_lt hj, Array.getElem?_toList]
      unfold World.cell?
      rw [hg]
      rfl
    · unfold World.frozen?
      rw [hg]
      have := hfr.2 j (by omega)
      simp only [decide_eq_false_iff_not]
      simpa using this
  have hH : HoldsK enc 40 w g 0 d := by
    intro j hj
    rw [size_flatK, hd] at hj
    obtain ⟨h2, h3⟩ := hcell j hj
    rw [Nat.zero_add]
    refine ⟨?_, h3⟩
    have hs : j < (flatK enc 40 d).size := by rw [size_flatK, hd]; exact hj
    rw [h2, ← hflat, Array.getElem?_toList, Array.getElem?_eq_getElem hs, getElem!_pos _ j hs]
    rfl
  -- the worlds that the sort passes through
  have hsw : ∀ (m : Nat) (os : Array Obj) (dk : Array (Fin xs.length)), w.heap.size ≤ (sortWorldK enc 40 w g 0 m dk os).heap.size ∧ ∀ b, b < w.heap.size → b ≠ g → (sortWorldK enc 40 w g 0 m dk os).heap[b]? = w.heap[b]? := by
    intro m os dk
    obtain ⟨_, p2, p3⟩ := putRow_heap (w := Sort.ahead w m) (F := flatK enc 40 dk) hg
    have e : (sortWorldK enc 40 w g 0 m dk os).heap = (putRow id (Sort.ahead w m) g 0 (flatK enc 40 dk)).heap ++ os := rfl
    refine ⟨by rw [e, Array.size_append, p3]; exact Nat.le_add_right _ _, fun b hb hne => ?_⟩
    rw [e, Array.getElem?_append_left (by rw [p3]; exact hb), p2 b hne]
    rfl
  have hcmp : CmpLays Tryd.prog 32 #[] enc 40 (fun i j => cmpF xs[i] xs[j]) g 0 d.size w := by
    intro m os dk _ x y
    obtain ⟨hs1, hs2⟩ := hsw m os dk
    obtain ⟨u, hu1, hu2, hu3⟩ := hparts x x.2
    obtain ⟨v, hv1, hv2, hv3⟩ := hparts y y.2
    have hx := hw xs[x] (List.getElem_mem _)
    have hy := hw xs[y] (List.getElem_mem _)
    have eu : (Value.agg (enc x).toArray) = u := by
      rw [flow_agg hx hu3]
      congr 1
      show (part 40 cs x.1).toArray = _
      rw [← hu1]
    have ev : (Value.agg (enc y).toArray) = v := by
      rw [flow_agg hy hv3]
      congr 1
      show (part 40 cs y.1).toArray = _
      rw [← hv1]
    rw [eu, ev]
    exact call32 hx hy (fun ok' => ⟨u, [v], rfl, CV_flat (fs := []) (fun D hD => by cases hD) s48 _ u hx rfl hfl hu3, v, [], rfl, CV_flat (fs := []) (fun D hD => by cases hD) s48 _ v hy rfl hfl hv3, rfl⟩) hgd (hglob _ hs1 hs2)
  have hcon := AnyQ.slices_SortFunc_total Tryd.srt 40 isAgg48 sizeOf48 enc hk h1 (fun i j => cmpF xs[i] xs[j]) (ltOf_swo xs) 32 #[] g 0 cap d w enters32 hcmp hH hgs (by rw [hd]; exact hsz) (fun x y h2 h3 => by
    rw [ltOf_eq] at h2 h3
    have h2 := of_decide_eq_false h2
    have h3 := of_decide_eq_false h3
    have := cmpF_ord.sym xs[x] xs[y]
    exact hap x y (by omega))
  rw [hd] at hcon
  refine hcon.mono fun r w' h => ?_
  obtain ⟨rfl, n, os, rfl⟩ := h
  refine ⟨rfl, n, os, putCells id 0 (flatK enc 40 ((List.finRange xs.length).mergeSort fun i j => !(decide (cmpF xs[j] xs[i] < 0))).toArray) cur, ?_⟩
  have hd' : d.toList = List.finRange xs.length := by simp [d]
  have hlt : (fun x y : Fin xs.length => !(ltOf fun i j : Fin xs.length => cmpF xs[i] xs[j]) y x) = fun i j => !(decide (cmpF xs[j] xs[i] < 0)) := rfl
  rw [hd', hlt]
  generalize hp : (List.finRange xs.length).mergeSort (fun i j => !(decide (cmpF xs[j] xs[i] < 0))) = p
  have hpl : p.length = xs.length := by rw [← hp, List.length_mergeSort, List.length_finRange]
  obtain ⟨p1, p2, p3⟩ := putRow_heap (w := Sort.ahead w n) (F := flatK enc 40 p.toArray) hg
  have hF : (flatK enc 40 p.toArray).size = xs.length * 40 := by rw [size_flatK]; simp [hpl]
  obtain ⟨q1, q2⟩ := putCells_take (F := flatK enc 40 p.toArray) (cur := cur) (by rw [hF]; exact hle)
  have e : (sortWorldK enc 40 w g 0 n p.toArray os).heap = (putRow id (Sort.ahead w n) g 0 (flatK enc 40 p.toArray)).heap ++ os := rfl
  obtain ⟨s1, s2⟩ := hsw n os p.toArray
  refine ⟨?_, q1, ?_, s2, s1, rfl, rfl, rfl, ?_⟩
  · rw [e, Array.getElem?_append_left (by rw [p3]; exact hgs), p1]
  · rw [← hF, q2, flatK_list enc hk]
    unfold sortCs
    rw [hp]
  · show w.drawn ≤ w.drawn + n
    omega
end Go.Proofs.YtldnpibpbbcjgaaDoor.Am
end

section
set_option linter.unusedVariables false
set_option linter.unusedSimpArgs false
set_option maxRecDepth 20000
namespace Go.Proofs.YtldnpibpbbcjgaaDoor.Am
open Go Go.Am Go.Proofs Go.Shelf Go.RowKit Go.Lib Go.Sort

/-- The regions of a number. -/
def regsL (id : Nat) : Code → List (Array Oper × Bool)
  | .region i o d => if Nat.beq i id then [(o, d)] else []
  | .seq a b => regsL id a ++ regsL id b
  | .cond _ a b => regsL id a ++ regsL id b
  | .block _ b => regsL id b
  | .loop b => regsL id b
  | .scope b => regsL id b
  | _ => []
theorem regsL_has {id : Nat} {ops : Array Oper} {draw : Bool} : ∀ {c : Code}, HasReg id ops draw c → (ops, draw) ∈ regsL id c := by
  intro c
  induction c with
  | region i o d =>
    rintro ⟨rfl, rfl, rfl⟩
    simp [regsL]
  | seq a b iha ihb =>
    rintro (h | h)
    · exact List.mem_append_left _ (iha h)
    · exact List.mem_append_right _ (ihb h)
  | cond q a b iha ihb =>
    rintro (h | h)
    · exact List.mem_append_left _ (iha h)
    · exact List.mem_append_right _ (ihb h)
  | block q b ih => exact fun h => ih h
  | loop b ih => exact fun h => ih h
  | scope b ih => exact fun h => ih h
  | _ => exact fun h => h.elim

noncomputable def so : Array Oper := ((regsL 6 D15.body).head?.getD (#[], false)).1
theorem regs15 : regsL 6 D15.body = [(so, false)] := by kernel_rfl
noncomputable def so1 : Oper := so.getD 0 default
noncomputable def so2 : Oper := so.getD 1 default
theorem so_eq : so = #[so1, so2] := by kernel_rfl
theorem so1_g : so1.guard = none := by kernel_rfl
theorem so1_op : so1.op = .move (.tmp 3) := by kernel_rfl
theorem so1_dst : so1.dst = some 21 := by kernel_rfl
theorem so2_g : so2.guard = none := by kernel_rfl
theorem so2_op : so2.op = .call { callee := .value (.func 31), args := #[.tmp 21, .func 32], argTypes := #[45, 82] } := by kernel_rfl
theorem so2_dst : so2.dst = some 22 := by kernel_rfl
theorem run_call31 (args : Array Value) (w : World) : (callFunc 31 args).run Tryd.prog w = .ok (.enter 31 args) w := run_callFunc Tryd.func31 (by kernel_rfl) (by decide)

theorem sortAV_WT {s : Sh} {xs : List AV} (h : ∀ x ∈ xs, WT s x) : ∀ x ∈ sortAV xs, WT s x := by
  intro x hx
  unfold sortAV at hx
  obtain ⟨i, _, rfl⟩ := List.mem_map.1 hx
  exact h _ (List.getElem_mem _)

theorem sort_cells {w : World} {ok : Nat → Prop} {θ : Nm → Option Value} {xs : List AV} {cs : List Value} (hw : ∀ x ∈ xs, WT s48 x) (h : CVs w ok θ xs cs) : CVs w ok θ (sortAV xs) (sortCs xs cs) := by
  unfold sortAV sortCs
  refine CVs_gather (fun i _ => ?_)
  have := CVs_parts hw h i.1 i.2
  rw [w48] at this
  exact this

open Classical in
theorem okSort_iff {xs : List AV} : okSort xs = true ↔ (Apart xs ∧ xs.length < 4611686018427387904) := by
  unfold okSort
  exact decide_eq_true_iff

/-- The frame and the world behind the sorting. -/
theorem rel_sorted {C : Ctx} {S : St} {θ : Nm → Option Value} {a : Act} {w w' : World} (hr : Rel C S θ a w) {d : Nat} {e : TypeId} {xs : List AV} {v : Value} {g : Nat} {cur' : Array Value} {fr : Nat × Nat} {cs : List Value} {cap : Nat}
    (ho : S.obj (.top d) = some (.rows true e s48 xs)) (hθ : θ (.top d) = some v) (hv : v = .slice (some ⟨g, 0, none⟩) xs.length cap) (hM : C.M g) (hwt : ∀ x ∈ xs, WT s48 x) (hcs : CVs w (okOf C w S θ) θ xs cs) (hlen : cs.length = xs.length * 40)
    (hcap : xs.length ≤ cap) (hcap2 : cap ≤ maxLen) (hg : w'.heap[g]? = some (.cells cur' e fr)) (hfr : Free cur' fr) (hsz : cur'.size = cap * 40) (hcur : cur'.toList.take (xs.length * 40) = sortCs xs cs)
    (hfar : ∀ b, b < w.heap.size → b ≠ g → w'.heap[b]? = w.heap[b]?) (hsize : w.heap.size ≤ w'.heap.size) (hos : w'.os = w.os) (htape : w'.tape = w.tape) (hout : Out w w') :
    Rel C (S.setObj d (.rows true e s48 (sortAV xs))) θ a w' := by
  subst hv
  refine hr.turn (fun i => i = .top d) (fun b => b = g) rfl (fun i hi => ⟨obj_setObj_other _ _ _ _ hi, rfl⟩) (fun i hi => has_setObj_other _ _ _ _ hi) (fun _ _ h => h) hos htape hout hsize hfar ?_ ?_ ?_ ?_ (fun i u _ hu => hr.base i u hu) ?_
  · rintro b rfl
    exact ⟨.top d, _, _, rfl, ho, rfl, hθ, rfl⟩
  · rintro i o₁ u b rfl h1 h2 h3 h4
    exact .inr ⟨.top d, _, _, rfl, ho, rfl, hθ, by rw [hθ] at h3; cases h3; exact h4⟩
  · rintro i j o₁ o₂ u u' b rfl rfl _ _ _ _ hne
    exact (hne rfl).elim
  · rintro i rfl hi
    exact (hi (has_setObj_same _ _ _)).elim
  · rintro hk i o₁ rfl _ h1
    rw [obj_setObj_same] at h1
    cases h1
    refine ⟨_, hθ, sortAV_WT hwt, fun _ => ⟨sortCs xs cs, sort_cells hwt (CVs_mono hk _ _ hcs), ?_, .inr ⟨g, cap, cur', fr, ?_, hM, hg, hfr, ?_, hcap2, ?_, ?_⟩⟩, fun h => by cases h⟩
    · rw [sortAV_len, w48]; exact sortCs_len hlen
    · rw [sortAV_len]
    · rw [sortAV_len]; exact hcap
    · rw [w48]; exact hsz
    · rw [sortAV_len, w48]; exact hcur

theorem ov15 (C : Ctx) (hC : C.E = env) : OvOk C Tryd.prog H15 D15.body := by
  intro id ops draw hreg φ hφ S θ a w hb hr Q hQ
  have h6 : id = 6 := by
    refine Classical.byContradiction (fun h => ?_)
    unfold H15 at hφ
    dsimp only at hφ
    split at hφ
    · exact h rfl
    · cases hφ
  subst h6
  have e : φ = ovDump := by
    cases hφ
    rfl
  subst e
  have hm := regsL_has hreg
  rw [regs15] at hm
  simp only [List.mem_singleton, Prod.mk.injEq] at hm
  obtain ⟨rfl, rfl⟩ := hm
  -- the state
  obtain ⟨d, xs, hs3, hob, hlen, hokS, hS⟩ : ∃ d xs, S.slot 3 = .own (.top d) ∧ S.obj (.top d) = some (.rows true 48 s48 xs) ∧ S.tm.length = 24 ∧ okSort xs = true ∧ (ovDump S).2 = ((S.setSlot 21 (.own (.top d))).setSlot 22 (.tup [])).setObj d (.rows true 48 s48 (sortAV xs)) := by
    unfold ovDump at hb ⊢
    cases h3 : S.slot 3 with
    | own n =>
      cases n with
      | top d =>
        rw [h3] at hb
        dsimp only at hb ⊢
        split at hb
        · rename_i e s xs ho
          simp only [Bool.and_eq_true] at hb
          obtain ⟨b1, b2, b3, b4⟩ := hb
          have b2 := Nat.eq_of_beq_eq_true b2
          have b3 := shEq_eq b3
          subst b2 b3
          refine ⟨d, xs, rfl, ho, Nat.eq_of_beq_eq_true b1, b4, rfl⟩
        · cases hb
      | mem f i => rw [h3] at hb; cases hb
    | _ => rw [h3] at hb; cases hb
  rw [hS] at hQ
  obtain ⟨hap, hbig⟩ := okSort_iff.1 hokS
  obtain ⟨u, hu0, hu, hcv⟩ := slot_in hr (i := 3) (by rw [hs3]; intro e; cases e)
  rw [hs3] at hcv
  obtain ⟨hθ, A, n, c, hvs⟩ := hcv
  obtain ⟨v, hθ', hwt, hown, _⟩ := hr.obT hob
  rw [hθ] at hθ'
  cases hθ'
  obtain ⟨cs, hcs, hcl, hrow⟩ := hown rfl
  rw [w48] at hcl hrow
  -- the first operation
  refine wp_region ?_
  rw [so_eq]
  show wpOps Tryd.prog #[so1, so2] _ [0, 1] a w
  rw [wpOps_cons]
  unfold wpOp
  simp only [show (#[so1, so2] : Array Oper)[0]? = some so1 from rfl]
  rw [if_pos (by simp [Region.wanted, so1_g])]
  refine .inl ?_
  unfold Oper.wp
  have hev : a.eval (.tmp 3) = u := hu
  have hrun : (execOp a.eval so1).run Tryd.prog w = .ok (.value u) w := by
    simp only [execOp, so1_op, hev, Sem.run_pure]
  rw [hrun, Oper.upon_value, so1_dst]
  have hr1 : Rel C (S.setSlot 21 (.own (.top d))) θ (a.put (some 21) u) w := hr.put ⟨hθ, A, n, c, hvs⟩
  have hdf : (a.put (some 21) u).defers = a.defers := rfl
  generalize ha1 : a.put (some 21) u = a1 at hr1 hdf
  have hev1 : a1.eval (.tmp 21) = u := by
    obtain ⟨u', k1, k2, k3⟩ := slot_in hr1 (i := 21) (by rw [slot_setSlot_same _ _ _ (by omega)]; intro e; cases e)
    rw [slot_setSlot_same _ _ _ (by omega)] at k3
    have : θ (.top d) = some u' := k3.1
    rw [hθ] at this
    cases this
    exact k2
  -- the call
  rw [wpOps_cons]
  unfold wpOp
  simp only [show (#[so1, so2] : Array Oper)[1]? = some so2 from rfl]
  rw [if_pos (by simp [Region.wanted, so2_g])]
  refine .inl ?_
  unfold Oper.wp
  have hcall : (execOp a1.eval so2).run Tryd.prog w = .ok (.enter 31 #[u, .func (.func 32) #[] #[]]) w := by
    have hq : a1.eval (.func 31) = .func (.func 31) #[] #[] := rfl
    have hq2 : a1.eval (.func 32) = .func (.func 32) #[] #[] := rfl
    simp only [execOp, so2_op, resolve, hq, Deferred.ofValue, Sem.run_bind, Sem.run_pure, Result.andThen_ok, invoke, Array.append_empty, Array.empty_append, List.map_toArray, List.map_cons, List.map_nil, hev1, hq2]
    exact run_call31 _ _
  rw [hcall, Oper.upon_enter]
  have hob1 : (S.setSlot 21 (.own (.top d))).obj (.top d) = some (.rows true 48 s48 xs) := hob
  have fin : ∀ w', Rel C ((S.setSlot 21 (.own (.top d))).setObj d (.rows true 48 s48 (sortAV xs))) θ a1 w' → wpOps Tryd.prog #[so1, so2] Q [] (a1.put so2.dst (.tuple #[])) w' := by
    intro w' hr2
    rw [so2_dst]
    show Q .normal _ _
    exact hQ θ _ _ (hr2.put (d := 22) (x := .tup []) ⟨#[], rfl, rfl⟩) hdf
  rcases hrow with ⟨rfl, h0⟩ | ⟨g, cap, cur, fr, rfl, hM, hg, hfr, hcap, hcap2, hsz, hcur⟩
  · have hx : xs = [] := List.eq_nil_of_length_eq_zero h0
    subst hx
    refine (AnyF.slices_SortFunc_none Tryd.srt none 0 (.func (.func 32) #[] #[]) w).mono (fun r w' h => ?_)
    obtain ⟨rfl, rfl⟩ := h
    refine fin _ ?_
    have e : sortAV [] = [] := by simp [sortAV]
    rw [e]
    refine hr1.turn (fun i => i = .top d) (fun _ => False) rfl (fun i hi => ⟨obj_setObj_other _ _ _ _ hi, rfl⟩) (fun i hi => has_setObj_other _ _ _ _ hi) (fun _ _ h => h) rfl rfl ⟨rfl, Nat.le_refl _⟩ (Nat.le_refl _) (fun b _ _ => rfl) (fun b h => h.elim) ?_ ?_ ?_ (fun i u _ hu => hr1.base i u hu) ?_
    · rintro i o₁ u b rfl h1 h2 h3 h4
      rw [hθ] at h3
      cases h3
      cases h4
    · rintro i j o₁ o₂ u u' b rfl rfl _ _ _ _ hne
      exact (hne rfl).elim
    · rintro i rfl hi
      exact (hi (has_setObj_same _ _ _)).elim
    · rintro hk i o₁ rfl _ h1
      rw [obj_setObj_same] at h1
      cases h1
      exact (hr1.obT hob1).mono hk (fun _ v b hv hb => rfl)
  · rcases Nat.eq_zero_or_pos xs.length with h0 | h0
    · have hx : xs = [] := List.eq_nil_of_length_eq_zero h0
      subst hx
      refine (AnyF.slices_SortFunc_none Tryd.srt (some ⟨g, 0, none⟩) cap (.func (.func 32) #[] #[]) w).mono (fun r w' h => ?_)
      obtain ⟨rfl, rfl⟩ := h
      refine fin _ ?_
      have e : sortAV [] = [] := by simp [sortAV]
      rw [e]
      refine hr1.turn (fun i => i = .top d) (fun b => b = g) rfl (fun i hi => ⟨obj_setObj_other _ _ _ _ hi, rfl⟩) (fun i hi => has_setObj_other _ _ _ _ hi) (fun _ _ h => h) rfl rfl ⟨rfl, Nat.le_refl _⟩ (Nat.le_refl _) (fun b _ _ => rfl) ?_ ?_ ?_ ?_ (fun i u _ hu => hr1.base i u hu) ?_
      · rintro b rfl
        exact ⟨.top d, _, _, rfl, hob1, rfl, hθ, rfl⟩
      · rintro i o₁ u b rfl h1 h2 h3 h4
        exact .inr ⟨.top d, _, _, rfl, hob1, rfl, hθ, by rw [hθ] at h3; cases h3; exact h4⟩
      · rintro i j o₁ o₂ u u' b rfl rfl _ _ _ _ hne
        exact (hne rfl).elim
      · rintro i rfl hi
        exact (hi (has_setObj_same _ _ _)).elim
      · rintro hk i o₁ rfl _ h1
        rw [obj_setObj_same] at h1
        cases h1
        exact (hr1.obT hob1).mono hk (fun _ v b hv hb => rfl)
    · have hgs : g < w.heap.size := (Array.getElem?_eq_some_iff.1 hg).1
      have hcs1 : CVs w (okOf C w (S.setSlot 21 (.own (.top d))) θ) θ xs cs := hcs
      have hgd : ∀ g t, env.glob g = some t → ∃ s, WT s t ∧ inF [] s = true := by rw [← hC]; exact C.gd
      refine (call31 (cap := cap) h0 hwt hcs1 hcl hg hfr hcur hap hbig hgd (fun W hW1 hW2 ok hok => ?_)).mono (fun r w' h => ?_)
      · intro gl t hgl
        have hgl' : C.E.glob gl = some t := by rw [hC]; exact hgl
        have h1 := hr1.globs gl t hgl'
        have hk : Keeps w W (okOf C w (S.setSlot 21 (.own (.top d))) θ) ok θ θ := by
          refine ⟨fun b hb => hok b (Nat.lt_of_lt_of_le hb.1 hW1), fun b hb => hW2 b hb.1 (fun e => ?_), fun _ _ h => h⟩
          subst e
          exact hb.2.2 ⟨.top d, _, _, hob1, rfl, hθ, rfl⟩
        have h2 := CV_mono hk _ _ h1
        obtain ⟨s, hst, hsi⟩ := hgd gl t hgl
        obtain ⟨ad, u, e, hok', hu', hcl'⟩ := h2
        exact ⟨ad, u, e, hok', CV_in (fs := []) (fun D hD => by cases hD) (fun _ h => h) s t u hst hsi hu', hcl'⟩
      · obtain ⟨rfl, m, os, cur', k1, k2, k3, k4, k5, k6, k7, k8⟩ := h
        refine fin _ (rel_sorted hr1 hob1 hθ rfl hM hwt hcs1 hcl hcap hcap2 k1 ?_ (by rw [k2]; exact hsz) k3 k4 k5 k6 k7 k8)
        exact ⟨hfr.1, fun o ho => hfr.2 o (by rw [← k2]; exact ho)⟩
end Go.Proofs.YtldnpibpbbcjgaaDoor.Am
end

section
set_option linter.unusedVariables false
set_option linter.unusedSimpArgs false
set_option maxRecDepth 20000
namespace Go.Proofs.YtldnpibpbbcjgaaDoor.Am
open Go Go.Am Go.Proofs

def leA (a b : AV) : Bool := !(decide (cmpF b a < 0))
theorem leA_iff {a b : AV} : leA a b = true ↔ cmpF a b ≤ 0 := by
  unfold leA
  have := cmpF_ord.sym a b
  by_cases h : cmpF b a < 0
  · simp [h]; omega
  · simp [h]; omega
theorem map_fin {α : Type} (xs : List α) : (List.finRange xs.length).map (fun i => xs[i]) = xs := by
  refine List.ext_getElem (by simp) (fun i h1 h2 => ?_)
  simp
theorem sortAV_eq (xs : List AV) : sortAV xs = xs.mergeSort leA := by
  unfold sortAV
  refine (List.map_mergeSort (r := fun i j : Fin xs.length => !(decide (cmpF xs[j] xs[i] < 0))) (s := leA) (f := fun i : Fin xs.length => xs[i]) (fun a _ b _ => rfl)).trans ?_
  rw [map_fin]
theorem sortAV_perm (xs : List AV) : (sortAV xs).Perm xs := by
  rw [sortAV_eq]
  exact List.mergeSort_perm _ _
theorem sortAV_pair (xs : List AV) : (sortAV xs).Pairwise fun a b => cmpF a b ≤ 0 := by
  rw [sortAV_eq]
  have := List.pairwise_mergeSort (le := leA) (fun a b d h1 h2 => leA_iff.2 (cmpF_ord.le a b d (leA_iff.1 h1) (leA_iff.1 h2))) (fun a b => by
    have := cmpF_ord.sym a b
    rw [Bool.or_eq_true, leA_iff, leA_iff]
    omega) xs
  exact this.imp (fun h => leA_iff.1 h)
theorem Apart.same {xs : List AV} (h : Apart xs) {a b : AV} (ha : a ∈ xs) (hb : b ∈ xs) (e : cmpF a b = 0) : a = b := by
  obtain ⟨i, hi, rfl⟩ := List.getElem_of_mem ha
  obtain ⟨j, hj, rfl⟩ := List.getElem_of_mem hb
  have := h ⟨i, hi⟩ ⟨j, hj⟩ e
  cases this
  rfl
theorem sortAV_of_perm {xs ys : List AV} (h : xs.Perm ys) (ha : Apart xs) : sortAV xs = sortAV ys := by
  refine List.Perm.eq_of_pairwise (le := fun a b => cmpF a b ≤ 0) (fun a b h1 h2 h3 h4 => ?_) (sortAV_pair _) (sortAV_pair _) (((sortAV_perm xs).trans h).trans (sortAV_perm ys).symm)
  refine ha.same ((sortAV_perm xs).mem_iff.1 h1) (h.mem_iff.2 ((sortAV_perm ys).mem_iff.1 h2)) ?_
  have := cmpF_ord.sym a b
  omega

/-- The live flows. -/
def live (s : Tb) : List Flw := s.es.filterMap fun e => s.F[e.2.2]?
theorem mem_live {s : Tb} {f : Flw} : f ∈ live s ↔ Has s f := by
  unfold live Has
  rw [List.mem_filterMap]
theorem live_keys {s : Tb} (hi : Inv s) : (live s).map (fun f => f.t) = s.es.map fun e => e.2.1 := by
  unfold live
  have h := hi.ptr
  generalize s.es = l at h
  induction l with
  | nil => rfl
  | cons e r ih =>
    obtain ⟨f, h1, h2⟩ := h e (by simp)
    rw [List.filterMap_cons, h1]
    simp only [List.map_cons]
    rw [ih (fun x hx => h x (by simp [hx])), h2]
theorem live_len {s : Tb} (hi : Inv s) : (live s).length = s.es.length := by
  have := congrArg List.length (live_keys hi)
  simpa using this
structure DumpOk (n : Nat) (s : Tb) : Prop where
  inv : InvT s
  len : s.es.length < n
  sm : s.es.length < 1000000
  in16 : ∀ f, Has s f → TupIn f.t

theorem apart_of {l : List Flw} (hk : (l.map fun f => f.t).Nodup) (h16 : ∀ f ∈ l, TupIn f.t) : Apart (l.map Flw.av) := by
  intro i j h
  have hi : i.1 < l.length := by simpa using i.2
  have hj : j.1 < l.length := by simpa using j.2
  have e1 : (l.map Flw.av)[i] = (l[i.1]).av := by simp
  have e2 : (l.map Flw.av)[j] = (l[j.1]).av := by simp
  rw [e1, e2] at h
  have h3 : cmpT (l[i.1]).t.av (l[j.1]).t.av = 0 := h
  have h4 := cmpT_zero (h16 _ (List.getElem_mem hi)) (h16 _ (List.getElem_mem hj)) h3
  have h5 : (l.map fun f => f.t)[i.1]'(by simpa using hi) = (l.map fun f => f.t)[j.1]'(by simpa using hj) := by simpa using h4
  refine Fin.ext ((List.getElem?_inj (by simpa using hi) hk).1 ?_)
  rw [List.getElem?_eq_getElem (by simpa using hi), List.getElem?_eq_getElem (by simpa using hj), h5]

/-- The dump. -/
def dump (s : Tb) : List Flw := (live s).mergeSort fun a b => leA a.av b.av
theorem dump_av (s : Tb) : sortAV ((live s).map Flw.av) = (dump s).map Flw.av := by
  rw [sortAV_eq]
  unfold dump
  exact (List.map_mergeSort (r := fun a b : Flw => leA a.av b.av) (s := leA) (f := Flw.av) (fun a _ b _ => rfl)).symm
theorem dump_perm (s : Tb) : (dump s).Perm (live s) := List.mergeSort_perm _ _
theorem mem_dump {s : Tb} {f : Flw} : f ∈ dump s ↔ Has s f := by rw [(dump_perm s).mem_iff, mem_live]
theorem dump_len {s : Tb} (hi : Inv s) : (dump s).length = s.es.length := by rw [(dump_perm s).length_eq, live_len hi]

theorem left_perm {l : List (Int × Tup × Nat)} (hn : (l.map fun e => e.1).Nodup) {e : Int × Tup × Nat} (he : e ∈ l) : l.Perm (e :: l.filter fun x => !(x.1 == e.1)) := by
  induction l with
  | nil => cases he
  | cons x r ih =>
    rw [List.map_cons, List.nodup_cons] at hn
    rcases List.mem_cons.1 he with rfl | he
    · rw [List.filter_cons_of_neg (by simp)]
      rw [List.filter_eq_self.2 (fun y hy => ?_)]
      have : y.1 ≠ e.1 := fun h => hn.1 (h ▸ List.mem_map.2 ⟨y, hy, rfl⟩)
      simpa using this
    · have hx : x.1 ≠ e.1 := fun h => hn.1 (h ▸ List.mem_map.2 ⟨e, he, rfl⟩)
      rw [List.filter_cons_of_pos (by simpa using hx)]
      exact ((ih hn.2 he).cons x).trans (List.Perm.swap _ _ _)
theorem left_nodup {seen : List Int} {es : List (Int × Tup × Nat)} (hn : (es.map fun e => e.1).Nodup) : ((left seen es).map fun e => e.1).Nodup := (List.filter_sublist.map _).nodup hn

def encD (s : Tb) : List AV := .pt 2 (some 0) :: s.ms
def decD (l : List AV) : Tb := Tb.of (l.drop 1)
open Classical in
noncomputable def outD (n : Nat) (s : Tb) : Option (List AV) := if DumpOk n s then some (.fv s48 ((dump s).map Flw.av) :: s.ms) else none
noncomputable def G15 : Fun := spec encD decD outD
theorem g15 (n : Nat) (s : Tb) (h : DumpOk n s) : G15 n (.pt 2 (some 0) :: s.ms) = some (.fv s48 ((dump s).map Flw.av) :: s.ms) :=
  (spec_at (enc := encD) s (Tb.of_ms s)).trans (if_pos h)

theorem s15 : SoundCal Tryd.prog env 15 (mkCal D15 G15) := spec_ok (snd15 ov15) (fun n s r h => by
  unfold outD at h
  split at h
  case isFalse => cases h
  rename_i ok
  cases h
  have hi := ok.inv
  refine (eq15 n (some 0) s.m1 s.m2 s.m3 s.m4).trans ?_
  rw [brO_t (b := Option.isSome (some 0)) rfl, brO_t (b := Option.isSome _) rfl]
  let st (y : List Int × List Flw) : List AV := [.tup s.m1, .tup s.m2, .tup s.m3, .tup s.m4, .fv s48 (y.2.map Flw.av), .tup [.int .i64 0, .int .i64 s.ck, .fs .i64 y.1, .int .i64 s.ck]]
  let R : List AV := .fv s48 ((dump s).map Flw.av) :: s.ms
  let good (y : List Int × List Flw) : Prop := (y.2 ++ (left y.1 s.es).filterMap fun e => s.F[e.2.2]?).Perm (live s)
  have h0 : left [] s.es = s.es := by unfold left; simp
  refine iter_any st (fun y => (left y.1 s.es).length) (fun _ => R) good (fun y k hgood hk => ?_) n ([], []) (by show (left [] s.es).length < n; rw [h0]; exact ok.len) (by simp only [good]; rw [h0]; exact List.Perm.refl _)
  obtain ⟨seen, acc⟩ := y
  replace hgood : (acc ++ (left seen s.es).filterMap fun e => s.F[e.2.2]?).Perm (live s) := hgood
  dsimp only [st, ge0, ge1, ge2, ge3, ge4, ge5, ge6, ge7, tI, tB, tT, tV, tF, tM, tC, tP, tQ, Tb.m3, Int.toNat_zero]
  refine (brO_t ((Bool.and_eq_true _ _).mpr ⟨all_e hi.lt, decide_eq_true (Int.le_refl _)⟩)).trans ?_
  rw [mleft_e]
  have hkeys : ((live s).map fun f => f.t).Nodup := by rw [live_keys hi.toInv]; exact hi.keys
  have hal : acc.length + ((left seen s.es).filterMap fun e => s.F[e.2.2]?).length = s.es.length := by
    have := hgood.length_eq
    rw [List.length_append, live_len hi.toInv] at this
    exact this
  have hsm := ok.sm
  cases hl : left seen s.es with
  | nil =>
    rw [hl] at hgood
    replace hgood : acc.Perm (live s) := by simpa using hgood
    have hkeys2 : (acc.map fun f => f.t).Nodup := (hgood.map _).nodup_iff.2 hkeys
    have hap := apart_of hkeys2 (fun f hf => ok.in16 f (mem_live.1 (hgood.mem_iff.1 hf)))
    rw [brO_t (by rfl), brO_t (okSort_iff.2 ⟨hap, by rw [List.length_map]; omega⟩)]
    rw [sortAV_of_perm (hgood.map Flw.av) hap, dump_av]
    rfl
  | cons e0 l0 =>
    rw [brO_f (by rfl)]
    refine allO_some.2 ⟨by simp, fun i hlt => ?_⟩
    rw [← hl] at hlt ⊢
    rw [List.length_map] at hlt
    obtain ⟨e, he⟩ : ∃ e, (left seen s.es)[i]? = some e := ⟨_, List.getElem?_eq_getElem hlt⟩
    have hmem := List.mem_of_getElem? he
    have hes := (left_mem.1 hmem).1
    obtain ⟨f, hf, hft⟩ := hi.ptr e hes
    rw [getE_map he]
    have hlast : (seen ++ [bornOf (eAv e)]).getLastD 0 = e.1 := by simp [born_e]
    rw [hlast, mfindB_e hi.born hes]
    rw [brO_t (by simp), brO_t (by rfl)]
    rw [brO_t (Nat.ble_eq_true_of_le (by rw [List.length_map]; omega))]
    have hg : getE s.m1 (Option.getD (AV.toPt (AV.item (Option.getD (some (eAv e)) .undef) 2)) 0) = f.av := m1_at hf
    rw [hg]
    have hst : ∀ b : Int, [.tup s.m1, .tup s.m2, .tup [.mc (s.es.map eAv) s.ck], .tup s.m4, .fv s48 (acc.map Flw.av ++ [Go.Am.eta s48 f.av]), .tup [.int .i64 0, .int .i64 s.ck, .fs .i64 (seen ++ [b]), .int .i64 s.ck]] = st (seen ++ [b], acc ++ [f]) := fun b => by
      simp only [st, List.map_append, List.map_cons, List.map_nil]
      rfl
    refine (congrArg k (hst e.1)).trans (hk (seen ++ [e.1], acc ++ [f]) (left_lt hmem) ?_)
    show (acc ++ [f] ++ (left (seen ++ [e.1]) s.es).filterMap fun e => s.F[e.2.2]?).Perm (live s)
    refine List.Perm.trans ?_ hgood
    rw [List.append_assoc]
    refine List.Perm.append_left _ ?_
    rw [left_snoc]
    have := (left_perm (left_nodup hi.born) hmem).filterMap (fun e => s.F[e.2.2]?)
    rw [List.filterMap_cons, hf] at this
    exact this.symm)
end Go.Proofs.YtldnpibpbbcjgaaDoor.Am
end
