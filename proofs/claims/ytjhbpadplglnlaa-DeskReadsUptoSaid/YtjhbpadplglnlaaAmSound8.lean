/-
  AM: the operations are sound, part 8: literals, make, append.
-/
import Derived.Test.YtjhbpadplglnlaaAmSound7
set_option linter.unusedVariables false
set_option linter.unusedSimpArgs false
namespace Go.Am
open Go.RowKit

section
variable {C : Ctx} {S S' : St} {θ θ' : Nat → Option Value} {a : Act} {w w' : World} {n : Nat} {ok : Nat → Prop} {P : Program} {o : Oper}

theorem CVt_length : ∀ {us : List AV} {vs : List Value}, CVt w ok θ us vs → us.length = vs.length
  | [], vs, h => by simp only [CVt] at h; subst h; rfl
  | x :: us, vs, h => by obtain ⟨v, rest, rfl, _, h2⟩ := h; simp [CVt_length h2]

theorem allInts_ok {k : IntKind} : ∀ {us : List AV} {vs : List Value} {xs : List Int}, allInts k us = some xs → CVt w ok θ us vs → vs = ints k xs
  | [], vs, xs, h, hv => by cases h; simp only [CVt] at hv; subst hv; rfl
  | u :: us, vs, xs, h, hv => by
    cases u <;> first | (simp [allInts] at h; done) | skip
    rename_i k' m
    simp only [allInts] at h
    split at h <;> first | (cases h; done) | skip
    rename_i hk
    have := eq_of_beq hk
    subst this
    obtain ⟨v, rest, rfl, h1, h2⟩ := hv
    cases hr : allInts k us with
    | none => rw [hr] at h; cases h
    | some ys =>
      rw [hr] at h
      cases h
      have hv : v = .int k m := h1
      rw [hv, allInts_ok hr h2]
      rfl

/-- All elements of a literal filled in. -/
theorem fill_all {size : Nat} : ∀ (vs : List Value) (j : Nat) (us old : List Value), (∀ v ∈ vs, v.cells.size = size) → us.length = j * size → old.length = vs.length * size →
    Instr.fill (fun i => some (i * size, size)) (us ++ old).toArray ((List.range' j vs.length).zip vs) = some (us ++ vs.flatMap (·.cells.toList)).toArray
  | [], j, us, old, h1, h2, h3 => by
    have : old = [] := List.eq_nil_of_length_eq_zero (by simpa using h3)
    subst this
    simp [Instr.fill]
  | v :: vs, j, us, old, h1, h2, h3 => by
    have hv := h1 v (by simp)
    have hlo : size ≤ old.length := by rw [h3, List.length_cons, Nat.add_mul]; omega
    simp only [List.length_cons, List.range'_succ, List.zip_cons_cons, Instr.fill]
    have hfit : ¬ (v.cells.size ≠ size || decide (j * size + v.cells.size > (us ++ old).toArray.size)) = true := by
      simp only [Bool.or_eq_true, decide_eq_true_eq, not_or]
      refine ⟨by simp [hv], ?_⟩
      simp only [List.size_toArray, List.length_append]
      omega
    rw [if_neg (by simpa using hfit)]
    have hz : ∀ (init : Array Value), v.cells.zipIdx.foldl (fun cs (x : Value × Nat) => cs.setIfInBounds (j * size + x.2) x.1) init = (v.cells.toList.zipIdx 0).foldl (fun cs (x : Value × Nat) => cs.setIfInBounds (j * size + x.2) x.1) init := by
      intro init
      rw [← Array.foldl_toList, Array.toList_zipIdx]
    have e : (us ++ old).toArray = (us ++ (old.take size ++ old.drop size)).toArray := by rw [List.take_append_drop]
    have e2 : v.cells.zipIdx.foldl (fun cs (x : Value × Nat) => match x with | (c, i) => cs.setIfInBounds (j * size + i) c) (us ++ old).toArray = ((us ++ v.cells.toList) ++ old.drop size).toArray := by
      have := hz (us ++ old).toArray
      rw [e, foldSet (j * size) v.cells.toList us (old.take size) (old.drop size) 0 (by simp [h2]) (by rw [List.length_take, Nat.min_eq_left hlo, Array.length_toList, hv])] at this
      rw [← e] at this
      rw [List.append_assoc]
      exact this
    rw [e2]
    rw [fill_all vs (j + 1) (us ++ v.cells.toList) (old.drop size) (fun x hx => h1 x (by simp [hx])) (by rw [List.length_append, h2, Array.length_toList, hv, Nat.add_mul]; omega) (by rw [List.length_drop, h3, List.length_cons, Nat.add_mul]; omega)]
    simp

theorem run_buildSlice {t e : TypeId} {i : TypeInfo} {z : Value} {vs : List Value} {size : Nat} (ht : P.underlying t = some (.slice e)) (hi : P.info? e = some i) (hz : i.zero = some z) (hs : i.size = size)
    (hle : vs.length * size ≤ 16777216) (hv : ∀ v ∈ vs, v.cells.size = size) :
    (Instr.buildSlice t vs.length ((List.range vs.length).zip vs).toArray).run P w =
      .ok (.slice (some ⟨w.heap.size, 0, none⟩) vs.length vs.length) (w.alloc (.cells (vs.flatMap (·.cells.toList)).toArray e)) := by
  subst hs
  have hf : ∀ (init : Array Value), init.size = vs.length * i.size → Instr.fill (fun j => some (j * i.size, i.size)) init ((List.range vs.length).zip vs) = some (vs.flatMap (·.cells.toList)).toArray := by
    intro init hin
    have := fill_all vs 0 [] init.toList hv (by simp) (by simpa using hin)
    simpa [List.range_eq_range'] using this
  have hno : ¬ vs.length * i.size > 2 ^ 24 := by omega
  by_cases h0 : vs.length * i.size = 0
  · simp only [Instr.buildSlice, Sem.run_bind, run_underlying ht, Result.andThen_ok, sizeOf, typeInfo, run_program, hi, Sem.run_pure, hno, if_false]
    simp only [h0, if_true, Sem.run_bind, Sem.run_pure, Result.andThen_ok]
    split
    · rename_i hc
      rw [hf _ (by simp [h0])] at hc
      cases hc
      rfl
    · rename_i hc
      rw [hf _ (by simp [h0])] at hc
      exact (hc _ rfl).elim
  · simp only [Instr.buildSlice, Sem.run_bind, run_underlying ht, Result.andThen_ok, sizeOf, typeInfo, run_program, hi, Sem.run_pure, hno, if_false, h0, zeroValue, hz]
    rw [hf _ (by simp)]
    rfl

theorem ints_flatMap (k : IntKind) (xs : List Int) : (ints k xs).flatMap (·.cells.toList) = ints k xs := by
  induction xs with
  | nil => rfl
  | cons x xs ih => simp only [ints, List.map_cons, List.flatMap_cons] at ih ⊢; rw [ih]; rfl

theorem flatMap_len {vs : List Value} {size : Nat} (h : ∀ v ∈ vs, v.cells.size = size) : (vs.flatMap (·.cells.toList)).length = vs.length * size := by
  induction vs with
  | nil => simp
  | cons v vs ih =>
    rw [List.flatMap_cons, List.length_append, ih (fun x hx => h x (by simp [hx])), Array.length_toList, h v (by simp), List.length_cons, Nat.add_mul]
    omega

theorem CVs_flatMap {s : Nat} : ∀ {us : List AV} {vs : List Value}, CVt w ok θ us vs → (∀ u ∈ us, u.stor = true) → CVs w ok θ us (vs.flatMap (·.cells.toList))
  | [], vs, h, _ => by simp only [CVt] at h; subst h; rfl
  | u :: us, vs, h, hs => by
    obtain ⟨v, rest, rfl, h1, h2⟩ := h
    exact ⟨v, _, by rw [List.flatMap_cons], CV_size (hs u (by simp)) h1, h1, CVs_flatMap (s := s) h2 (fun x hx => hs x (by simp [hx]))⟩

theorem zip_map_parts (parts : List (Nat × Operand)) (f : Operand → Value) : parts.map (fun x => (x.1, f x.2)) = (parts.map (·.1)).zip ((parts.map (·.2)).map f) := by
  induction parts with
  | nil => rfl
  | cons x r ih => simp [ih]

theorem opBuildSlice_ok {t : TypeId} {len : Nat} {parts : Array (Nat × Operand)} {us : List AV} (ho : o.op = .buildSlice t len parts) (h : Rel C S θ a w)
    (hu : CVt w (okOf C w S θ) θ us ((parts.toList.map (·.2)).map a.eval)) (hh : (opBuildSlice P o t len (parts.toList.map (·.1)) us).exe n S = some S') : Does P C S' o a w := by
  unfold opBuildSlice at hh
  split at hh <;> first | exact (exe_fail hh).elim | skip
  rename_i e he
  have ht := elemT_ok he
  obtain ⟨hm, hh1⟩ := exe_must hh
  simp only [Bool.and_eq_true, beq_iff_eq] at hm
  obtain ⟨hidx, hle⟩ := hm
  have hle := Nat.le_of_ble_eq_true hle
  have hvl : ((parts.toList.map (·.2)).map a.eval).length = len := by
    have := congrArg List.length hidx
    simpa using this
  have run : ∀ (i : TypeInfo) (z : Value) (size : Nat), P.info? e = some i → i.zero = some z → i.size = size → (∀ v ∈ (parts.toList.map (·.2)).map a.eval, v.cells.size = size) →
      (execOp a.eval o).run P w = .ok (.value (.slice (some ⟨w.heap.size, 0, none⟩) len len)) (w.alloc (.cells (((parts.toList.map (·.2)).map a.eval).flatMap (·.cells.toList)).toArray e)) := by
    intro i z size hi hz hs hv
    have hsz : sizeT P e = size := by simp [sizeT, hi, hs]
    have := run_buildSlice (P := P) (w := w) ht hi hz hs (vs := (parts.toList.map (·.2)).map a.eval) (by rw [hvl, ← hsz]; exact hle) hv
    rw [hvl, ← hidx, ← zip_map_parts] at this
    simp only [execOp, ho, Sem.run_bind]
    have e : (parts.map fun (x : Nat × Operand) => match x with | (i, x) => (i, a.eval x)) = (parts.toList.map fun x => (x.1, a.eval x.2)).toArray := by apply Array.ext'; simp
    rw [e, this]
    rfl
  split at hh1 <;> first | exact (exe_fail hh1).elim | skip
  · rename_i k i hk hi
    split at hh1 <;> first | exact (exe_fail hh1).elim | skip
    rename_i xs z hxs hz
    obtain ⟨hm, hh2⟩ := exe_must hh1
    simp only [Bool.and_eq_true] at hm
    have hs1 := Nat.eq_of_beq_eq_true hm.1
    have hvs := allInts_ok hxs hu
    have hxl : xs.length = len := by rw [← hvl, hvs, ints_length]
    have hone : ∀ v ∈ (parts.toList.map (·.2)).map a.eval, v.cells.size = 1 := by
      rw [hvs]
      intro v hv
      simp only [ints, List.mem_map] at hv
      obtain ⟨_, _, rfl⟩ := hv
      rfl
    have hfl : ((parts.toList.map (·.2)).map a.eval).flatMap (·.cells.toList) = ints k xs := by
      rw [hvs]
      exact ints_flatMap k xs
    have hr := run i z 1 hi hz hs1 hone
    rw [hfl] at hr
    have hlm : len ≤ maxLen := by
      have : sizeT P e = 1 := by simp [sizeT, hi, hs1]
      rw [this] at hle
      unfold maxLen
      omega
    obtain ⟨θ', hrel⟩ := newOb_ok (v := .slice (some ⟨w.heap.size, 0, none⟩) len len) h hh2 (Below.new w (.cells (ints k xs).toArray e)) (by rintro g hg; cases hg; exact Nat.le_refl _) (base0_row _ _ _)
      (by
        intro d ok' θ' hk hd
        refine ⟨_, hd, fun _ => ⟨by simp [ints], .inr ⟨w.heap.size, len, _, (0, 0), by rw [hxl], h.size, heap_alloc_new w _, free00 _, by omega, hlm, by simp [ints, hxl], ?_⟩⟩, fun h => by cases h⟩
        simp [List.take_of_length_le, ints])
      (by intro d ok' θ' hd; exact ⟨hd, _, _, _, rfl⟩)
    exact Does.value hr hrel
  · rename_i i hk hi
    split at hh1 <;> first | exact (exe_fail hh1).elim | skip
    rename_i s z hs hz
    obtain ⟨hm, hh2⟩ := exe_must hh1
    simp only [Bool.and_eq_true] at hm
    obtain ⟨⟨hs1, hs2⟩, hs3, hs4⟩ := hm
    have hs1 := Nat.eq_of_beq_eq_true hs1
    have hs2 := Nat.le_of_ble_eq_true hs2
    have hall : ∀ u ∈ us, u.width = s.width ∧ u.stor = true := by
      intro u hu
      have := List.all_eq_true.1 hs4 u hu
      simp only [Bool.and_eq_true] at this
      exact ⟨Nat.eq_of_beq_eq_true this.1, this.2⟩
    have hone : ∀ v ∈ (parts.toList.map (·.2)).map a.eval, v.cells.size = s.width := by
      clear run hvl
      generalize (parts.toList.map (·.2)).map a.eval = vs at hu
      clear hh hh1 hh2 hs4
      induction us generalizing vs with
      | nil => simp only [CVt] at hu; subst hu; intro v hv; cases hv
      | cons u us ih =>
        obtain ⟨v, rest, rfl, h1, h2⟩ := hu
        intro x hx
        rcases List.mem_cons.1 hx with rfl | hx
        · rw [CV_size (hall u (by simp)).2 h1, (hall u (by simp)).1]
        · exact ih (fun u hu => hall u (by simp [hu])) rest h2 x hx
    have hr := run i z s.width hi hz hs1 hone
    have hul : us.length = len := by rw [CVt_length hu, hvl]
    have hfl := flatMap_len hone
    rw [hvl] at hfl
    have hwid : AV.widths us = us.length * s.width := by
      clear hh hh1 hh2 hs4 hu run hul
      induction us with
      | nil => simp [AV.widths]
      | cons u us ih =>
        simp only [AV.widths, ih (fun u hu => hall u (by simp [hu])), (hall u (by simp)).1, List.length_cons, Nat.add_mul, Nat.one_mul]
        omega
    have hlm : len ≤ maxLen := by
      have : sizeT P e = s.width := by simp [sizeT, hi, hs1]
      rw [this] at hle
      have : len * 1 ≤ len * s.width := Nat.mul_le_mul_left _ hs2
      unfold maxLen
      omega
    obtain ⟨θ', hrel⟩ := newOb_ok (v := .slice (some ⟨w.heap.size, 0, none⟩) len len) h hh2 (Below.new w (.cells (((parts.toList.map (·.2)).map a.eval).flatMap (·.cells.toList)).toArray e)) (by rintro g hg; cases hg; exact Nat.le_refl _) (base0_row _ _ _)
      (by
        intro d ok' θ' hk hd
        refine ⟨_, _, hd, CVs_mono hk _ _ (CVs_flatMap (s := 0) hu (fun u hu => (hall u hu).2)), hwid, by rw [hul]; exact hfl, .inr ⟨w.heap.size, len, _, (0, 0), by rw [hul], h.size, heap_alloc_new w _, free00 _, by omega, hlm, ?_, ?_⟩⟩
        · rw [List.size_toArray, hfl]
        · rw [List.toList_toArray, List.take_of_length_le (by rw [hfl, hul]; exact Nat.le_refl _)])
      (by intro d ok' θ' hd; exact ⟨hd, _, _, _, rfl⟩)
    exact Does.value hr hrel
end
end Go.Am
