/-
  AM: the operations are sound, part 9: make, append.
-/
import Derived.Test.YtjhbpadplglnlaaAmSound8
set_option linter.unusedVariables false
set_option linter.unusedSimpArgs false
namespace Go.Am
open Go.RowKit

section
variable {C : Ctx} {S S' : St} {θ θ' : Nat → Option Value} {a : Act} {w w' : World} {n : Nat} {ok : Nat → Prop} {P : Program} {o : Oper}

theorem madeCells_ints (k : IntKind) (m : Nat) : (madeCells (#[.int k 0] : Array Value) m).toList = ints k (List.replicate m 0) := by
  apply List.ext_getElem?
  intro i
  simp only [madeCells, Array.toList_map, Array.toList_range, ints, List.getElem?_map, List.getElem?_range, List.getElem?_replicate]
  by_cases h : i < m
  · simp [h, Nat.mod_one]
  · simp [h]

theorem opMake_ok {t : TypeId} {l c : Operand} {ul uc : AV} (ho : o.op = .makeSlice t l c) (h : Rel C S θ a w) (hl : CV w (okOf C w S θ) θ ul (a.eval l)) (hc : CV w (okOf C w S θ) θ uc (a.eval c))
    (hh : (opMake P o t ul uc).exe n S = some S') : Does P C S' o a w := by
  unfold opMake at hh
  split at hh <;> first | exact (exe_fail hh).elim | skip
  rename_i k1 p k2 q e he
  have hl' : a.eval l = .int k1 p := hl
  have hc' : a.eval c = .int k2 q := hc
  have ht := elemT_ok he
  split at hh <;> first | exact (exe_fail hh).elim | skip
  rename_i k i hk hi
  split at hh <;> first | exact (exe_fail hh).elim | skip
  rename_i z hz
  obtain ⟨hm, hh1⟩ := exe_must hh
  obtain ⟨hb, hh2⟩ := exe_chk hh1
  simp only [Bool.and_eq_true, beq_iff_eq, decide_eq_true_eq] at hm hb
  obtain ⟨hz0, hs1, hs2⟩ := hm
  obtain ⟨hb0, rfl, hb2⟩ := hb
  have hs1 := Nat.eq_of_beq_eq_true hs1
  have hs2 := Nat.le_of_ble_eq_true hs2
  have hzv : z = .int k 0 := cvB_ok (w := w) (ok := okOf C w S θ) (θ := θ) (.int k 0) z hz0
  subst hzv
  have hp : p ≤ 140737488355328 := by
    have : p * 1 ≤ p * (i.bytes : Int) := Int.mul_le_mul_of_nonneg_left (by omega) hb0
    omega
  have hrun := run_make (P := P) w t e i _ ht hi hz k1 k2 p p hb0 (Int.le_refl _) (by rw [Int.mul_comm]; omega) (by omega)
  obtain ⟨θ', hrel⟩ := newOb_ok (v := .slice (some ⟨w.heap.size, 0, none⟩) p.toNat p.toNat) h hh2 (Below.new w (.cells (madeCells (Value.int k 0).cells (p.toNat * i.size)) e)) (by rintro g hg; cases hg; exact Nat.le_refl _) (base0_row _ _ _)
    (by
      intro d ok' θ' hk hd
      refine ⟨_, hd, fun _ => ⟨by simp [ints], .inr ⟨w.heap.size, p.toNat, _, (0, 0), by simp, h.size, heap_alloc_new w _, free00 _, by simp, by unfold maxLen; omega, ?_, ?_⟩⟩, fun h => by cases h⟩
      · rw [size_madeCells, hs1]
      · rw [hs1, Nat.mul_one, Nat.mul_one]
        have := madeCells_ints k p.toNat
        rw [show (Value.int k 0).cells = #[Value.int k 0] from rfl, this, List.take_of_length_le (by simp [ints])])
    (by intro d ok' θ' hd; exact ⟨hd, _, _, _, rfl⟩)
  refine Does.value ?_ hrel
  simp only [execOp, ho, hl', hc', Sem.run_bind, hrun, Result.andThen_ok, Sem.run_pure]

/-- 'append' onto an own row, whatever the source is. -/
theorem run_append_row {B : Nat} {t ty e : TypeId} {i : TypeInfo} {z : Value} {size bytes : Nat} (ht : P.underlying t = some (.slice e)) (hi : P.info? e = some i) (hz : i.zero = some z)
    (hsize : i.size = size) (hby : i.bytes = bytes) (hzs : z.cells.size = size) (hsz : 0 < size)
    {v x : Value} {m k : Nat} {xs news : List Value} (hown : OwnRow w B e size v m xs) (hB : B ≤ w.heap.size)
    (hx1 : ∀ W, (Builtin.lenOf x).run P W = .ok k W) (hx2 : ∀ W : World, W.heap = w.heap → (Builtin.firstCells size k x).run P W = .ok news.toArray W) (hl : news.length = k * size) (h1 : ∀ u ∈ news, u.oneCell' = true)
    (h63 : m + k ≤ maxLen) (hbytes : (m + k) * bytes ≤ 140737488355328) :
    ∃ v' w', (Builtin.append_ #[t, t] ty #[v, x]).run P w = .ok v' w' ∧ OwnRow w' B e size v' (m + k) (xs ++ news) ∧ (∀ b, b < w.heap.size → blk v ≠ some b → w'.heap[b]? = w.heap[b]?) ∧
      w.heap.size ≤ w'.heap.size ∧ w'.os = w.os ∧ w'.tape = w.tape ∧ w'.output = w.output ∧ (∀ b, blk v' = some b → blk v = some b ∨ w.heap.size ≤ b) ∧ base0 v' ∧ ∃ A c, v' = .slice A (m + k) c := by
  subst hsize
  subst hby
  have hsmall : m + k ≤ 9223372036854775807 := by simp only [maxLen] at h63; omega
  have hlen : (xs ++ news).length = (m + k) * i.size := by rw [List.length_append, hown.1, hl, Nat.add_mul]
  -- what growing leaves
  have grown : ∀ (old : Nat), old < m + k →
      OwnRow (w.drew.alloc (.cells (xs.toArray ++ news.toArray ++ Builtin.zeroCells z.cells (grownCap w (m + k) old e - (m + k))) e)) B e i.size
        (.slice (some ⟨w.heap.size, 0, none⟩) (m + k) (grownCap w (m + k) old e)) (m + k) (xs ++ news) := by
    intro old ho
    have hge := grownCap_ge w (m + k) old e
    have hcm := grownCap_le_maxLen w (m + k) old e h63
    refine ⟨hlen, .inr ⟨w.heap.size, _, _, (0, 0), rfl, hB, heap_alloc_new w.drew _, free00 _, hge, hcm, ?_, ?_⟩⟩
    · simp only [Array.size_append, List.size_toArray, size_zeroCells, hzs, hown.1, hl, ← Nat.add_mul]
      congr 1
      omega
    · simp only [Array.toList_append, List.append_assoc]
      rw [← List.append_assoc, ← hlen]
      exact List.take_left
  have grow : ∀ (base : Option Addr) (cap : Nat), v = .slice base m cap → cap < m + k → (∀ W : World, W.heap = w.heap → (Builtin.firstCells i.size m v).run P W = .ok xs.toArray W) →
      (Builtin.append_ #[t, t] ty #[v, x]).run P w = .ok (.slice (some ⟨w.heap.size, 0, none⟩) (m + k) (grownCap w (m + k) cap e))
        (w.drew.alloc (.cells (xs.toArray ++ news.toArray ++ Builtin.zeroCells z.cells (grownCap w (m + k) cap e - (m + k))) e)) := by
    intro base cap hv hlt hold
    have hno : ¬ (m + k ≤ cap) := by omega
    have h63' : ¬ ((m + k : Nat) : Int) > IntKind.i64.max := by
      have : IntKind.i64.max = 9223372036854775807 := by decide
      rw [this]
      omega
    have hfit : ¬ Builtin.nextslicecap (m + k) cap * i.bytes > 2 ^ 48 := by
      have := growslice_fits hlt hbytes
      omega
    subst hv
    unfold Builtin.append_
    simp only [List.getElem?_toArray, List.getElem?_cons_zero, List.getElem?_cons_succ, Sem.run_bind, run_underlying ht, Result.andThen_ok, sizeOf, typeInfo, run_program, hi, Sem.run_pure]
    simp only [Result.andThen_ok, Bool.false_eq_true, if_false, Sem.run_bind, hx1, hno, h63', false_and, run_underlying ht, typeInfo, run_program, hi, Sem.run_pure, hfit]
    simp only [run_choose, Question.forced, Bool.false_eq_true, if_false, Result.andThen_ok, run_askRoom, Sem.run_bind, Bool.not_false, if_true]
    have hW : ({ w with drawn := w.drawn + 1 } : World).heap = w.heap := rfl
    rw [hold _ hW]
    simp only [Result.andThen_ok]
    rw [hx2 _ hW]
    simp only [Result.andThen_ok, zeroValue, Sem.run_bind, typeInfo, run_program, hi, hz, Sem.run_pure]
    rfl
  rcases hown.2 with ⟨rfl, rfl⟩ | ⟨g, cap, cur, fr, rfl, hbg, hg, hfree, hnc, hcm, hcs, htake⟩
  · have hx : xs = [] := List.eq_nil_of_length_eq_zero (by simpa using hown.1)
    subst hx
    by_cases hm : k = 0
    · subst hm
      have hn : news = [] := List.eq_nil_of_length_eq_zero (by simpa using hl)
      subst hn
      refine ⟨.slice none 0 0, w, ?_, ⟨by simp, .inl ⟨rfl, rfl⟩⟩, fun _ _ _ => rfl, Nat.le_refl _, rfl, rfl, rfl, (by intro b hb; cases hb), base0_nil, none, 0, rfl⟩
      unfold Builtin.append_
      simp only [List.getElem?_toArray, List.getElem?_cons_zero, List.getElem?_cons_succ, Sem.run_bind, run_underlying ht, Result.andThen_ok, sizeOf, typeInfo, run_program, hi, Sem.run_pure]
      simp only [Result.andThen_ok, Bool.false_eq_true, if_false, Sem.run_bind, hx1, Nat.add_zero, Nat.le_refl, if_true, Bool.not_false]
      rw [hx2 _ rfl]
      rfl
    · have hr := grow none 0 rfl (by omega) (fun W _ => by simp [Builtin.firstCells])
      exact ⟨_, _, hr, grown 0 (by omega), (fun b hb _ => heap_alloc_old w.drew _ b hb), by simp, rfl, rfl, rfl, (by intro b hb; cases hb; exact .inr (Nat.le_refl _)), base0_row _ _ _, _, _, rfl⟩
  · by_cases hroom : m + k ≤ cap
    · have hfit : m * i.size + k * i.size ≤ cur.size := by rw [hcs, ← Nat.add_mul]; exact Nat.mul_le_mul_right _ hroom
      have hcl : cur.toList.length = cap * i.size := by rw [Array.length_toList, hcs]
      have hsp : cur.toList = xs ++ ((cur.toList.drop (m * i.size)).take (k * i.size) ++ cur.toList.drop (m * i.size + k * i.size)) := by
        conv => lhs; rw [← List.take_append_drop (m * i.size) cur.toList, htake, ← List.take_append_drop (k * i.size) (cur.toList.drop (m * i.size)), List.drop_drop]
      have hheap : w.heap[g]? = some (.cells (xs ++ ((cur.toList.drop (m * i.size)).take (k * i.size) ++ cur.toList.drop (m * i.size + k * i.size))).toArray e fr) := by rw [← hsp, toArray_toList']; exact hg
      obtain ⟨w', q1, q2, q3, q4, q5, q6, q7⟩ := storeCells_ok P news xs (cur.toList.drop (m * i.size + k * i.size)) ((cur.toList.drop (m * i.size)).take (k * i.size)) 0 (m * i.size) w hheap
        (by rw [List.length_take, List.length_drop, hl, Nat.min_eq_left (by rw [Array.length_toList]; omega)]) (by rw [hown.1]; rfl) (by rw [← hsp, toArray_toList']; exact hfree) h1
      refine ⟨.slice (some ⟨g, 0, none⟩) (m + k) cap, w', ?_, ⟨hlen, .inr ⟨g, cap, _, fr, rfl, hbg, q2, hfree.same ?_, hroom, hcm, ?_, ?_⟩⟩, fun b _ hb => q3 b (fun e => hb (by rw [e]; rfl)), by rw [q4]; exact Nat.le_refl _, q5, q6, q7, (by intro b hb; exact .inl hb), base0_row _ _ _, _, _, rfl⟩
      · unfold Builtin.append_
        simp only [List.getElem?_toArray, List.getElem?_cons_zero, List.getElem?_cons_succ, Sem.run_bind, run_underlying ht, Result.andThen_ok, sizeOf, typeInfo, run_program, hi, Sem.run_pure]
        simp only [Result.andThen_ok, Bool.false_eq_true, if_false, Sem.run_bind, hx1, hroom, if_true, Bool.not_false]
        rw [hx2 _ rfl]
        simp only [Result.andThen_ok, add_lit, Nat.zero_add, q1, Sem.run_pure, Sem.run_bind]
      · rw [List.size_toArray, ← Array.length_toList]
        conv => rhs; rw [hsp]
        simp only [List.length_append, hl, List.length_take, List.length_drop]
        rw [Nat.min_eq_left (by rw [Array.length_toList]; omega)]
      · rw [List.size_toArray, ← hcl]
        conv => rhs; rw [hsp]
        simp only [List.length_append, hl, List.length_take, List.length_drop]
        rw [Nat.min_eq_left (by rw [Array.length_toList]; omega)]
      · rw [List.toList_toArray, ← List.append_assoc, ← hlen, List.take_left]
    · have holds := hown.cells.1
      have hr := grow (some ⟨g, 0, none⟩) cap rfl (by omega) (fun W hW => by
        simp only [Builtin.firstCells]
        have hc : cellsAt W ⟨g, 0, none⟩ xs := fun j u hj => by
          have := holds j u hj
          simpa [World.cell?, hW] using this
        have := run_loadCells' (P := P) hc
        rwa [hown.1] at this)
      exact ⟨_, _, hr, grown cap (by omega), (fun b hb _ => heap_alloc_old w.drew _ b hb), by simp, rfl, rfl, rfl, (by intro b hb; cases hb; exact .inr (Nat.le_refl _)), base0_row _ _ _, _, _, rfl⟩
end
end Go.Am
