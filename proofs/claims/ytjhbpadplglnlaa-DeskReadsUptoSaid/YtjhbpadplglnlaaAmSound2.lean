/-
  AM: the operations are sound, part 2: loads, stores, addresses.
-/
import Derived.Test.YtjhbpadplglnlaaAmSound1
set_option linter.unusedVariables false
set_option linter.unusedSimpArgs false
namespace Go.Am
open Go.RowKit

section
variable {P : Program} {w : World}
theorem typOk_info {t : TypeId} (h : typOk P t = true) : ∃ i u, P.info? t = some i ∧ P.underlying t = some u := by
  unfold typOk at h
  split at h
  · rename_i i u hi hu
    exact ⟨i, u, hi, hu⟩
  · cases h

theorem run_sizeOf' {t : TypeId} (h : typOk P t = true) : (sizeOf t).run P w = .ok (sizeT P t) w := by
  obtain ⟨i, u, hi, hu⟩ := typOk_info h
  simp [sizeOf, typeInfo, hi, sizeT]

theorem run_isAgg' {t : TypeId} (h : typOk P t = true) : (isAgg t).run P w = .ok (aggT P t) w := by
  obtain ⟨i, u, hi, hu⟩ := typOk_info h
  simp only [isAgg, Sem.run_bind, run_underlying hu, Result.andThen_ok, aggT, hu]
  cases u <;> rfl

theorem szIs_ok {t : TypeId} {n : Nat} (h : szIs P t n = true) : typOk P t = true ∧ sizeT P t = n := by
  simp only [szIs, Bool.and_eq_true] at h
  exact ⟨h.1, Nat.eq_of_beq_eq_true h.2⟩
end

section
variable {C : Ctx} {S S' : St} {θ θ' : Nat → Option Value} {a : Act} {w w' : World} {n : Nat} {ok : Nat → Prop} {P : Program}

theorem cellsAt_left {ad : Addr} {us vs : List Value} (h : cellsAt w ad (us ++ vs)) : cellsAt w ad us := fun j u hj => h j u (by
  rw [List.getElem?_append_left (List.getElem?_eq_some_iff.1 hj).1]; exact hj)
theorem cellsAt_right {ad : Addr} {us vs : List Value} (h : cellsAt w ad (us ++ vs)) : cellsAt w (ad.add us.length) vs := fun j u hj => by
  rw [add_add']
  exact h (us.length + j) u (by rw [List.getElem?_append_right (by omega)]; simpa using hj)

theorem run_loadCells' {ad : Addr} {cs : List Value} (h : cellsAt w ad cs) : (loadCells ad cs.length).run P w = .ok cs.toArray w := run_loadCells_list w ad cs h

/-- A variable is loaded. -/
theorem loadVar_ok {t : TypeId} {ad : Addr} {u : AV} {v : Value} (hf : fits P t u = true) (hs : v.cells.size = u.width) (hu : CV w ok θ u v) (hc : cellsAt w ad v.cells.toList) :
    ∃ v', (loadVar t ad).run P w = .ok v' w ∧ CV w ok θ u v' := by
  simp only [fits, Bool.and_eq_true, beq_iff_eq] at hf
  obtain ⟨ht, ha, hw⟩ := hf
  have hw' : u.width = sizeT P t := Nat.eq_of_beq_eq_true hw
  simp only [loadVar, Sem.run_bind, run_isAgg' ht, Result.andThen_ok]
  cases hb : u.isAgg with
  | true =>
    rw [← ha, hb]
    simp only [if_true, Sem.run_bind, run_sizeOf' ht, Result.andThen_ok]
    have hl : sizeT P t = v.cells.toList.length := by rw [← hw', ← hs]; simp
    rw [hl, run_loadCells' hc]
    simp only [Result.andThen_ok, Sem.run_pure]
    refine ⟨_, rfl, ?_⟩
    cases u with
    | arr k m xs => obtain ⟨_, rfl⟩ := hu; simpa [Value.cells] using ⟨‹_›, rfl⟩
    | agg cs => obtain ⟨vs, rfl, h2⟩ := hu; exact ⟨vs, by simp [Value.cells], h2⟩
    | _ => simp [AV.isAgg] at hb
  | false =>
    rw [← ha, hb]
    simp only [Bool.false_eq_true, if_false]
    by_cases hst : u.stor = true
    · have h1 := CV_one hb hst hu
      have h2 := hc 0 v (by rw [h1]; rfl)
      have e0 : ad.add 0 = ad := by simp [Addr.add]
      rw [e0] at h2
      simp only [run_load, h2]
      exact ⟨_, rfl, hu⟩
    · cases u <;> first | (simp [AV.stor] at hst; done) | skip
      · -- undef
        have hl : v.cells.size = 1 := hs
        have h2 := hc 0 (v.cells.toList[0]'(by simp [hl])) (List.getElem?_eq_getElem _)
        have e0 : ad.add 0 = ad := by simp [Addr.add]
        rw [e0] at h2
        simp only [run_load, h2]
        exact ⟨_, rfl, trivial⟩
      · rename_i vs
        obtain ⟨us, rfl, h3⟩ := hu
        have h2 := hc 0 (.tuple us) rfl
        have e0 : ad.add 0 = ad := by simp [Addr.add]
        rw [e0] at h2
        simp only [run_load, h2]
        exact ⟨_, rfl, us, rfl, h3⟩

mutual
theorem getAt_ok : ∀ (x : AV) {v : Value} {off wd : Nat} {g : Bool} {u : AV}, CV w ok θ x v → v.cells.size = x.width → getAt x off wd g = some u →
    ∃ v' us ws, v.cells.toList = us ++ (v'.cells.toList ++ ws) ∧ us.length = off ∧ CV w ok θ u v' ∧ v'.cells.size = u.width ∧ u.width = wd ∧ u.isAgg = g
  | .agg cs, v, off, wd, g, u, hv, hs, h => by
    simp only [getAt] at h
    split at h
    · rename_i hb
      simp only [Bool.and_eq_true] at hb
      cases h
      have h0 := Nat.eq_of_beq_eq_true hb.1
      subst h0
      exact ⟨v, [], [], by simp, rfl, hv, hs, Nat.eq_of_beq_eq_true hb.2.1, hb.2.2.symm ▸ rfl⟩
    · obtain ⟨vs, rfl, hc⟩ := hv
      exact getsAt_ok cs hc h
  | .undef, v, off, wd, g, u, hv, hs, h => getAt_leaf (by simpa [getAt] using h) hv hs
  | .bool b, v, off, wd, g, u, hv, hs, h => getAt_leaf (by simpa [getAt] using h) hv hs
  | .int k m, v, off, wd, g, u, hv, hs, h => getAt_leaf (by simpa [getAt] using h) hv hs
  | .str l, v, off, wd, g, u, hv, hs, h => getAt_leaf (by simpa [getAt] using h) hv hs
  | .nils, v, off, wd, g, u, hv, hs, h => getAt_leaf (by simpa [getAt] using h) hv hs
  | .nilp, v, off, wd, g, u, hv, hs, h => getAt_leaf (by simpa [getAt] using h) hv hs
  | .nili, v, off, wd, g, u, hv, hs, h => getAt_leaf (by simpa [getAt] using h) hv hs
  | .arr .., v, off, wd, g, u, hv, hs, h => getAt_leaf (by simpa [getAt] using h) hv hs
  | .fs .., v, off, wd, g, u, hv, hs, h => getAt_leaf (by simpa [getAt] using h) hv hs
  | .fv .., v, off, wd, g, u, hv, hs, h => getAt_leaf (by simpa [getAt] using h) hv hs
  | .own .., v, off, wd, g, u, hv, hs, h => getAt_leaf (by simpa [getAt] using h) hv hs
  | .win .., v, off, wd, g, u, hv, hs, h => getAt_leaf (by simpa [getAt] using h) hv hs
  | .wina .., v, off, wd, g, u, hv, hs, h => getAt_leaf (by simpa [getAt] using h) hv hs
  | .ref .., v, off, wd, g, u, hv, hs, h => getAt_leaf (by simpa [getAt] using h) hv hs
  | .refa .., v, off, wd, g, u, hv, hs, h => getAt_leaf (by simpa [getAt] using h) hv hs
  | .eref .., v, off, wd, g, u, hv, hs, h => getAt_leaf (by simpa [getAt] using h) hv hs
  | .fp .., v, off, wd, g, u, hv, hs, h => getAt_leaf (by simpa [getAt] using h) hv hs
  | .tup .., v, off, wd, g, u, hv, hs, h => getAt_leaf (by simpa [getAt] using h) hv hs
  | .fn .., v, off, wd, g, u, hv, hs, h => getAt_leaf (by simpa [getAt] using h) hv hs
theorem getsAt_ok : ∀ (cs : List AV) {vs : List Value} {off wd : Nat} {g : Bool} {u : AV}, CVs w ok θ cs vs → getsAt cs off wd g = some u →
    ∃ v' us ws, vs = us ++ (v'.cells.toList ++ ws) ∧ us.length = off ∧ CV w ok θ u v' ∧ v'.cells.size = u.width ∧ u.width = wd ∧ u.isAgg = g
  | [], vs, off, wd, g, u, hc, h => by simp [getsAt] at h
  | c :: cs, vs, off, wd, g, u, hc, h => by
    obtain ⟨v, rest, rfl, hs, h1, h2⟩ := hc
    simp only [getsAt] at h
    split at h
    · obtain ⟨v', us, ws, h3, h4⟩ := getAt_ok c h1 hs h
      exact ⟨v', us, ws ++ rest, by rw [h3]; simp, h4⟩
    · rename_i hb
      have hle : c.width ≤ off := by
        rcases Nat.lt_or_ge off c.width with h' | h'
        · rw [Nat.ble_eq_true_of_le h'] at hb; cases hb
        · exact h'
      obtain ⟨v', us, ws, h3, h4, h5⟩ := getsAt_ok cs h2 h
      refine ⟨v', v.cells.toList ++ us, ws, by rw [h3]; simp, ?_, h5⟩
      rw [List.length_append, h4, Array.length_toList, hs]
      omega
theorem getAt_leaf {x : AV} {v : Value} {off wd : Nat} {g : Bool} {u : AV} (h : leafAt x off wd g = some u)
    (hv : CV w ok θ x v) (hs : v.cells.size = x.width) : ∃ v' us ws, v.cells.toList = us ++ (v'.cells.toList ++ ws) ∧ us.length = off ∧ CV w ok θ u v' ∧ v'.cells.size = u.width ∧ u.width = wd ∧ u.isAgg = g := by
  unfold leafAt at h
  split at h
  · rename_i hb
    simp only [Bool.and_eq_true, beq_iff_eq] at hb
    cases h
    have h0 := Nat.eq_of_beq_eq_true hb.1
    subst h0
    exact ⟨v, [], [], by simp, rfl, hv, hs, Nat.eq_of_beq_eq_true hb.2.1, hb.2.2⟩
  · cases h
end
theorem cellsAt_block {g : Nat} {cur : Array Value} {e : TypeId} {fr : Nat × Nat} (h : w.heap[g]? = some (.cells cur e fr)) : cellsAt w ⟨g, 0, none⟩ cur.toList := fun j u hj => by
  rw [add_lit, cell_of_row w g (0 + j) cur e fr h]
  simpa using hj

theorem getI_get {xs : List Int} {i : Nat} (h : i < xs.length) : xs[i]? = some (getI xs i) := by
  simp [getI, List.getD_eq_getElem?_getD, h]
theorem getE_get {xs : List AV} {i : Nat} (h : i < xs.length) : xs[i]? = some (getE xs i) := by
  simp [getE, List.getD_eq_getElem?_getD, h]
theorem ints_get {k : IntKind} {xs : List Int} {i : Nat} (h : i < xs.length) : (ints k xs)[i]? = some (.int k (getI xs i)) := by
  simp [ints, getI, List.getD_eq_getElem?_getD, h]

theorem OwnRow.cells {B : Nat} {e : TypeId} {size m c g m' : Nat} {cs : List Value} (h : OwnRow w B e size (.slice (some ⟨g, 0, none⟩) m' c) m cs) : cellsAt w ⟨g, 0, none⟩ cs ∧ m' = m := by
  rcases h.2 with ⟨h1, _⟩ | ⟨g', cap, cur, fr, h1, h2, h3, h4, h5, h6, h7, h8⟩
  · cases h1
  · cases h1
    refine ⟨?_, rfl⟩
    have := cellsAt_block h3
    rw [← h8]
    rw [← List.take_append_drop (m * size) cur.toList] at this
    exact cellsAt_left this

theorem row_cells {d g m c : Nat} {own : Bool} {e : TypeId} {k : IntKind} {xs : List Int} (h : OV C w ok θ d (.row own e k xs)) (hd : θ d = some (.slice (some ⟨g, 0, none⟩) m c)) :
    cellsAt w ⟨g, 0, none⟩ (ints k xs) ∧ m = xs.length := by
  obtain ⟨v, h1, h2, h3⟩ := h
  rw [hd] at h1
  cases h1
  cases own with
  | true => exact (h2 rfl).cells
  | false =>
    obtain ⟨A, c', h4, h5, h6⟩ := h3 rfl
    cases h4
    refine ⟨?_, rfl⟩
    rcases Nat.eq_zero_or_pos xs.length with h0 | h0
    · have : xs = [] := List.eq_nil_of_length_eq_zero h0
      subst this
      intro j u hj
      simp [ints] at hj
    · obtain ⟨ad, h7, _, h8⟩ := h6 h0
      cases h7
      exact h8

theorem rows_cells {d g m c : Nat} {own : Bool} {e : TypeId} {s : Sh} {xs : List AV} (h : OV C w ok θ d (.rows own e s xs)) (hd : θ d = some (.slice (some ⟨g, 0, none⟩) m c)) :
    ∃ cs, CVs w ok θ xs cs ∧ cellsAt w ⟨g, 0, none⟩ cs ∧ m = xs.length ∧ ∀ x ∈ xs, WT s x := by
  obtain ⟨v, h1, hw, h2, h3⟩ := h
  rw [hd] at h1
  cases h1
  cases own with
  | true =>
    obtain ⟨cs, h4, h5⟩ := h2 rfl
    exact ⟨cs, h4, h5.cells.1, h5.cells.2, hw⟩
  | false =>
    obtain ⟨A, c', cs, h4, h5, _, h7, h6⟩ := h3 rfl
    cases h4
    refine ⟨cs, h7, ?_, rfl, hw⟩
    rcases Nat.eq_zero_or_pos xs.length with h0 | h0
    · have : xs = [] := List.eq_nil_of_length_eq_zero h0
      subst this
      simp only [CVs] at h7
      subst h7
      intro j u hj
      simp at hj
    · obtain ⟨ad, h8, _, h9⟩ := h6 h0
      cases h8
      exact h9

/-- The i-th element of a row of elements. -/
theorem elem_at {xs : List AV} {cs : List Value} {s : Sh} (hc : CVs w ok θ xs cs) (hw : ∀ x ∈ xs, WT s x) {i : Nat} (hi : i < xs.length) {ad : Addr} (hl : cellsAt w ad cs) :
    ∃ v, CV w ok θ (getE xs i) v ∧ v.cells.size = (getE xs i).width ∧ cellsAt w (ad.add (i * s.width)) v.cells.toList ∧ eta s (getE xs i) = getE xs i ∧ (getE xs i).width = s.width := by
  have hg := getE_get hi
  obtain ⟨v, us, ws, rfl, h1, h2, h3, _, _⟩ := CVs_get hc hg
  have hm : getE xs i ∈ xs := List.mem_of_getElem? hg
  refine ⟨v, h3, h2, ?_, eta_of_WT s _ (hw _ hm), WT_width s _ (hw _ hm)⟩
  have h4 : us.length = i * s.width := by
    rw [h1, WT_widths (s := s) (fun x hx => hw x (List.mem_of_mem_take hx)), List.length_take, Nat.min_eq_left (by omega)]
  rw [← h4]
  exact cellsAt_left (cellsAt_right hl)

theorem ld_ok {t : TypeId} {x : Operand} {u : AV} {K : AV → Pg} (h : Rel C S θ a w) (hu : CV w (okOf C w S θ) θ u (a.eval x)) (hh : (ld P t u K).exe n S = some S') :
    ∃ r v, CV w (okOf C w S θ) θ r v ∧ (Instr.loadAt t (a.eval x)).run P w = .ok v w ∧ (K r).exe n S = some S' := by
  unfold ld at hh
  have hq := exe_must hh
  clear hh
  obtain ⟨ht, hh⟩ := hq
  have done : ∀ (ad : Addr) (r : AV) (v : Value), a.eval x = .pointer (some ad) → fits P t r = true → v.cells.size = r.width → CV w (okOf C w S θ) θ r v → cellsAt w ad v.cells.toList → (K r).exe n S = some S' →
      ∃ r v, CV w (okOf C w S θ) θ r v ∧ (Instr.loadAt t (a.eval x)).run P w = .ok v w ∧ (K r).exe n S = some S' := by
    intro ad r v he hf hs hr hc hk
    obtain ⟨v', h1, h2⟩ := loadVar_ok hf hs hr hc
    refine ⟨r, v', h2, ?_, hk⟩
    simp only [Instr.loadAt, Sem.run_bind, he, Instr.sureAddr, Sem.run_pure, Result.andThen_ok, h1]
  have fitsOf : ∀ r : AV, r.width = sizeT P t → r.isAgg = aggT P t → fits P t r = true := by
    intro r h1 h2
    simp only [fits, ht, h1, h2, Bool.true_and, beq_self_eq_true, Bool.and_eq_true, true_and]
    exact Nat.beq_refl _
  cases u <;> first | exact (exe_fail hh).elim | skip
  · -- ref
    rename_i d off
    obtain ⟨g, hd, he⟩ := hu
    replace hh := exe_obj hh
    cases ho : S.obj d with
    | none => rw [ho] at hh; exact (exe_fail hh).elim
    | some ob =>
      rw [ho] at hh
      cases ob <;> first | exact (exe_fail hh).elim | skip
      rename_i tr
      simp only at hh
      split at hh
      · rename_i r hr
        obtain ⟨g', e, fr, v, h1, h2, h3, h4, h5, h6⟩ := h.objs d _ ho
        rw [hd] at h1
        cases h1
        obtain ⟨v', us, ws, k1, k2, k3, k4, k5, k6⟩ := getAt_ok tr h4 h5 hr
        have hc := cellsAt_block h2
        rw [k1] at hc
        have hc' := cellsAt_left (cellsAt_right hc)
        rw [add_lit, Nat.zero_add, k2] at hc'
        exact done _ r v' he (fitsOf r k5 k6) k4 k3 hc' hh
      · exact (exe_fail hh).elim
  · -- refa
    rename_i d off m i
    obtain ⟨hi, g, hd, he⟩ := hu
    replace hh := exe_obj hh
    cases ho : S.obj d with
    | none => rw [ho] at hh; exact (exe_fail hh).elim
    | some ob =>
      rw [ho] at hh
      cases ob <;> first | exact (exe_fail hh).elim | skip
      rename_i tr
      simp only at hh
      split at hh
      · rename_i k' n' xs hr
        have hq := exe_must hh
        clear hh
        obtain ⟨hm, hh⟩ := hq
        simp only [Bool.and_eq_true, Bool.not_eq_true'] at hm
        have hn := Nat.eq_of_beq_eq_true hm.2
        subst hn
        obtain ⟨g', e, fr, v, h1, h2, h3, h4, h5, h6⟩ := h.objs d _ ho
        rw [hd] at h1
        cases h1
        obtain ⟨v', us, ws, k1, k2, ⟨k3, rfl⟩, k4, k5, k6⟩ := getAt_ok tr h4 h5 hr
        have hc := cellsAt_block h2
        rw [k1] at hc
        have hc' := cellsAt_left (cellsAt_right hc)
        rw [add_lit, Nat.zero_add, k2] at hc'
        have hc2 := hc' i (.int k' (getI xs i)) (by simpa [Value.cells] using ints_get (by omega))
        rw [add_lit] at hc2
        refine ⟨.int k' (getI xs i), _, rfl, ?_, hh⟩
        simp only [Instr.loadAt, Sem.run_bind, he, Instr.sureAddr, Sem.run_pure, Result.andThen_ok, loadVar, run_isAgg' ht, hm.1, Bool.false_eq_true, if_false, run_load, hc2]
      · exact (exe_fail hh).elim
  · -- eref
    rename_i d sz i off
    obtain ⟨g, m, c, hd, hi, he⟩ := hu
    replace hh := exe_obj hh
    cases ho : S.obj d with
    | none => rw [ho] at hh; exact (exe_fail hh).elim
    | some ob =>
      rw [ho] at hh
      cases ob <;> first | exact (exe_fail hh).elim | skip
      · rename_i own e k' xs
        have hq := exe_must hh
        clear hh
        obtain ⟨hm, hh⟩ := hq
        have hq := exe_chk hh
        clear hh
        obtain ⟨hlt, hh⟩ := hq
        simp only [Bool.and_eq_true, Bool.not_eq_true'] at hm
        have h1 := Nat.eq_of_beq_eq_true hm.2.1
        have h2 := Nat.eq_of_beq_eq_true hm.2.2
        subst h1
        subst h2
        have hlt := Nat.le_of_ble_eq_true hlt
        have hc2 := (row_cells (h.objs d _ ho) hd).1 i (.int k' (getI xs i)) (ints_get (by omega))
        rw [add_lit, Nat.zero_add] at hc2
        refine ⟨.int k' (getI xs i), _, rfl, ?_, hh⟩
        simp only [Instr.loadAt, Sem.run_bind, he, Instr.sureAddr, Sem.run_pure, Result.andThen_ok, loadVar, run_isAgg' ht, hm.1, Bool.false_eq_true, if_false, run_load, Nat.mul_one, Nat.add_zero, hc2]
      · rename_i own e s xs
        simp only at hh
        split at hh
        · rename_i r hr
          have hq := exe_must hh
          clear hh
          obtain ⟨hm, hh⟩ := hq
          have hq := exe_chk hh
          clear hh
          obtain ⟨hlt, hh⟩ := hq
          have h1 := Nat.eq_of_beq_eq_true hm
          subst h1
          have hlt := Nat.le_of_ble_eq_true hlt
          obtain ⟨cs, hcs, hcl, hml, hw⟩ := rows_cells (h.objs d _ ho) hd
          obtain ⟨v, q1, q2, q3, q4, q5⟩ := elem_at hcs hw (i := i) (by omega) hcl
          rw [q4] at hr
          obtain ⟨v', us, ws, k1, k2, k3, k4, k5, k6⟩ := getAt_ok _ q1 q2 hr
          rw [k1] at q3
          have hc' := cellsAt_left (cellsAt_right q3)
          rw [add_lit, add_lit, Nat.zero_add, k2] at hc'
          exact done _ r v' he (fitsOf r k5 k6) k4 k3 hc' hh
        · exact (exe_fail hh).elim
  · -- fp
    rename_i r
    obtain ⟨ad, v, he, _, h2, h3⟩ := hu
    obtain ⟨hf, hh⟩ := exe_must hh
    simp only [Bool.and_eq_true] at hf
    exact done ad r v he hf.1 (CV_size hf.2 h2) h2 h3 hh

theorem flat_stor {x : AV} (h : x.flat = true) : x.stor = true := by cases x <;> first | rfl | (simp [AV.flat] at h; done)

mutual
theorem CV_cells : ∀ {x : AV} {v : Value}, x.flat = true → CV w ok θ x v → ∀ c ∈ v.cells.toList, c.oneCell' = true
  | .agg cs, v, hf, h, c, hc => by
    obtain ⟨vs, rfl, h2⟩ := h
    exact CVs_cells (by simpa [AV.flat] using hf) h2 c (by simpa [Value.cells] using hc)
  | .arr k n xs, v, hf, h, c, hc => by
    obtain ⟨_, rfl⟩ := h
    simp only [Value.cells, ints, List.mem_map] at hc
    obtain ⟨_, _, rfl⟩ := hc
    rfl
  | .undef, v, hf, _, _, _ => by simp [AV.flat] at hf
  | .tup _, v, hf, _, _, _ => by simp [AV.flat] at hf
  | .bool b, v, _, h, c, hc => by cases (h : v = _); simp only [Value.cells, List.mem_singleton] at hc; subst hc; rfl
  | .int k m, v, _, h, c, hc => by cases (h : v = _); simp only [Value.cells, List.mem_singleton] at hc; subst hc; rfl
  | .str l, v, _, h, c, hc => by cases (h : v = _); simp only [Value.cells, List.mem_singleton] at hc; subst hc; rfl
  | .nils, v, _, h, c, hc => by cases (h : v = _); simp only [Value.cells, List.mem_singleton] at hc; subst hc; rfl
  | .nilp, v, _, h, c, hc => by cases (h : v = _); simp only [Value.cells, List.mem_singleton] at hc; subst hc; rfl
  | .nili, v, _, h, c, hc => by cases (h : v = _); simp only [Value.cells, List.mem_singleton] at hc; subst hc; rfl
  | .fs .., v, _, h, c, hc => by obtain ⟨_, _, rfl, _⟩ := h; simp only [Value.cells, List.mem_singleton] at hc; subst hc; rfl
  | .fv .., v, _, h, c, hc => by obtain ⟨_, _, _, rfl, _⟩ := h; simp only [Value.cells, List.mem_singleton] at hc; subst hc; rfl
  | .win .., v, _, h, c, hc => by obtain ⟨_, _, rfl, _⟩ := h; simp only [Value.cells, List.mem_singleton] at hc; subst hc; rfl
  | .wina .., v, _, h, c, hc => by obtain ⟨_, _, rfl, _⟩ := h; simp only [Value.cells, List.mem_singleton] at hc; subst hc; rfl
  | .own .., v, _, h, c, hc => by obtain ⟨_, _, _, _, rfl⟩ := h; simp only [Value.cells, List.mem_singleton] at hc; subst hc; rfl
  | .ref .., v, _, h, c, hc => by obtain ⟨_, _, rfl⟩ := h; simp only [Value.cells, List.mem_singleton] at hc; subst hc; rfl
  | .refa .., v, _, h, c, hc => by obtain ⟨_, _, _, rfl⟩ := h; simp only [Value.cells, List.mem_singleton] at hc; subst hc; rfl
  | .eref .., v, _, h, c, hc => by obtain ⟨_, _, _, _, _, rfl⟩ := h; simp only [Value.cells, List.mem_singleton] at hc; subst hc; rfl
  | .fp .., v, _, h, c, hc => by obtain ⟨_, _, rfl, _⟩ := h; simp only [Value.cells, List.mem_singleton] at hc; subst hc; rfl
  | .fn f, v, _, h, c, hc => by cases (h : v = _); simp only [Value.cells, List.mem_singleton] at hc; subst hc; rfl
theorem CVs_cells : ∀ {cs : List AV} {vs : List Value}, AV.flats cs = true → CVs w ok θ cs vs → ∀ c ∈ vs, c.oneCell' = true
  | [], vs, _, h, c, hc => by simp only [CVs] at h; subst h; cases hc
  | x :: cs, vs, hf, h, c, hc => by
    obtain ⟨v, rest, rfl, _, h1, h2⟩ := h
    simp only [AV.flats, Bool.and_eq_true] at hf
    rcases List.mem_append.1 hc with hc | hc
    · exact CV_cells hf.1 h1 c hc
    · exact CVs_cells hf.2 h2 c hc
end

mutual
theorem setAt_ok : ∀ (x : AV) {v vy : Value} {off : Nat} {y u : AV}, CV w ok θ x v → v.cells.size = x.width → getAt x off y.width y.isAgg = some u → CV w ok θ y vy → vy.cells.size = y.width →
    ∃ v2 v0 us ws, v.cells.toList = us ++ (v0 ++ ws) ∧ us.length = off ∧ v0.length = y.width ∧ CV w ok θ (setAt x off y) v2 ∧ v2.cells.toList = us ++ (vy.cells.toList ++ ws) ∧ (setAt x off y).width = x.width
  | .agg cs, v, vy, off, y, u, hv, hs, h, hy, hys => by
    simp only [getAt] at h
    simp only [setAt]
    split at h
    · rename_i hb
      simp only [Bool.and_eq_true] at hb
      have h0 := Nat.eq_of_beq_eq_true hb.1
      have h1 := Nat.eq_of_beq_eq_true hb.2.1
      subst h0
      exact ⟨vy, v.cells.toList, [], [], by simp, rfl, by rw [Array.length_toList, hs, ← h1]; rfl, hy, by simp, by rw [← h1]; rfl⟩
    · rename_i hb
      obtain ⟨vs, rfl, hc⟩ := hv
      obtain ⟨vs2, v0, us, ws, h1, h2, h3, h4, h5, h6⟩ := setsAt_ok cs hc h hy hys
      exact ⟨.agg vs2.toArray, v0, us, ws, h1, h2, h3, ⟨_, rfl, by simpa using h4⟩, by simpa [Value.cells] using h5, h6⟩
  | .undef, v, vy, off, y, u, hv, hs, h, hy, hys => setAt_leaf (by simpa [getAt] using h) hs hy
  | .bool b, v, vy, off, y, u, hv, hs, h, hy, hys => setAt_leaf (by simpa [getAt] using h) hs hy
  | .int k m, v, vy, off, y, u, hv, hs, h, hy, hys => setAt_leaf (by simpa [getAt] using h) hs hy
  | .str l, v, vy, off, y, u, hv, hs, h, hy, hys => setAt_leaf (by simpa [getAt] using h) hs hy
  | .nils, v, vy, off, y, u, hv, hs, h, hy, hys => setAt_leaf (by simpa [getAt] using h) hs hy
  | .nilp, v, vy, off, y, u, hv, hs, h, hy, hys => setAt_leaf (by simpa [getAt] using h) hs hy
  | .nili, v, vy, off, y, u, hv, hs, h, hy, hys => setAt_leaf (by simpa [getAt] using h) hs hy
  | .arr .., v, vy, off, y, u, hv, hs, h, hy, hys => setAt_leaf (by simpa [getAt] using h) hs hy
  | .fs .., v, vy, off, y, u, hv, hs, h, hy, hys => setAt_leaf (by simpa [getAt] using h) hs hy
  | .fv .., v, vy, off, y, u, hv, hs, h, hy, hys => setAt_leaf (by simpa [getAt] using h) hs hy
  | .own .., v, vy, off, y, u, hv, hs, h, hy, hys => setAt_leaf (by simpa [getAt] using h) hs hy
  | .win .., v, vy, off, y, u, hv, hs, h, hy, hys => setAt_leaf (by simpa [getAt] using h) hs hy
  | .wina .., v, vy, off, y, u, hv, hs, h, hy, hys => setAt_leaf (by simpa [getAt] using h) hs hy
  | .ref .., v, vy, off, y, u, hv, hs, h, hy, hys => setAt_leaf (by simpa [getAt] using h) hs hy
  | .refa .., v, vy, off, y, u, hv, hs, h, hy, hys => setAt_leaf (by simpa [getAt] using h) hs hy
  | .eref .., v, vy, off, y, u, hv, hs, h, hy, hys => setAt_leaf (by simpa [getAt] using h) hs hy
  | .fp .., v, vy, off, y, u, hv, hs, h, hy, hys => setAt_leaf (by simpa [getAt] using h) hs hy
  | .tup .., v, vy, off, y, u, hv, hs, h, hy, hys => setAt_leaf (by simpa [getAt] using h) hs hy
  | .fn .., v, vy, off, y, u, hv, hs, h, hy, hys => setAt_leaf (by simpa [getAt] using h) hs hy
theorem setsAt_ok : ∀ (cs : List AV) {vs : List Value} {vy : Value} {off : Nat} {y u : AV}, CVs w ok θ cs vs → getsAt cs off y.width y.isAgg = some u → CV w ok θ y vy → vy.cells.size = y.width →
    ∃ vs2 v0 us ws, vs = us ++ (v0 ++ ws) ∧ us.length = off ∧ v0.length = y.width ∧ CVs w ok θ (setsAt cs off y) vs2 ∧ vs2 = us ++ (vy.cells.toList ++ ws) ∧ AV.widths (setsAt cs off y) = AV.widths cs
  | [], vs, vy, off, y, u, hc, h, hy, hys => by simp [getsAt] at h
  | c :: cs, vs, vy, off, y, u, hc, h, hy, hys => by
    obtain ⟨v, rest, rfl, hs, h1, h2⟩ := hc
    simp only [getsAt] at h
    simp only [setsAt]
    split at h
    · rename_i hb
      obtain ⟨v2, v0, us, ws, k1, k2, k3, k4, k5, k6⟩ := setAt_ok c h1 hs h hy hys
      refine ⟨v2.cells.toList ++ rest, v0, us, ws ++ rest, by rw [k1]; simp, k2, k3, ⟨v2, rest, rfl, ?_, k4, h2⟩, by rw [k5]; simp, by simp only [AV.widths, k6]⟩
      have e1 : v2.cells.size = v.cells.size := by
        rw [← Array.length_toList, ← Array.length_toList, k5, k1]
        simp only [List.length_append, Array.length_toList, hys, k3]
      rw [e1, hs, k6]
    · rename_i hb
      have hle : c.width ≤ off := by
        rcases Nat.lt_or_ge off c.width with h' | h'
        · rw [Nat.ble_eq_true_of_le h'] at hb; cases hb
        · exact h'
      obtain ⟨vs2, v0, us, ws, k1, k2, k3, k4, k5, k6⟩ := setsAt_ok cs h2 h hy hys
      refine ⟨v.cells.toList ++ vs2, v0, v.cells.toList ++ us, ws, by rw [k1]; simp, ?_, k3, ⟨v, vs2, rfl, hs, h1, k4⟩, by rw [k5]; simp, by simp only [AV.widths, k6]⟩
      rw [List.length_append, k2, Array.length_toList, hs]
      omega
theorem setAt_leaf {x : AV} {v vy : Value} {off : Nat} {y u : AV} (h : leafAt x off y.width y.isAgg = some u) (hs : v.cells.size = x.width) (hy : CV w ok θ y vy) :
    ∃ v2 v0 us ws, v.cells.toList = us ++ (v0 ++ ws) ∧ us.length = off ∧ v0.length = y.width ∧ CV w ok θ y v2 ∧ v2.cells.toList = us ++ (vy.cells.toList ++ ws) ∧ y.width = x.width := by
  unfold leafAt at h
  split at h
  · rename_i hb
    simp only [Bool.and_eq_true, beq_iff_eq] at hb
    have h0 := Nat.eq_of_beq_eq_true hb.1
    have h1 := Nat.eq_of_beq_eq_true hb.2.1
    subst h0
    exact ⟨vy, v.cells.toList, [], [], by simp, rfl, by rw [Array.length_toList, hs, h1], hy, by simp, h1.symm⟩
  · cases h
end

/-- Cells are written into a block that may be. -/
theorem storeCells_ok (P : Program) {g : Nat} {e : TypeId} {fr : Nat × Nat} : ∀ (vs us ws old : List Value) (i o : Nat) (w : World),
    w.heap[g]? = some (.cells (us ++ (old ++ ws)).toArray e fr) → old.length = vs.length → us.length = o + i → Free (us ++ (old ++ ws)).toArray fr → (∀ u ∈ vs, u.oneCell' = true) →
    ∃ w', (storeCells ⟨g, o, none⟩ vs i).run P w = .ok () w' ∧ w'.heap[g]? = some (.cells (us ++ (vs ++ ws)).toArray e fr) ∧ (∀ b, b ≠ g → w'.heap[b]? = w.heap[b]?) ∧ w'.heap.size = w.heap.size ∧
      w'.os = w.os ∧ w'.tape = w.tape ∧ w'.output = w.output
  | [], us, ws, old, i, o, w, hg, hl, hu, hf, h1 => by
    have : old = [] := List.eq_nil_of_length_eq_zero hl
    subst this
    exact ⟨w, by simp [storeCells], by simpa using hg, fun _ _ => rfl, rfl, rfl, rfl, rfl⟩
  | v :: vs, us, ws, old, i, o, w, hg, hl, hu, hf, h1 => by
    cases old with
    | nil => simp at hl
    | cons x old =>
      have hc : w.cell? ⟨g, o + i, none⟩ = some x := by
        rw [cell_of_row w g (o + i) _ e fr hg, ← hu]
        simp
      have hfz : w.frozen? ⟨g, o + i, none⟩ = false := by
        have := hf.2 (o + i) (by rw [← hu]; simp)
        simp only [World.frozen?, hg]
        simpa using this
      have hset : (w.setCell ⟨g, o + i, none⟩ v).heap[g]? = some (.cells ((us ++ [v]) ++ (old ++ ws)).toArray e fr) := by
        simp only [World.setCell, Array.getElem?_modify, if_true, hg, Option.map_some, Option.isSome_none, Bool.false_eq_true, if_false]
        congr 2
        apply Array.ext'
        rw [Array.toList_setIfInBounds, ← hu]
        simp
      have hf' : Free ((us ++ [v]) ++ (old ++ ws)).toArray fr := ⟨hf.1, fun p hp => hf.2 p (by simpa [Nat.add_assoc, Nat.add_comm, Nat.add_left_comm] using hp)⟩
      obtain ⟨w', k1, k2, k3, k4, k5, k6, k7⟩ := storeCells_ok P vs (us ++ [v]) ws old (i + 1) o (w.setCell ⟨g, o + i, none⟩ v) hset (by simpa using hl) (by simp [hu]; omega) hf' (fun u hu => h1 u (by simp [hu]))
      refine ⟨w', ?_, by simpa using k2, fun b hb => (k3 b hb).trans (Below.heap_setCell w _ v b hb), k4.trans (by simp), k5, k6, k7⟩
      rw [storeCells]
      simp only [Sem.run_bind, add_lit, run_store P w ⟨g, o + i, none⟩ v .plain (h1 v (by simp)), hc, hfz, Bool.false_eq_true, if_false, Result.andThen_ok]
      exact k1
end
end Go.Am
