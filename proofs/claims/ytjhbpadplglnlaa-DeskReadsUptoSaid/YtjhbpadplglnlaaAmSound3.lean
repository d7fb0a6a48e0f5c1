/-
  AM: the operations are sound, part 3: stores.
-/
import Derived.Test.YtjhbpadplglnlaaAmSound2
set_option linter.unusedVariables false
set_option linter.unusedSimpArgs false
namespace Go.Am
open Go.RowKit

section
variable {C : Ctx} {S S' : St} {θ θ' : Nat → Option Value} {a : Act} {w w' : World} {n : Nat} {ok : Nat → Prop} {P : Program}

/-- Only block g has turned. -/
structure Only (g : Nat) (w w' : World) : Prop where
  far : ∀ b, b ≠ g → w'.heap[b]? = w.heap[b]?
  size : w'.heap.size = w.heap.size
  os : w'.os = w.os
  tape : w'.tape = w.tape
  output : w'.output = w.output

theorem Rel.write (h : Rel C S θ a w) {d : Nat} {o o' : Ob} {v : Value} {g : Nat} (ho : S.obj d = some o) (hown : o.isOwn = true) (hv : θ d = some v) (hb : blk v = some g) (hw : Only g w w')
    (hob : ∀ ok', Keeps w w' (okOf C w S θ) ok' θ θ → OV C w' ok' θ d o') : Rel C (S.setObj d o') θ a w' := by
  refine h.turn (fun i => i = d) (fun b => b = g) rfl (fun i hi => ⟨obj_setObj_other _ _ _ _ hi, rfl⟩) (fun _ _ h => h) hw.os hw.tape hw.output (by rw [hw.size]; exact Nat.le_refl _)
    (fun b _ hb' => hw.far b hb') ?_ ?_ ?_ ?_ (fun i u _ hu => h.base i u hu) ?_
  · rintro b rfl
    exact ⟨d, o, v, rfl, ho, hown, hv, hb⟩
  · rintro i o₁ u b rfl h1 h2 h3 h4
    exact .inr ⟨i, o, v, rfl, ho, hown, hv, by rw [hv] at h3; cases h3; exact h4⟩
  · rintro i j o₁ o₂ u u' b rfl rfl _ _ _ _ hne
    exact (hne rfl).elim
  · rintro i rfl hi
    rw [obj_setObj_same] at hi
    cases hi
  · rintro hk i o₁ rfl h1
    rw [obj_setObj_same] at h1
    cases h1
    exact hob _ hk

theorem toArray_toList' (a : Array Value) : a.toList.toArray = a := by simp

theorem append_inj_len {α : Type} {a b c d : List α} (h : a ++ b = c ++ d) (hl : a.length = c.length) : a = c ∧ b = d := List.append_inj h hl

theorem ints_set (k : IntKind) (xs : List Int) (i : Nat) (x : Int) : ints k (xs.set i x) = (ints k xs).set i (.int k x) := by simp [ints, List.map_set]

theorem set_split {α : Type} (l : List α) (i : Nat) (x : α) (h : i < l.length) : l.set i x = l.take i ++ ([x] ++ l.drop (i + 1)) := by
  rw [List.set_eq_take_append_cons_drop, if_pos h]; rfl

theorem self_split {α : Type} (l : List α) (i : Nat) (h : i < l.length) : l = l.take i ++ ([l[i]] ++ l.drop (i + 1)) := by
  have := List.drop_eq_getElem_cons h
  conv => lhs; rw [← List.take_append_drop i l, this]
  rfl

theorem self_split_app {α : Type} (l r : List α) (i : Nat) (h : i < l.length) : l ++ r = l.take i ++ ([l[i]] ++ (l.drop (i + 1) ++ r)) := by
  have := congrArg (· ++ r) (self_split l i h)
  simpa only [List.append_assoc] using this

theorem CVs_set {xs : List AV} {cs : List Value} (h : CVs w ok θ xs cs) {i : Nat} {x y : AV} (hi : xs[i]? = some x) :
    ∃ v us ws, cs = us ++ (v.cells.toList ++ ws) ∧ us.length = AV.widths (xs.take i) ∧ v.cells.size = x.width ∧ CV w ok θ x v ∧
      ∀ vy, CV w ok θ y vy → vy.cells.size = y.width → CVs w ok θ (xs.set i y) (us ++ (vy.cells.toList ++ ws)) := by
  obtain ⟨v, us, ws, h1, h2, h3, h4, h5, h6⟩ := CVs_get h hi
  refine ⟨v, us, ws, h1, h2, h3, h4, fun vy hy hs => ?_⟩
  have hlt : i < xs.length := (List.getElem?_eq_some_iff.1 hi).1
  rw [set_split _ _ _ hlt]
  exact CVs_append h5 ⟨vy, ws, rfl, hs, hy, h6⟩

theorem Free.same {c c' : Array Value} {fr : Nat × Nat} (h : Free c fr) (hs : c'.size = c.size) : Free c' fr := ⟨h.1, fun o ho => h.2 o (by omega)⟩

theorem shOk_WT : ∀ {s : Sh} {x : AV}, shOk s x = true → WT s x := by
  intro s
  exact Sh.rec (motive_1 := fun s => ∀ x, shOk s x = true → WT s x) (motive_2 := fun l => ∀ cs, shsOk l cs = true → WTs l cs)
    (fun k x h => by cases x <;> first | (simp [shOk] at h; done) | (simp only [shOk, beq_iff_eq] at h; subst h; exact ⟨_, rfl⟩))
    (fun x h => by cases x <;> first | (simp [shOk] at h; done) | exact ⟨_, rfl⟩)
    (fun x h => by cases x <;> first | (simp [shOk] at h; done) | exact ⟨_, rfl⟩)
    (fun k n x h => by
      cases x <;> first | (simp [shOk] at h; done) | skip
      simp only [shOk, Bool.and_eq_true, beq_iff_eq] at h
      obtain ⟨rfl, h⟩ := h
      have := Nat.eq_of_beq_eq_true h
      subst this
      exact ⟨_, rfl⟩)
    (fun l ih x h => by
      cases x <;> first | (simp [shOk] at h; done) | skip
      rename_i cs
      exact ⟨cs, rfl, ih cs (by simpa [shOk] using h)⟩)
    (fun k x h => by cases x <;> first | (simp [shOk] at h; done) | (simp only [shOk, beq_iff_eq] at h; subst h; exact ⟨_, rfl⟩))
    (fun s _ x h => by cases x <;> simp [shOk] at h)
    (fun cs h => by
      cases cs with
      | nil => rfl
      | cons c cs => simp [shsOk] at h)
    (fun s l ih1 ih2 cs h => by
      cases cs with
      | nil => simp [shsOk] at h
      | cons c cs =>
        simp only [shsOk, Bool.and_eq_true] at h
        exact ⟨c, cs, rfl, ih1 c h.1, ih2 cs h.2⟩)
    s _

theorem st_ok {t : TypeId} {x y : Operand} {u uv : AV} (h : Rel C S θ a w) (hu : CV w (okOf C w S θ) θ u (a.eval x)) (hv : CV w (okOf C w S θ) θ uv (a.eval y)) (hh : (st P t u uv).exe n S = some S') :
    ∃ w', (Instr.storeAt t (a.eval x) (a.eval y)).run P w = .ok () w' ∧ Rel C S' θ a w' := by
  unfold st at hh
  have hq := exe_must hh
  clear hh
  obtain ⟨hm, hh⟩ := hq
  simp only [Bool.and_eq_true] at hm
  obtain ⟨hfit, hflat⟩ := hm
  have hfit' := hfit
  simp only [fits, Bool.and_eq_true, beq_iff_eq] at hfit'
  obtain ⟨ht, ha, hw⟩ := hfit'
  have hw' : uv.width = sizeT P t := Nat.eq_of_beq_eq_true hw
  have hsz := CV_size (flat_stor hflat) hv
  have hone := CV_cells hflat hv
  -- the run of a store at an address
  have run : ∀ (g o : Nat) (w' : World), a.eval x = .pointer (some ⟨g, o, none⟩) → (storeCells ⟨g, o, none⟩ (a.eval y).cells.toList 0).run P w = .ok () w' → (Instr.storeAt t (a.eval x) (a.eval y)).run P w = .ok () w' := by
    intro g o w' he hr
    simp only [Instr.storeAt, Sem.run_bind, he, Instr.sureAddr, Sem.run_pure, Result.andThen_ok, storeVar, run_sizeOf' ht, hsz, hw', ne_eq, not_true_eq_false, if_false, hr]
  cases u <;> first | exact (exe_fail hh).elim | skip
  · -- ref
    rename_i d off
    obtain ⟨g, hd, he⟩ := hu
    replace hh := exe_obj hh
    cases ho : S.obj d with
    | none => rw [ho] at hh; exact (exe_fail hh).elim
    | some ob =>
      rw [ho] at hh
      cases ob <;> first | exact (exe_fail hh).elim | skip
      rename_i tr
      simp only at hh
      split at hh
      · rename_i r hr
        have hS := exe_done (exe_setObj hh)
        obtain ⟨g', e, fr, v, h1, h2, h3, h4, h5, h6⟩ := h.objs d _ ho
        have h1' := h1
        rw [hd] at h1
        cases h1
        obtain ⟨v2, v0, us, ws, k1, k2, k3, k4, k5, k6⟩ := setAt_ok tr h4 h5 hr hv hsz
        have hheap : w.heap[g]? = some (.cells (us ++ (v0 ++ ws)).toArray e fr) := by rw [← k1, toArray_toList']; exact h2
        obtain ⟨w', q1, q2, q3, q4, q5, q6, q7⟩ := storeCells_ok P (a.eval y).cells.toList us ws v0 0 off w hheap (by rw [k3, Array.length_toList, hsz]) k2 (by rw [← k1, toArray_toList']; exact h3) hone
        refine ⟨w', run g off w' he q1, ?_⟩
        rw [hS]
        have hcells : (us ++ ((a.eval y).cells.toList ++ ws)).toArray = v2.cells := by rw [← k5, toArray_toList']
        rw [hcells] at q2
        have hs2 : v2.cells.size = v.cells.size := by
          rw [← Array.length_toList, ← Array.length_toList, k5, k1]
          simp only [List.length_append, Array.length_toList, hsz, k3]
        refine h.write ho rfl h1' rfl ⟨q3, q4, q5, q6, q7⟩ (fun ok' hk => ?_)
        exact ⟨g, e, fr, v2, h1', q2, h3.same hs2, CV_mono hk _ _ k4, by rw [hs2, h5, k6], h6⟩
      · exact (exe_fail hh).elim
  · -- refa
    rename_i d off m i
    obtain ⟨hi, g, hd, he⟩ := hu
    replace hh := exe_obj hh
    cases ho : S.obj d with
    | none => rw [ho] at hh; exact (exe_fail hh).elim
    | some ob =>
      rw [ho] at hh
      cases ob <;> first | exact (exe_fail hh).elim | skip
      rename_i tr
      cases uv <;> first | exact (exe_fail hh).elim | skip
      rename_i kx xv
      have hv' : a.eval y = .int kx xv := hv
      simp only at hh
      split at hh
      · rename_i k' n' xs hr
        have hq := exe_must hh
        clear hh
        obtain ⟨hm, hh⟩ := hq
        simp only [Bool.and_eq_true, beq_iff_eq] at hm
        obtain ⟨hkk, hnn⟩ := hm
        subst hkk
        have hn := Nat.eq_of_beq_eq_true hnn
        subst hn
        have hS := exe_done (exe_setObj hh)
        obtain ⟨g', e, fr, v, h1, h2, h3, h4, h5, h6⟩ := h.objs d _ ho
        have h1' := h1
        rw [hd] at h1
        cases h1
        obtain ⟨va, usa, wsa, p1, p2, ⟨p3, rfl⟩, p4, p5, p6⟩ := getAt_ok tr h4 h5 hr
        have hset : CV w (okOf C w S θ) θ (.arr kx m (xs.set i xv)) (.agg (ints kx (xs.set i xv)).toArray) := ⟨by simpa using p3, rfl⟩
        obtain ⟨v2, v0, us, ws, k1, k2, k3, k4, k5, k6⟩ := setAt_ok tr (y := .arr kx m (xs.set i xv)) h4 h5 hr hset (by simp [Value.cells, ints, AV.width, p3])
        have ea : ∀ l : List Int, (Value.agg (ints kx l).toArray).cells.toList = ints kx l := fun l => by simp [Value.cells]
        rw [ea] at p1 k5
        obtain ⟨e1, e2⟩ := append_inj_len (p1.symm.trans k1) (by rw [p2, k2])
        obtain ⟨e3, e4⟩ := append_inj_len e2 (by rw [ints_length, p3, k3]; rfl)
        subst e1
        subst e3
        subst e4
        have hil : i < (ints kx xs).length := by rw [ints_length]; omega
        have hsp := self_split (ints kx xs) i hil
        have hheap : w.heap[g]? = some (.cells ((usa ++ (ints kx xs).take i) ++ ([(ints kx xs)[i]] ++ ((ints kx xs).drop (i + 1) ++ wsa))).toArray e fr) := by
          rw [h2]
          congr 2
          apply Array.ext'
          rw [k1, self_split_app (ints kx xs) wsa i hil]
          simp only [List.toList_toArray, List.append_assoc]
        obtain ⟨w', q1, q2, q3, q4, q5, q6, q7⟩ := storeCells_ok P (a.eval y).cells.toList (usa ++ (ints kx xs).take i) ((ints kx xs).drop (i + 1) ++ wsa) [(ints kx xs)[i]] 0 (off + i) w hheap
          (by rw [hv']; rfl) (by rw [List.length_append, p2, List.length_take, Nat.min_eq_left (by omega)]; rfl) (h3.same (by
            rw [← Array.length_toList, ← Array.length_toList, k1, self_split_app (ints kx xs) wsa i hil]
            simp only [List.toList_toArray, List.append_assoc])) hone
        refine ⟨w', run g (off + i) w' he q1, ?_⟩
        rw [hS]
        have hcells : ((usa ++ (ints kx xs).take i) ++ ((a.eval y).cells.toList ++ ((ints kx xs).drop (i + 1) ++ wsa))).toArray = v2.cells := by
          apply Array.ext'
          rw [k5, ints_set, set_split _ _ _ hil, hv']
          simp [Value.cells]
        rw [hcells] at q2
        have hs2 : v2.cells.size = v.cells.size := by
          rw [← Array.length_toList, ← Array.length_toList, k5, k1]
          simp only [List.length_append, ints_length, List.length_set]
        refine h.write ho rfl h1' rfl ⟨q3, q4, q5, q6, q7⟩ (fun ok' hk => ?_)
        exact ⟨g, e, fr, v2, h1', q2, h3.same hs2, CV_mono hk _ _ k4, by rw [hs2, h5, k6], h6⟩
      · exact (exe_fail hh).elim
  · -- eref
    rename_i d sz i off
    obtain ⟨g, m, c, hd, hi, he⟩ := hu
    replace hh := exe_obj hh
    cases ho : S.obj d with
    | none => rw [ho] at hh; exact (exe_fail hh).elim
    | some ob =>
      rw [ho] at hh
      cases ob <;> first | exact (exe_fail hh).elim | skip
      · rename_i own e k' xs
        cases own <;> first | exact (exe_fail hh).elim | skip
        cases uv <;> first | exact (exe_fail hh).elim | skip
        rename_i kx xv
        have hv' : a.eval y = .int kx xv := hv
        have hq := exe_must hh
        clear hh
        obtain ⟨hm, hh⟩ := hq
        simp only [Bool.and_eq_true, beq_iff_eq] at hm
        obtain ⟨hkk, hs1, ho1⟩ := hm
        subst hkk
        have hs1 := Nat.eq_of_beq_eq_true hs1
        have ho1 := Nat.eq_of_beq_eq_true ho1
        subst hs1
        subst ho1
        have hS := exe_done (exe_setObj hh)
        obtain ⟨v, h1, h2, _⟩ := h.objs d _ ho
        have h1' := h1
        rw [hd] at h1
        cases h1
        obtain ⟨hl, h3⟩ := h2 rfl
        rcases h3 with ⟨h3, _⟩ | ⟨g', cap, cur, fr, h3, h4, h5, h6, h7, h8, h9, h10⟩
        · cases h3
        cases h3
        simp only [Nat.mul_one, Nat.add_zero] at h9 h10 he
        have hil : i < cur.toList.length := by rw [Array.length_toList]; omega
        have hsp := self_split cur.toList i hil
        have hheap : w.heap[g]? = some (.cells (cur.toList.take i ++ ([cur.toList[i]] ++ cur.toList.drop (i + 1))).toArray e fr) := by rw [← hsp, toArray_toList']; exact h5
        obtain ⟨w', q1, q2, q3, q4, q5, q6, q7⟩ := storeCells_ok P (a.eval y).cells.toList (cur.toList.take i) (cur.toList.drop (i + 1)) [cur.toList[i]] 0 i w hheap
          (by rw [hv']; rfl) (by rw [List.length_take, Nat.min_eq_left (by omega)]; rfl) (by rw [← hsp, toArray_toList']; exact h6) hone
        refine ⟨w', run g i w' he q1, ?_⟩
        rw [hS]
        have hcells : (cur.toList.take i ++ ((a.eval y).cells.toList ++ cur.toList.drop (i + 1))) = cur.toList.set i (.int kx xv) := by rw [set_split _ _ _ hil, hv']; rfl
        rw [hcells] at q2
        refine h.write ho rfl h1' rfl ⟨q3, q4, q5, q6, q7⟩ (fun ok' hk => ?_)
        refine ⟨_, h1', fun _ => ⟨by simp [ints], .inr ⟨g, c, _, fr, by simp, h4, q2, h6.same (by simp), by simpa using h7, h8, by simpa using h9, ?_⟩⟩, fun h => by cases h⟩
        simp only [Nat.mul_one, List.length_set, List.toList_toArray]
        rw [ints_set, ← h10, List.take_set]
      · rename_i own e s xs
        cases own <;> first | exact (exe_fail hh).elim | skip
        simp only at hh
        split at hh
        · rename_i r hr
          have hq := exe_must hh
          clear hh
          obtain ⟨hm, hh⟩ := hq
          have hq := exe_chk hh
          clear hh
          obtain ⟨hlt, hh⟩ := hq
          simp only [Bool.and_eq_true] at hm
          have h1s := Nat.eq_of_beq_eq_true hm.1
          subst h1s
          have hlt := Nat.le_of_ble_eq_true hlt
          have hS := exe_done (exe_setObj hh)
          obtain ⟨v, h1, hwt, h2, _⟩ := h.objs d _ ho
          have h1' := h1
          rw [hd] at h1
          cases h1
          obtain ⟨cs, hcs, hl, h3⟩ := h2 rfl
          rcases h3 with ⟨h3, _⟩ | ⟨g', cap, cur, fr, h3, h4, h5, h6, h7, h8, h9, h10⟩
          · cases h3
          cases h3
          have hge := getE_get (xs := xs) (i := i) (by omega)
          have hwe := hwt _ (List.mem_of_getElem? hge)
          have heta := eta_of_WT s _ hwe
          rw [heta] at hr hS hm
          obtain ⟨ve, us, ws, r1, r2, r3, r4, r5⟩ := CVs_set (y := setAt (getE xs i) off uv) hcs hge
          obtain ⟨v2, v0, us2, ws2, k1, k2, k3, k4, k5, k6⟩ := setAt_ok _ r4 r3 hr hv hsz
          have hs2 : v2.cells.size = (setAt (getE xs i) off uv).width := by
            rw [k6, ← r3, ← Array.length_toList, ← Array.length_toList, k5, k1]
            simp only [List.length_append, Array.length_toList, hsz, k3]
          have hnew := r5 v2 k4 hs2
          have hul : us.length = i * s.width := by
            rw [r2, WT_widths (s := s) (fun x hx => hwt x (List.mem_of_mem_take hx)), List.length_take, Nat.min_eq_left (by omega)]
          have hcur : cur.toList = cs ++ cur.toList.drop (xs.length * s.width) := by
            conv => lhs; rw [← List.take_append_drop (xs.length * s.width) cur.toList, h10]
          have hheap : w.heap[g]? = some (.cells ((us ++ us2) ++ (v0 ++ (ws2 ++ (ws ++ cur.toList.drop (xs.length * s.width))))).toArray e fr) := by
            rw [h5]
            congr 2
            apply Array.ext'
            rw [List.toList_toArray]
            conv => lhs; rw [hcur, r1, k1]
            simp only [List.append_assoc]
          obtain ⟨w', q1, q2, q3, q4, q5, q6, q7⟩ := storeCells_ok P (a.eval y).cells.toList (us ++ us2) (ws2 ++ (ws ++ cur.toList.drop (xs.length * s.width))) v0 0 (i * s.width + off) w hheap
            (by rw [k3, Array.length_toList, hsz]) (by rw [List.length_append, hul, k2]; rfl) (h6.same (by
              rw [← Array.length_toList, ← Array.length_toList, List.toList_toArray]
              conv => rhs; rw [hcur, r1, k1]
              simp only [List.append_assoc])) hone
          refine ⟨w', run g (i * s.width + off) w' he q1, ?_⟩
          rw [hS]
          have hcl : ((us ++ us2) ++ ((a.eval y).cells.toList ++ (ws2 ++ (ws ++ cur.toList.drop (xs.length * s.width))))) = (us ++ (v2.cells.toList ++ ws)) ++ cur.toList.drop (xs.length * s.width) := by
            rw [k5]
            simp only [List.append_assoc]
          rw [hcl] at q2
          have hlen2 : (us ++ (v2.cells.toList ++ ws)).length = xs.length * s.width := by
            rw [← hl, r1]
            simp only [List.length_append, Array.length_toList, hs2, k6, r3]
          refine h.write ho rfl h1' rfl ⟨q3, q4, q5, q6, q7⟩ (fun ok' hk => ?_)
          refine ⟨_, h1', ?_, fun _ => ⟨us ++ (v2.cells.toList ++ ws), CVs_mono hk _ _ hnew, ?_, .inr ⟨g, c, _, fr, by simp, h4, q2, h6.same ?_, by simpa using h7, h8, ?_, ?_⟩⟩, fun h => by cases h⟩
          · intro x hx
            rcases List.mem_or_eq_of_mem_set hx with hx | hx
            · exact hwt x hx
            · subst hx
              exact shOk_WT hm.2
          · simpa using hlen2
          · rw [List.size_toArray, List.length_append, hlen2, ← Array.length_toList]
            conv => rhs; rw [hcur]
            rw [List.length_append, hl]
          · rw [List.size_toArray, List.length_append, hlen2, ← h9, ← Array.length_toList]
            conv => rhs; rw [hcur]
            rw [List.length_append, hl]
          · rw [List.length_set, List.toList_toArray, ← hlen2, List.take_left]
        · exact (exe_fail hh).elim
end
end Go.Am
