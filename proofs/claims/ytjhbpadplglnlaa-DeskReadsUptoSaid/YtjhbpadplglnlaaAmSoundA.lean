/-
  AM: the operations are sound, part 10: append in a state.
-/
import Derived.Test.YtjhbpadplglnlaaAmSound9
set_option linter.unusedVariables false
set_option linter.unusedSimpArgs false
namespace Go.Am
open Go.RowKit




section
variable {C : Ctx} {S S' : St} {θ θ' : Nat → Option Value} {a : Act} {w w' : World} {n : Nat} {ok : Nat → Prop} {P : Program} {o : Oper}

theorem WT_flat : ∀ {s : Sh} {x : AV}, WT s x → x.flat = true := by
  intro s
  exact Sh.rec (motive_1 := fun s => ∀ x, WT s x → x.flat = true) (motive_2 := fun l => ∀ cs, WTs l cs → AV.flats cs = true)
    (fun k x h => by obtain ⟨_, rfl⟩ := h; rfl) (fun x h => by obtain ⟨_, rfl⟩ := h; rfl) (fun x h => by obtain ⟨_, rfl⟩ := h; rfl)
    (fun k n x h => by obtain ⟨_, rfl⟩ := h; rfl)
    (fun l ih x h => by obtain ⟨cs, rfl, h2⟩ := h; exact ih cs h2)
    (fun k x h => by obtain ⟨_, rfl⟩ := h; rfl) (fun s _ x h => by obtain ⟨_, rfl⟩ := h; rfl)
    (fun cs h => by simp only [WTs] at h; subst h; rfl)
    (fun s l ih1 ih2 cs h => by
      obtain ⟨c, r, rfl, h1, h2⟩ := h
      simp only [AV.flats, ih1 c h1, ih2 r h2, Bool.and_self])
    s _
theorem WT_flats {s : Sh} : ∀ {xs : List AV}, (∀ x ∈ xs, WT s x) → AV.flats xs = true
  | [], _ => rfl
  | x :: xs, h => by
    simp only [AV.flats, WT_flat (h x (by simp)), WT_flats (xs := xs) (fun y hy => h y (by simp [hy])), Bool.and_self]

/-- What append leaves of the world. -/
structure Grew (v v' : Value) (w w' : World) : Prop where
  far : ∀ b, b < w.heap.size → blk v ≠ some b → w'.heap[b]? = w.heap[b]?
  size : w.heap.size ≤ w'.heap.size
  os : w'.os = w.os
  tape : w'.tape = w.tape
  output : w'.output = w.output
  blk : ∀ b, Am.blk v' = some b → Am.blk v = some b ∨ w.heap.size ≤ b
  base : base0 v'

theorem Rel.moved (h : Rel C S θ a w) {d dd : Nat} {o' ob : Ob} {v v' : Value} (ho : S.obj d = some o') (hown : o'.isOwn = true) (hv : θ d = some v) (hd : S.obj dd = none) (hw : Grew v v' w w')
    (hob : ∀ ok', Keeps w w' (okOf C w S θ) ok' θ (upd θ dd v') → OV C w' ok' (upd θ dd v') dd ob) : Rel C ((S.setObj d .dead).setObj dd ob) (upd θ dd v') a w' := by
  have hne : d ≠ dd := fun e => by rw [e, hd] at ho; cases ho
  have hnm : ∀ i x, θ i = some x → upd θ dd v' i = some x := by
    intro i x hi
    by_cases e : i = dd
    · subst e; rw [h.fresh i hd] at hi; cases hi
    · rw [upd_ne _ _ e]; exact hi
  refine h.turn (fun i => i = d ∨ i = dd) (fun b => blk v = some b) rfl ?_ hnm hw.os hw.tape hw.output hw.size hw.far ?_ ?_ ?_ ?_ ?_ ?_
  · intro i hi
    simp only [not_or] at hi
    exact ⟨by rw [obj_setObj_other _ _ _ _ hi.2, obj_setObj_other _ _ _ _ hi.1], upd_ne _ _ hi.2⟩
  · intro b hb
    exact ⟨d, o', v, .inl rfl, ho, hown, hv, hb⟩
  · rintro i o₁ u b hi h1 h2 h3 h4
    rcases hi with rfl | rfl
    · rw [obj_setObj_other _ _ _ _ hne, obj_setObj_same] at h1
      cases h1
      cases h2
    · rw [upd_self] at h3
      cases h3
      rcases hw.blk b h4 with h5 | h5
      · exact .inr ⟨d, o', v, .inl rfl, ho, hown, hv, h5⟩
      · exact .inl h5
  · rintro i j o₁ o₂ u u' b hi hj h1 h2 h3 h4 hij
    rcases hi with rfl | rfl
    · rw [obj_setObj_other _ _ _ _ hne, obj_setObj_same] at h1
      cases h1
      cases h3
    · rcases hj with rfl | rfl
      · rw [obj_setObj_other _ _ _ _ hne, obj_setObj_same] at h2
        cases h2
        cases h4
      · exact (hij rfl).elim
  · rintro i hi hn
    rcases hi with rfl | rfl
    · rw [obj_setObj_other _ _ _ _ hne, obj_setObj_same] at hn
      cases hn
    · rw [obj_setObj_same] at hn
      cases hn
  · rintro i u hi hu
    rcases hi with rfl | rfl
    · rw [upd_ne _ _ hne] at hu
      exact h.base _ _ hu
    · rw [upd_self] at hu
      cases hu
      exact hw.base
  · rintro hk i o₁ hi h1
    rcases hi with rfl | rfl
    · rw [obj_setObj_other _ _ _ _ hne, obj_setObj_same] at h1
      cases h1
      trivial
    · rw [obj_setObj_same] at h1
      cases h1
      exact hob _ hk

theorem firstCells_ok {A : Option Addr} {m c size : Nat} {cs : List Value} (hl : cs.length = m * size) (hc : 0 < m → ∃ ad, A = some ad ∧ cellsAt w ad cs) (hz : m = 0 → cs = []) :
    ∀ W : World, W.heap = w.heap → (Builtin.firstCells size m (.slice A m c)).run P W = .ok cs.toArray W := by
  intro W hW
  cases A with
  | none =>
    have hm : m = 0 := by
      rcases Nat.eq_zero_or_pos m with h | h
      · exact h
      · obtain ⟨ad, h1, _⟩ := hc h; cases h1
    rw [hz hm, hm]
    rfl
  | some ad =>
    have hcc : ∀ j u, cs[j]? = some u → W.cell? (ad.add j) = some u := by
      intro j u hj
      rcases Nat.eq_zero_or_pos m with h | h
      · rw [hz h] at hj; cases hj
      · obtain ⟨ad', h1, h2⟩ := hc h
        cases h1
        have := h2 j u hj
        simpa [World.cell?, hW] using this
    exact run_firstCells_some (P := P) W size m ad m c cs hl hcc

theorem opAppend_ok {ts tx : TypeId} {s x : Operand} {us ux : AV} (ho : o.op = .call { callee := .builtin .append, args := #[s, x], argTypes := #[ts, tx] }) (h : Rel C S θ a w)
    (hs : CV w (okOf C w S θ) θ us (a.eval s)) (hx : CV w (okOf C w S θ) θ ux (a.eval x)) (hh : (opAppend P o tx ts us ux).exe n S = some S') : Does P C S' o a w := by
  unfold opAppend at hh
  split at hh <;> first | exact (exe_fail hh).elim | skip
  rename_i e dd he hdd
  have ht := elemT_ok he
  split at hh <;> first | exact (exe_fail hh).elim | skip
  rename_i i hi
  split at hh <;> first | exact (exe_fail hh).elim | skip
  rename_i z hz
  simp only at hh
  obtain ⟨hm, hh1⟩ := exe_must hh
  clear hh
  simp only [Bool.and_eq_true] at hm
  have hzs := Nat.eq_of_beq_eq_true hm.1
  have htt := Nat.eq_of_beq_eq_true hm.2
  subst htt
  have run : ∀ (v' : Value) (w' : World), (Builtin.append_ #[ts, ts] o.type #[a.eval s, a.eval x]).run P w = .ok v' w' → (execOp a.eval o).run P w = .ok (.value v') w' := by
    intro v' w' hr
    simp only [execOp, ho, resolve, invoke, builtin, Sem.run_bind, Sem.run_pure, Result.andThen_ok, List.map_toArray, List.map_cons, List.map_nil, hr]
  split at hh1
  · -- numbers
    rename_i k hk
    obtain ⟨hm2, hh2⟩ := exe_must hh1
    clear hh1
    simp only [Bool.and_eq_true] at hm2
    have hs1 := Nat.eq_of_beq_eq_true hm2.1
    have hby := Nat.le_of_ble_eq_true hm2.2
    obtain ⟨x', l, hh3, hwt, hcv⟩ := snap_ok h 2 (.fs k) ux _ _ hx hh2
    obtain ⟨ys, rfl⟩ := hwt
    obtain ⟨A, c, hxv, hlc, hcl⟩ := hcv
    simp only at hh3
    have hlen : ∀ W, (Builtin.lenOf (a.eval x)).run P W = .ok ys.length W := by intro W; rw [hxv]; rfl
    have hfc : ∀ W : World, W.heap = w.heap → (Builtin.firstCells 1 ys.length (a.eval x)).run P W = .ok (ints k ys).toArray W := by
      rw [hxv]
      exact firstCells_ok (by simp [ints]) (fun h0 => by obtain ⟨ad, q1, _, q2⟩ := hcl h0; exact ⟨ad, q1, q2⟩) (fun h0 => by rw [List.eq_nil_of_length_eq_zero h0]; rfl)
    have hone : ∀ u ∈ ints k ys, u.oneCell' = true := by
      intro u hu
      simp only [ints, List.mem_map] at hu
      obtain ⟨_, _, rfl⟩ := hu
      rfl
    have big : ∀ m : Nat, Nat.ble ((m + ys.length) * i.bytes) 140737488355328 = true → m + ys.length ≤ maxLen ∧ (m + ys.length) * i.bytes ≤ 140737488355328 := by
      intro m hb
      have hb := Nat.le_of_ble_eq_true hb
      have h1 : (m + ys.length) * 1 ≤ (m + ys.length) * i.bytes := Nat.mul_le_mul_left _ hby
      exact ⟨by unfold maxLen; omega, hb⟩
    split at hh3 <;> first | exact (exe_fail hh3).elim | skip
    · -- onto nil
      have hsv : a.eval s = .slice none 0 0 := hs
      obtain ⟨hb, hh4⟩ := exe_chk hh3
      obtain ⟨hb1, hb2⟩ := big 0 hb
      have hh5 := exe_obj hh4
      cases hq : S.obj dd with
      | some q => rw [hq] at hh5; exact (exe_fail hh5).elim
      | none =>
        rw [hq] at hh5
        have hS := exe_done (exe_setSlot (exe_setObj hh5))
        obtain ⟨v', w', r1, r2, r3, r4, r5, r6, r7, r8, r9, A', c', r10⟩ := run_append_row (P := P) (ty := o.type) ht hi hz hs1 rfl (by rw [hzs, hs1]) (by omega) (B := C.B) (v := .slice none 0 0) (m := 0) (xs := []) ⟨by simp, .inl ⟨rfl, rfl⟩⟩ h.size hlen hfc (by simp [ints]) hone hb1 hb2
        rw [← hsv] at r1
        have hw : Below w.heap.size w w' := ⟨r5, r6, r7, r4, fun b hb => r3 b hb (by simp [blk])⟩
        rw [hS]
        have hrel := h.born (b := .row true e k ys) (v := v') hq hw (fun g hg => by rcases r8 g hg with hh | hh; exact (by cases hh); exact hh) r9
          (fun ok' hk => ⟨v', upd_self _ _ _, fun _ => by simpa using r2, fun h => by cases h⟩)
        refine Does.value (run v' w' r1) (θ' := upd θ dd v') ?_
        rw [hdd]
        exact hrel.put ⟨upd_self _ _ _, A', _, c', r10⟩
    · -- onto an own row
      rename_i d
      obtain ⟨hd, A0, m0, c0, hsv⟩ := hs
      have hh4 := exe_obj hh3
      clear hh3
      split at hh4 <;> first | exact (exe_fail hh4).elim | skip
      rename_i oq hob
      split at hh4 <;> first | exact (exe_fail hh4).elim | skip
      rename_i e' xs has
      obtain ⟨hm3, hh5⟩ := exe_must hh4
      simp only [Bool.and_eq_true] at hm3
      have he' := Nat.eq_of_beq_eq_true hm3.1
      subst he'
      obtain ⟨hb, hh6⟩ := exe_chk hh5
      obtain ⟨hb1, hb2⟩ := big xs.length hb
      have hh7 := exe_obj hh6
      cases hq : S.obj dd with
      | some q => rw [hq] at hh7; exact (exe_fail hh7).elim
      | none =>
        rw [hq] at hh7
        have hS := exe_done (exe_setSlot (exe_setObj (exe_setObj hh7)))
        obtain ⟨hisO, v, v1, v2⟩ := asRow_ok h hob has
        rw [hd] at v1
        cases v1
        obtain ⟨v', w', r1, r2, r3, r4, r5, r6, r7, r8, r9, A', c', r10⟩ := run_append_row (P := P) (ty := o.type) ht hi hz hs1 rfl (by rw [hzs, hs1]) (by omega) v2 h.size hlen hfc (by simp [ints]) hone hb1 hb2
        rw [hS]
        have hrel := h.moved (ob := .row true e k (xs ++ ys)) hob hisO hd hq ⟨r3, r4, r5, r6, r7, r8, r9⟩
          (fun ok' hk => ⟨v', upd_self _ _ _, fun _ => by rw [List.length_append]; simpa [ints] using r2, fun h => by cases h⟩)
        refine Does.value (run v' w' r1) (θ' := upd θ dd v') ?_
        rw [hdd]
        exact hrel.put ⟨upd_self _ _ _, A', _, c', r10⟩
  · -- elements
    split at hh1 <;> first | exact (exe_fail hh1).elim | skip
    rename_i sh hsh
    obtain ⟨hm2, hh2⟩ := exe_must hh1
    clear hh1
    simp only [Bool.and_eq_true] at hm2
    have hs1 := Nat.eq_of_beq_eq_true hm2.1
    have hs2 := Nat.le_of_ble_eq_true hm2.2.1
    have hby := Nat.le_of_ble_eq_true hm2.2.2
    obtain ⟨S1, x', h1, hwt, hcv, hh3, hok1, hnone⟩ := frz_ok h hx hh2
    obtain ⟨ys, rfl⟩ := hwt
    obtain ⟨A, c, cs, hxv, hlc, hwy, hcs, hcl⟩ := hcv
    simp only at hh3
    have hcsl : cs.length = ys.length * sh.width := by rw [CVs_length hcs, WT_widths hwy]
    have hlen : ∀ W, (Builtin.lenOf (a.eval x)).run P W = .ok ys.length W := by intro W; rw [hxv]; rfl
    have hfc : ∀ W : World, W.heap = w.heap → (Builtin.firstCells sh.width ys.length (a.eval x)).run P W = .ok cs.toArray W := by
      rw [hxv]
      exact firstCells_ok hcsl (fun h0 => by obtain ⟨ad, q1, _, q2⟩ := hcl h0; exact ⟨ad, q1, q2⟩) (fun h0 => by apply List.eq_nil_of_length_eq_zero; rw [hcsl, h0]; simp)
    have hone : ∀ u ∈ cs, u.oneCell' = true := CVs_cells (WT_flats hwy) hcs
    have big : ∀ m : Nat, Nat.ble ((m + ys.length) * i.bytes) 140737488355328 = true → m + ys.length ≤ maxLen ∧ (m + ys.length) * i.bytes ≤ 140737488355328 := by
      intro m hb
      have hb := Nat.le_of_ble_eq_true hb
      have h1 : (m + ys.length) * 1 ≤ (m + ys.length) * i.bytes := Nat.mul_le_mul_left _ hby
      exact ⟨by unfold maxLen; omega, hb⟩
    split at hh3 <;> first | exact (exe_fail hh3).elim | skip
    · have hsv : a.eval s = .slice none 0 0 := hs
      obtain ⟨hb, hh4⟩ := exe_chk hh3
      obtain ⟨hb1, hb2⟩ := big 0 hb
      have hh5 := exe_obj hh4
      cases hq : S1.obj dd with
      | some q => rw [hq] at hh5; exact (exe_fail hh5).elim
      | none =>
        rw [hq] at hh5
        have hS := exe_done (exe_setSlot (exe_setObj hh5))
        obtain ⟨v', w', r1, r2, r3, r4, r5, r6, r7, r8, r9, A', c', r10⟩ := run_append_row (P := P) (ty := o.type) ht hi hz hs1 rfl (by rw [hzs, hs1]) (by omega) (B := C.B) (v := .slice none 0 0) (m := 0) (xs := []) ⟨by simp, .inl ⟨rfl, rfl⟩⟩ h.size hlen hfc hcsl hone hb1 hb2
        rw [← hsv] at r1
        have hw : Below w.heap.size w w' := ⟨r5, r6, r7, r4, fun b hb => r3 b hb (by simp [blk])⟩
        rw [hS]
        have hrel := h1.born (b := .rows true e sh ys) (v := v') hq hw (fun g hg => by rcases r8 g hg with hh | hh; exact (by cases hh); exact hh) r9
          (fun ok' hk => ⟨v', upd_self _ _ _, hwy, fun _ => ⟨cs, CVs_mono hk _ _ hcs, by simpa using r2⟩, fun h => by cases h⟩)
        refine Does.value (run v' w' r1) (θ' := upd θ dd v') ?_
        rw [hdd]
        exact hrel.put ⟨upd_self _ _ _, A', _, c', r10⟩
    · rename_i d
      obtain ⟨hd, A0, m0, c0, hsv⟩ := hs
      have hh4 := exe_obj hh3
      clear hh3
      split at hh4 <;> first | exact (exe_fail hh4).elim | skip
      rename_i oq hob
      split at hh4 <;> first | exact (exe_fail hh4).elim | skip
      rename_i e' xs has
      obtain ⟨hm3, hh5⟩ := exe_must hh4
      have he' := Nat.eq_of_beq_eq_true hm3
      subst he'
      obtain ⟨hb, hh6⟩ := exe_chk hh5
      obtain ⟨hb1, hb2⟩ := big xs.length hb
      have hh7 := exe_obj hh6
      cases hq : S1.obj dd with
      | some q => rw [hq] at hh7; exact (exe_fail hh7).elim
      | none =>
        rw [hq] at hh7
        have hS := exe_done (exe_setSlot (exe_setObj (exe_setObj hh7)))
        obtain ⟨hisO, v, cx, v1, hwx, hcx, hrow⟩ := asRows_ok h1 hob has
        rw [hd] at v1
        cases v1
        obtain ⟨v', w', r1, r2, r3, r4, r5, r6, r7, r8, r9, A', c', r10⟩ := run_append_row (P := P) (ty := o.type) ht hi hz hs1 rfl (by rw [hzs, hs1]) (by omega) hrow h.size hlen hfc hcsl hone hb1 hb2
        rw [hS]
        have hrel := h1.moved (ob := .rows true e sh (xs ++ ys)) hob hisO hd hq ⟨r3, r4, r5, r6, r7, r8, r9⟩
          (fun ok' hk => ⟨v', upd_self _ _ _, (fun y hy => by
            rcases List.mem_append.1 hy with hy | hy
            · exact hwx y hy
            · exact hwy y hy), fun _ => ⟨cx ++ cs, CVs_append (CVs_mono hk _ _ hcx) (CVs_mono hk _ _ hcs), by rw [List.length_append]; exact r2⟩, fun h => by cases h⟩)
        refine Does.value (run v' w' r1) (θ' := upd θ dd v') ?_
        rw [hdd]
        exact hrel.put ⟨upd_self _ _ _, A', _, c', r10⟩
end
end Go.Am
