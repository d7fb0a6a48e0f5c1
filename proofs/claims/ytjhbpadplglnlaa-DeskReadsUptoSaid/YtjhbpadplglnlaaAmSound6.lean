/-
  AM: the operations are sound, part 6: values as data; what is frozen.
-/
import Derived.Test.YtjhbpadplglnlaaAmSound5
set_option linter.unusedVariables false
set_option linter.unusedSimpArgs false
namespace Go.Am
open Go.RowKit

/-- As okOf, the objects of l let in. -/
def okX (C : Ctx) (w : World) (S : St) (θ : Nat → Option Value) (l : List Nat) (b : Nat) : Prop :=
  b < w.heap.size ∧ ¬ C.F b ∧ ¬ C.I b ∧ ¬ ∃ d o v, d ∉ l ∧ S.obj d = some o ∧ o.isOwn = true ∧ θ d = some v ∧ blk v = some b

section
variable {C : Ctx} {S S' : St} {θ θ' : Nat → Option Value} {a : Act} {w w' : World} {n : Nat} {ok : Nat → Prop} {P : Program} {o : Oper}

theorem okX_of_ok {l : List Nat} {b : Nat} (h : okOf C w S θ b) : okX C w S θ l b := ⟨h.1, h.2.1, h.2.2.1, fun ⟨d, o, v, _, h1⟩ => h.2.2.2 ⟨d, o, v, h1⟩⟩
theorem okX_mono {l l' : List Nat} (hl : ∀ d ∈ l, d ∈ l') {b : Nat} (h : okX C w S θ l b) : okX C w S θ l' b := ⟨h.1, h.2.1, h.2.2.1, fun ⟨d, o, v, hd, h1⟩ => h.2.2.2 ⟨d, o, v, fun hm => hd (hl d hm), h1⟩⟩
theorem keepsOk {ok ok' : Nat → Prop} (h : ∀ b, ok b → ok' b) : Keeps w w ok ok' θ θ := ⟨h, fun _ _ => rfl, fun _ _ h => h⟩

theorem WT_stor {s : Sh} {x : AV} (h : WT s x) : x.stor = true := by
  cases s <;> first
    | (obtain ⟨_, rfl⟩ := h; rfl)
    | (obtain ⟨_, rfl, _⟩ := h; rfl)

/-- An own object's block, when the object is let in. -/
theorem own_okX (h : Rel C S θ a w) {d : Nat} {ob : Ob} {v : Value} {g : Nat} {l : List Nat} (ho : S.obj d = some ob) (hown : ob.isOwn = true) (hv : θ d = some v) (hb : blk v = some g) (hd : d ∈ l) : okX C w S θ l g := by
  obtain ⟨h1, h2⟩ := (h.objs d ob ho).lt hown hv hb
  have hB : C.B ≤ g := h2.resolve_right (C.noI g)
  refine ⟨h1, fun hF => ?_, C.noI g, ?_⟩
  · have := C.fb g hF
    exact absurd this (Nat.not_lt.2 hB)
  · rintro ⟨d', o', v', hd', k1, k2, k3, k4⟩
    exact h.sep d d' ob o' v v' g ho k1 hown k2 (fun e => hd' (e ▸ hd)) hv k3 hb k4

/-- An object's row as a frozen slice, the object let in. -/
theorem row_snap (h : Rel C S θ a w) {d : Nat} {own : Bool} {e : TypeId} {k : IntKind} {xs : List Int} {v : Value} (ho : S.obj d = some (.row own e k xs)) (hv : θ d = some v) : CV w (okX C w S θ [d]) θ (.fs k xs) v := by
  have hov := h.objs d _ ho
  obtain ⟨v', v1, v2, v3⟩ := hov
  rw [hv] at v1
  cases v1
  cases own with
  | false => exact CV_mono (keepsOk fun b hb => okX_of_ok hb) _ _ (v3 rfl)
  | true =>
    rcases (v2 rfl).2 with ⟨rfl, q2⟩ | ⟨g, cap, cur, fr, rfl, q2, q3, q4, q5, q6, q7, q8⟩
    · have : xs = [] := List.eq_nil_of_length_eq_zero q2
      subst this
      exact ⟨none, 0, rfl, Nat.le_refl _, fun h => by simp at h⟩
    · exact ⟨_, cap, rfl, q5, fun _ => ⟨_, rfl, own_okX h ho rfl hv rfl (by simp), (v2 rfl).cells.1⟩⟩

theorem rows_snap (h : Rel C S θ a w) {d : Nat} {own : Bool} {e : TypeId} {s : Sh} {xs : List AV} {v : Value} (ho : S.obj d = some (.rows own e s xs)) (hv : θ d = some v) : CV w (okX C w S θ [d]) θ (.fv s xs) v := by
  have hov := h.objs d _ ho
  obtain ⟨v', v1, hw, v2, v3⟩ := hov
  rw [hv] at v1
  cases v1
  cases own with
  | false => exact CV_mono (keepsOk fun b hb => okX_of_ok hb) _ _ (v3 rfl)
  | true =>
    obtain ⟨cs, hcs, hrow⟩ := v2 rfl
    have hcs' := CVs_mono (keepsOk fun b hb => okX_of_ok (l := [d]) hb) _ _ hcs
    rcases hrow.2 with ⟨rfl, q2⟩ | ⟨g, cap, cur, fr, rfl, q2, q3, q4, q5, q6, q7, q8⟩
    · have : xs = [] := List.eq_nil_of_length_eq_zero q2
      subst this
      exact ⟨none, 0, cs, rfl, Nat.le_refl _, hw, hcs', fun h => by simp at h⟩
    · exact ⟨_, cap, cs, rfl, q5, hw, hcs', fun _ => ⟨_, rfl, own_okX h ho rfl hv rfl (by simp), hrow.cells.1⟩⟩

theorem shEq_eq : ∀ {s t : Sh}, shEq s t = true → s = t := by
  intro s
  exact Sh.rec (motive_1 := fun s => ∀ t, shEq s t = true → s = t) (motive_2 := fun l => ∀ m, shsEq l m = true → l = m)
    (fun k t h => by cases t <;> first | (simp [shEq] at h; done) | (simp only [shEq, beq_iff_eq] at h; rw [h]))
    (fun t h => by cases t <;> first | rfl | (simp [shEq] at h; done))
    (fun t h => by cases t <;> first | rfl | (simp [shEq] at h; done))
    (fun k n t h => by
      cases t <;> first | (simp [shEq] at h; done) | skip
      simp only [shEq, Bool.and_eq_true, beq_iff_eq] at h
      rw [h.1, Nat.eq_of_beq_eq_true h.2])
    (fun l ih t h => by
      cases t <;> first | (simp [shEq] at h; done) | skip
      rw [ih _ (by simpa [shEq] using h)])
    (fun k t h => by cases t <;> first | (simp [shEq] at h; done) | (simp only [shEq, beq_iff_eq] at h; rw [h]))
    (fun s ih t h => by
      cases t <;> first | (simp [shEq] at h; done) | skip
      rw [ih _ (by simpa [shEq] using h)])
    (fun m h => by cases m <;> first | rfl | (simp [shsEq] at h; done))
    (fun s l ih1 ih2 m h => by
      cases m with
      | nil => simp [shsEq] at h
      | cons t m =>
        simp only [shsEq, Bool.and_eq_true] at h
        rw [ih1 _ h.1, ih2 _ h.2])
    s _

/-- What a way of making values data does. -/
def SnapOk (C : Ctx) (S S' : St) (θ : Nat → Option Value) (w : World) (n : Nat) (s : Sh) (f : AV → (AV → List Nat → Pg) → Pg) : Prop :=
  ∀ u v K, CV w (okOf C w S θ) θ u v → (f u K).exe n S = some S' → ∃ u' l, (K u' l).exe n S = some S' ∧ WT s u' ∧ CV w (okX C w S θ l) θ u' v

theorem snapL_ok {s : Sh} {f : AV → (AV → List Nat → Pg) → Pg} (hf : SnapOk C S S' θ w n s f) : ∀ (us : List AV) (cs : List Value) (K : List AV → List Nat → Pg), CVs w (okOf C w S θ) θ us cs → (snapL f us K).exe n S = some S' →
    ∃ us' l, (K us' l).exe n S = some S' ∧ us'.length = us.length ∧ (∀ x ∈ us', WT s x) ∧ CVs w (okX C w S θ l) θ us' cs
  | [], cs, K, hc, hh => ⟨[], [], hh, rfl, (fun x hx => by cases hx), hc⟩
  | u :: us, cs, K, hc, hh => by
    obtain ⟨v, rest, rfl, hs, h1, h2⟩ := hc
    simp only [snapL] at hh
    obtain ⟨u', l, hk, hw, hcv⟩ := hf u v _ h1 hh
    obtain ⟨us', l', hk', hlen, hws, hcvs⟩ := snapL_ok hf us rest _ h2 hk
    refine ⟨u' :: us', l ++ l', hk', by simp [hlen], ?_, v, rest, rfl, ?_, ?_, ?_⟩
    · intro x hx
      rcases List.mem_cons.1 hx with rfl | hx
      · exact hw
      · exact hws x hx
    · exact CV_size (WT_stor hw) hcv
    · exact CV_mono (keepsOk fun b hb => okX_mono (fun d hd => List.mem_append_left _ hd) hb) _ _ hcv
    · exact CVs_mono (keepsOk fun b hb => okX_mono (fun d hd => List.mem_append_right _ hd) hb) _ _ hcvs

theorem snapZ_ok {f : Sh → AV → (AV → List Nat → Pg) → Pg} (hf : ∀ s, SnapOk C S S' θ w n s (f s)) : ∀ (ss : List Sh) (us : List AV) (cs : List Value) (K : List AV → List Nat → Pg), CVs w (okOf C w S θ) θ us cs → (snapZ f ss us K).exe n S = some S' →
    ∃ us' l, (K us' l).exe n S = some S' ∧ WTs ss us' ∧ CVs w (okX C w S θ l) θ us' cs
  | [], [], cs, K, hc, hh => ⟨[], [], hh, rfl, hc⟩
  | [], _ :: _, cs, K, hc, hh => (exe_fail hh).elim
  | _ :: _, [], cs, K, hc, hh => (exe_fail hh).elim
  | s :: ss, u :: us, cs, K, hc, hh => by
    obtain ⟨v, rest, rfl, hs, h1, h2⟩ := hc
    simp only [snapZ] at hh
    obtain ⟨u', l, hk, hw, hcv⟩ := hf s u v _ h1 hh
    obtain ⟨us', l', hk', hws, hcvs⟩ := snapZ_ok hf ss us rest _ h2 hk
    refine ⟨u' :: us', l ++ l', hk', ⟨u', us', rfl, hw, hws⟩, v, rest, rfl, ?_, ?_, ?_⟩
    · exact CV_size (WT_stor hw) hcv
    · exact CV_mono (keepsOk fun b hb => okX_mono (fun d hd => List.mem_append_left _ hd) hb) _ _ hcv
    · exact CVs_mono (keepsOk fun b hb => okX_mono (fun d hd => List.mem_append_right _ hd) hb) _ _ hcvs

theorem WT_fs {k : IntKind} {xs : List Int} : WT (.fs k) (.fs k xs) := ⟨xs, rfl⟩
theorem WT_fv {s : Sh} {xs : List AV} : WT (.fv s) (.fv s xs) := ⟨xs, rfl⟩

theorem snap_ok (h : Rel C S θ a w) : ∀ (m : Nat) (s : Sh), SnapOk C S S' θ w n s (snap m s)
  | 0, s, u, v, K, hu, hh => (exe_fail hh).elim
  | m + 1, s, u, v, K, hu, hh => by
    unfold snap at hh
    split at hh
    · -- nils
      rename_i kd
      have hv : v = .slice none 0 0 := hu
      exact ⟨_, _, hh, WT_fs, none, 0, hv, Nat.le_refl _, fun h => by simp at h⟩
    · -- own
      rename_i kd d
      obtain ⟨hd, _⟩ := hu
      replace hh := exe_obj hh
      cases hob : S.obj d with
      | none => rw [hob] at hh; exact (exe_fail hh).elim
      | some ob =>
        rw [hob] at hh
        cases ob <;> first | exact (exe_fail hh).elim | skip
        obtain ⟨hz, hh1⟩ := exe_must hh
        have := eq_of_beq hz
        subst this
        exact ⟨_, _, hh1, WT_fs, row_snap h hob hd⟩
    · -- win
      rename_i kd d sz off len
      obtain ⟨A, c, rfl, hc, hl⟩ := hu
      replace hh := exe_obj hh
      cases hob : S.obj d with
      | none => rw [hob] at hh; exact (exe_fail hh).elim
      | some ob =>
        rw [hob] at hh
        cases ob <;> first | exact (exe_fail hh).elim | skip
        rename_i own e k' xs
        obtain ⟨hz, hh1⟩ := exe_must hh
        obtain ⟨hr, hh2⟩ := exe_chk hh1
        simp only [Bool.and_eq_true, beq_iff_eq] at hz
        obtain ⟨hk, hs⟩ := hz
        subst hk
        have hs := Nat.eq_of_beq_eq_true hs
        subst hs
        have hr := Nat.le_of_ble_eq_true hr
        have hlen : ((xs.drop off).take len).length = len := by simp; omega
        refine ⟨_, _, hh2, WT_fs, A, c, by rw [hlen], by omega, fun h0 => ?_⟩
        rw [hlen] at h0
        obtain ⟨g, m', c', hd, hle, rfl⟩ := hl h0
        have hsn := row_snap h hob hd
        obtain ⟨A', c2, q1, q2, q3⟩ := hsn
        cases q1
        obtain ⟨ad, q4, q5, q6⟩ := q3 (by omega)
        cases q4
        refine ⟨_, rfl, q5, ?_⟩
        rw [ints_drop_take]
        have := cellsAt_take q6 off len
        rw [add_lit] at this
        simpa using this
    · -- wina
      rename_i kd d oo mm off len
      obtain ⟨A, c, rfl, hc, hle, hl⟩ := hu
      replace hh := exe_obj hh
      cases hob : S.obj d with
      | none => rw [hob] at hh; exact (exe_fail hh).elim
      | some ob =>
        rw [hob] at hh
        cases ob <;> first | exact (exe_fail hh).elim | skip
        rename_i tr
        simp only at hh
        split at hh <;> first | exact (exe_fail hh).elim | skip
        rename_i k' m' xs hr
        obtain ⟨hz, hh1⟩ := exe_must hh
        obtain ⟨hr2, hh2⟩ := exe_chk hh1
        simp only [Bool.and_eq_true, beq_iff_eq] at hz
        obtain ⟨hk, hs⟩ := hz
        subst hk
        have hs := Nat.eq_of_beq_eq_true hs
        subst hs
        obtain ⟨g', e, fr, vb, h1, h2, h3, h4, h5, h6⟩ := h.objs d _ hob
        obtain ⟨va, us, ws, k1, k2, ⟨k3, rfl⟩, k4, k5, k6⟩ := getAt_ok tr h4 h5 hr
        have hlen : ((xs.drop off).take len).length = len := by simp; omega
        refine ⟨_, _, hh2, WT_fs, A, c, by rw [hlen], by omega, fun h0 => ?_⟩
        rw [hlen] at h0
        obtain ⟨g, hd, rfl⟩ := hl h0
        have hgg : g = g' := by rw [hd] at h1; cases h1; rfl
        subst hgg
        refine ⟨_, rfl, own_okX h hob rfl hd rfl (by simp), ?_⟩
        have hcb := cellsAt_block h2
        rw [k1] at hcb
        have hcb' := cellsAt_left (cellsAt_right hcb)
        rw [add_lit, Nat.zero_add, k2] at hcb'
        have hcb2 : cellsAt w ⟨g, oo, none⟩ (ints kd xs) := by simpa [Value.cells] using hcb'
        have := cellsAt_take hcb2 off len
        rw [add_lit] at this
        rw [ints_drop_take]
        exact this
    · -- nils
      rename_i s'
      have hv : v = .slice none 0 0 := hu
      exact ⟨_, _, hh, WT_fv, none, 0, [], hv, Nat.le_refl _, (fun x hx => by cases hx), rfl, fun h => by simp at h⟩
    · -- fv
      rename_i s' s'' xs
      obtain ⟨hz, hh1⟩ := exe_must hh
      have := shEq_eq hz
      subst this
      exact ⟨_, _, hh1, WT_fv, CV_mono (keepsOk fun b hb => okX_of_ok hb) _ _ hu⟩
    · -- own of elements
      rename_i s' d
      obtain ⟨hd, A, m', c, hv⟩ := hu
      replace hh := exe_obj hh
      cases hob : S.obj d with
      | none => rw [hob] at hh; exact (exe_fail hh).elim
      | some ob =>
        rw [hob] at hh
        cases ob <;> first | exact (exe_fail hh).elim | skip
        · obtain ⟨hz, hh1⟩ := exe_must hh
          have := shEq_eq hz
          subst this
          exact ⟨_, _, hh1, WT_fv, rows_snap h hob hd⟩
        · rename_i e s'' vs
          obtain ⟨hz, hh1⟩ := exe_must hh
          have := shEq_eq hz
          subst this
          obtain ⟨v', cs, h1, h2, h3, h4⟩ := h.objs d _ hob
          rw [hd] at h1
          cases h1
          obtain ⟨vs', l, hk, hlen, hw, hcs⟩ := snapL_ok (snap_ok h m s') vs cs _ h2 hh1
          refine ⟨_, _, hk, WT_fv, ?_⟩
          have hcs' := CVs_mono (keepsOk fun b hb => okX_mono (l' := d :: l) (fun x hx => List.mem_cons_of_mem _ hx) hb) _ _ hcs
          rcases h4.2 with ⟨q1, q2⟩ | ⟨g, cap, cur, fr, q1, q2, q3, q4, q5, q6, q7, q8⟩
          · refine ⟨none, 0, cs, by rw [q1, hlen, q2], by omega, hw, hcs', fun h => by omega⟩
          · refine ⟨_, cap, cs, by rw [q1, hlen], by omega, hw, hcs', fun _ => ⟨_, rfl, own_okX h hob rfl hd (by rw [q1]; rfl) (by simp), ?_⟩⟩
            rw [q1] at h4
            exact h4.cells.1
    · -- win of elements
      rename_i s' d sz off len
      obtain ⟨A, c, rfl, hc, hl⟩ := hu
      replace hh := exe_obj hh
      cases hob : S.obj d with
      | none => rw [hob] at hh; exact (exe_fail hh).elim
      | some ob =>
        rw [hob] at hh
        cases ob <;> first | exact (exe_fail hh).elim | skip
        rename_i own e s'' xs
        obtain ⟨hz, hh1⟩ := exe_must hh
        obtain ⟨hr, hh2⟩ := exe_chk hh1
        simp only [Bool.and_eq_true] at hz
        have := shEq_eq hz.1
        subst this
        have hs := Nat.eq_of_beq_eq_true hz.2
        subst hs
        have hr := Nat.le_of_ble_eq_true hr
        have hlen : ((xs.drop off).take len).length = len := by simp; omega
        have hov := h.objs d _ hob
        have hθ : ∃ vd, θ d = some vd := by obtain ⟨v, h1, _⟩ := hov; exact ⟨v, h1⟩
        obtain ⟨vd, hvd⟩ := hθ
        have hsn := rows_snap h hob hvd
        obtain ⟨A', c2, cs, q1, q2, hw, hcs, q3⟩ := hsn
        refine ⟨_, _, hh2, WT_fv, A, c, _, by rw [hlen], by omega, fun x hx => hw x (List.mem_of_mem_drop (List.mem_of_mem_take hx)), CVs_cut hcs hw (by omega), fun h0 => ?_⟩
        rw [hlen] at h0
        obtain ⟨g, m', c', hd, hle, rfl⟩ := hl h0
        rw [hvd] at hd
        cases hd
        cases q1
        obtain ⟨ad, q4, q5, q6⟩ := q3 (by omega)
        cases q4
        refine ⟨_, rfl, q5, ?_⟩
        have := cellsAt_take q6 (off * s'.width) (len * s'.width)
        rw [add_lit] at this
        simpa using this
    · -- agg
      rename_i l cs
      obtain ⟨vs, rfl, hcs⟩ := hu
      obtain ⟨cs', ll, hk, hw, hcv⟩ := snapZ_ok (fun s => snap_ok h m s) l cs vs.toList _ hcs hh
      exact ⟨_, _, hk, ⟨cs', rfl, hw⟩, vs, rfl, hcv⟩
    · obtain ⟨hz, hh1⟩ := exe_must hh
      exact ⟨_, _, hh1, shOk_WT hz, CV_mono (keepsOk fun b hb => okX_of_ok hb) _ _ hu⟩
end
end Go.Am
