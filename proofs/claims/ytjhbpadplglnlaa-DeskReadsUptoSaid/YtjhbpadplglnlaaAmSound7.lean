/-
  AM: the operations are sound, part 7: what is frozen, made, joined.
-/
import Derived.Test.YtjhbpadplglnlaaAmSound6
import Derived.Laws.BytesArg
import Derived.Lib.ConvBytes
import Derived.Laws.Tables
import Derived.Laws.MakeOwn
set_option linter.unusedVariables false
set_option linter.unusedSimpArgs false
namespace Go.Am
open Go.RowKit

mutual
theorem fit_WT : ∀ (s : Sh) (x : AV), fitA s x = true → WT s x
  | .int k, x, h => by
    cases x with
    | int k' n => have : k = k' := by simpa [fitA] using h
                  exact ⟨n, by rw [this]⟩
    | _ => cases (show false = true from h)
  | .bool, x, h => by
    cases x with
    | bool b => exact ⟨b, rfl⟩
    | _ => cases (show false = true from h)
  | .str, x, h => by
    cases x with
    | str b => exact ⟨b, rfl⟩
    | _ => cases (show false = true from h)
  | .arr k n, x, h => by
    cases x with
    | arr k' n' xs => have : k = k' ∧ n = n' := by simpa [fitA] using h
                      exact ⟨xs, by rw [this.1, this.2]⟩
    | _ => cases (show false = true from h)
  | .agg l, x, h => by
    cases x with
    | agg cs => exact ⟨cs, rfl, fits_WT l cs h⟩
    | _ => cases (show false = true from h)
  | .fs k, x, h => by
    cases x with
    | fs k' xs => have : k = k' := by simpa [fitA] using h
                  exact ⟨xs, by rw [this]⟩
    | _ => cases (show false = true from h)
  | .fv s, x, h => by
    cases x with
    | fv s' xs => have : s = s' := shEq_eq h
                  exact ⟨xs, by rw [this]⟩
    | _ => cases (show false = true from h)
theorem fits_WT : ∀ (l : List Sh) (cs : List AV), fitsA l cs = true → WTs l cs
  | [], cs, h => by
    cases cs with
    | nil => rfl
    | cons => cases (show false = true from h)
  | s :: l, cs, h => by
    cases cs with
    | nil => cases (show false = true from h)
    | cons c cs =>
      have h : (fitA s c && fitsA l cs) = true := h
      rw [Bool.and_eq_true] at h
      exact ⟨c, cs, rfl, fit_WT s c h.1, fits_WT l cs h.2⟩
end

theorem fitAll_WT {s : Sh} : ∀ {xs : List AV}, fitAll s xs = true → ∀ x ∈ xs, WT s x
  | [], _, x, hx => by simp at hx
  | y :: ys, h, x, hx => by
    simp only [fitAll, Bool.and_eq_true] at h
    rcases List.mem_cons.1 hx with rfl | hx
    · exact fit_WT _ _ h.1
    · exact fitAll_WT h.2 x hx

section
variable {C : Ctx} {S S' : St} {θ θ' : Nat → Option Value} {a : Act} {w w' : World} {ok : Nat → Prop}

theorem CVs_ints {k : IntKind} : ∀ {vs : List AV} {cs : List Value}, (∀ x ∈ vs, WT (.int k) x) → CVs w ok θ vs cs → cs = ints k (vs.map AV.toInt)
  | [], cs, _, h => h
  | x :: vs, cs, hw, h => by
    obtain ⟨v, rest, rfl, hs, h1, h2⟩ := h
    obtain ⟨n, rfl⟩ := hw x (by simp)
    have h1 : v = .int k n := h1
    subst h1
    rw [CVs_ints (fun y hy => hw y (by simp [hy])) h2]
    rfl

theorem asRow_ok (h : Rel C S θ a w) {d : Nat} {o : Ob} {k : IntKind} {e : TypeId} {xs : List Int} (ho : S.obj d = some o) (hr : asRow k o = some (e, xs)) :
    o.isOwn = true ∧ ∃ v, θ d = some v ∧ OwnRow w C.B e 1 v xs.length (ints k xs) := by
  unfold asRow at hr
  split at hr
  · split at hr <;> first | (cases hr; done) | skip
    rename_i hk
    cases hr
    have hk := beq_iff_eq.1 hk
    subst hk
    obtain ⟨v, h1, h2, _⟩ := h.objs _ _ ho
    exact ⟨rfl, v, h1, h2 rfl⟩
  · split at hr <;> first | (cases hr; done) | skip
    rename_i hk
    cases hr
    rw [Bool.and_eq_true] at hk
    have hk1 := beq_iff_eq.1 hk.1
    subst hk1
    obtain ⟨v, cs, h1, h2, _, h4⟩ := h.objs _ _ ho
    refine ⟨rfl, v, h1, ?_⟩
    rw [CVs_ints (fitAll_WT hk.2) h2] at h4
    rw [List.length_map]
    exact h4
  · cases hr

theorem asRows_ok (h : Rel C S θ a w) {d : Nat} {o : Ob} {s : Sh} {e : TypeId} {xs : List AV} (ho : S.obj d = some o) (hr : asRows s o = some (e, xs)) :
    o.isOwn = true ∧ ∃ v cs, θ d = some v ∧ (∀ x ∈ xs, WT s x) ∧ CVs w (okOf C w S θ) θ xs cs ∧ OwnRow w C.B e s.width v xs.length cs := by
  unfold asRows at hr
  split at hr
  · split at hr <;> first | (cases hr; done) | skip
    rename_i hk
    cases hr
    have hk := shEq_eq hk
    subst hk
    obtain ⟨v, h1, h2, h3, _⟩ := h.objs _ _ ho
    obtain ⟨cs, h4, h5⟩ := h3 rfl
    exact ⟨rfl, v, cs, h1, h2, h4, h5⟩
  · split at hr <;> first | (cases hr; done) | skip
    rename_i hk
    cases hr
    rw [Bool.and_eq_true] at hk
    have hk1 := shEq_eq hk.1
    subst hk1
    obtain ⟨v, cs, h1, h2, _, h4⟩ := h.objs _ _ ho
    exact ⟨rfl, v, cs, h1, fitAll_WT hk.2, h2, h4⟩
  · cases hr
end

section
variable {C : Ctx} {S S' : St} {θ θ' : Nat → Option Value} {a : Act} {w w' : World} {ok : Nat → Prop}

theorem heap_freeze {g : Nat} {cur : Array Value} {e : TypeId} {fr : Nat × Nat} (hg : w.heap[g]? = some (.cells cur e fr)) (hf : Free cur fr) :
    ∃ fr', (w.freeze ⟨g, cur.size, none⟩ 1).heap[g]? = some (.cells cur e fr') ∧ Free cur fr' := by
  obtain ⟨lo, hi⟩ := fr
  obtain ⟨h1, h2⟩ := hf
  dsimp only at h1 h2
  have hh : (w.freeze ⟨g, cur.size, none⟩ 1).heap[g]? = some (.cells cur e (if lo == hi then (cur.size, cur.size + 1) else (min lo cur.size, max hi (cur.size + 1)))) := by
    unfold World.freeze
    rw [if_neg (by decide)]
    simp only [Array.getElem?_modify, if_true, hg, Option.map_some]
  refine ⟨_, hh, ?_⟩
  by_cases he : lo = hi
  · subst he
    simp only [beq_self_eq_true, if_true]
    exact ⟨Nat.le_succ _, fun o ho hq => by have := hq.1; dsimp only at this; omega⟩
  · have : (lo == hi) = false := by simpa using he
    simp only [this, Bool.false_eq_true, if_false]
    have hlo : cur.size ≤ lo := by
      rcases Nat.lt_or_ge lo cur.size with h3 | h3
      · exact (h2 lo h3 ⟨Nat.le_refl _, by omega⟩).elim
      · exact h3
    exact ⟨by dsimp only; omega, fun o ho hq => by have := hq.1; dsimp only at this; omega⟩

theorem heap_freeze_other {g b n : Nat} (h : b ≠ g) : (w.freeze ⟨g, n, none⟩ 1).heap[b]? = w.heap[b]? := by
  unfold World.freeze
  rw [if_neg (by decide)]
  simp only [Array.getElem?_modify, if_neg (Ne.symm h)]

theorem OwnRow.mark {B : Nat} {e : TypeId} {size n : Nat} {v : Value} {cs : List Value} {g m c : Nat} {cur : Array Value} {e' : TypeId} {fr : Nat × Nat} (h : OwnRow w B e size v n cs) (hv : v = .slice (some ⟨g, 0, none⟩) m c)
    (hg : w.heap[g]? = some (.cells cur e' fr)) : OwnRow (w.freeze ⟨g, cur.size, none⟩ 1) B e size v n cs := by
  refine ⟨h.1, ?_⟩
  rcases h.2 with ⟨h1, _⟩ | ⟨g1, cap, cur1, fr1, h1, h2, h3, h4, h5⟩
  · rw [hv] at h1; cases h1
  · rw [hv] at h1
    cases h1
    rw [hg] at h3
    cases h3
    obtain ⟨fr', k1, k2⟩ := heap_freeze hg h4
    exact .inr ⟨g, c, cur, fr', hv, h2, k1, k2, h5⟩

/-- The run-time's mark behind an own row's last cell. -/
theorem Rel.marked (h : Rel C S θ a w) {d : Nat} {ob : Ob} {k : IntKind} {e : TypeId} {xs : List Int} (ho : S.obj d = some ob) (hr : asRow k ob = some (e, xs)) {g m c : Nat} {cur : Array Value} {fr : Nat × Nat}
    (hv : θ d = some (.slice (some ⟨g, 0, none⟩) m c)) (hg : w.heap[g]? = some (.cells cur e fr)) : Rel C S θ a (w.freeze ⟨g, cur.size, none⟩ 1) := by
  obtain ⟨hown, _⟩ := asRow_ok h ho hr
  have e1 : (w.freeze ⟨g, cur.size, none⟩ 1).os = w.os ∧ (w.freeze ⟨g, cur.size, none⟩ 1).tape = w.tape ∧ (w.freeze ⟨g, cur.size, none⟩ 1).output = w.output ∧ (w.freeze ⟨g, cur.size, none⟩ 1).heap.size = w.heap.size := by
    unfold World.freeze
    rw [if_neg (by decide)]
    exact ⟨rfl, rfl, rfl, by simp⟩
  refine h.turn (fun i => i = d) (fun b => b = g) rfl (fun _ _ => ⟨rfl, rfl⟩) (fun _ _ h => h) e1.1 e1.2.1 e1.2.2.1 (by omega) (fun b _ hb => heap_freeze_other hb) ?_ ?_ ?_ ?_ ?_ ?_
  · rintro b rfl
    exact ⟨d, ob, _, rfl, ho, hown, hv, rfl⟩
  · rintro d' o v b rfl h1 h2 h3 h4
    exact .inr ⟨d', o, v, rfl, h1, h2, h3, h4⟩
  · rintro d1 d2 o o' v v' b rfl rfl _ _ _ _ hne
    exact (hne rfl).elim
  · rintro d' rfl hn
    rw [ho] at hn; cases hn
  · rintro d' v rfl h1
    exact h.base _ _ h1
  · rintro hk d' o rfl h1
    rw [ho] at h1
    cases h1
    have hov := h.objs _ _ ho
    cases ob with
    | dead => cases hr
    | box t => cases hr
    | rows own e s xs => cases hr
    | row own e k xs =>
      cases own with
      | false => cases hr
      | true =>
        obtain ⟨v, h1, h2, h3⟩ := hov
        rw [hv] at h1
        cases h1
        exact ⟨_, hv, fun _ => (h2 rfl).mark rfl hg, fun h => by cases h⟩
    | lit e s vs =>
      obtain ⟨v, cs, h1, h2, h3, h4⟩ := hov
      rw [hv] at h1
      cases h1
      exact ⟨_, cs, hv, CVs_mono hk _ _ h2, h3, h4.mark rfl hg⟩
end

section
variable {C : Ctx} {S S' : St} {θ θ' : Nat → Option Value} {a : Act} {w w' : World} {n : Nat} {ok : Nat → Prop} {P : Program} {o : Oper}

theorem okX_setObj {d : Nat} {o' : Ob} (ho : o'.isOwn = false) {l : List Nat} {b : Nat} (h : okX C w S θ (d :: l) b) : okX C w (S.setObj d o') θ l b := by
  refine ⟨h.1, h.2.1, h.2.2.1, ?_⟩
  rintro ⟨d', ob, v, h1, h2, h3, h4, h5⟩
  by_cases e : d' = d
  · subst e
    rw [obj_setObj_same] at h2
    cases h2
    rw [ho] at h3
    cases h3
  · rw [obj_setObj_other _ _ _ _ e] at h2
    exact h.2.2.2 ⟨d', ob, v, by simp [e, h1], h2, h3, h4, h5⟩

theorem ok_of_okX {b : Nat} (h : okX C w S θ [] b) : okOf C w S θ b := ⟨h.1, h.2.1, h.2.2.1, fun ⟨d, ob, v, h1⟩ => h.2.2.2 ⟨d, ob, v, by simp, h1⟩⟩

theorem Rel.freeze (h : Rel C S θ a w) {d : Nat} {ob o' : Ob} (ho : S.obj d = some ob) (hn : o'.isOwn = false) (hob : OV C w (okX C w S θ [d]) θ d o') : Rel C (S.setObj d o') θ a w := by
  refine h.turn (fun i => i = d) (fun _ => False) rfl (fun i hi => ⟨obj_setObj_other _ _ _ _ hi, rfl⟩) (fun _ _ h => h) rfl rfl rfl (Nat.le_refl _) (fun _ _ _ => rfl) (fun _ h => h.elim) ?_ ?_ ?_ (fun i u _ hu => h.base i u hu) ?_
  · rintro i o₁ u b rfl h1 h2
    rw [obj_setObj_same] at h1
    cases h1
    rw [hn] at h2
    cases h2
  · rintro i j o₁ o₂ u u' b rfl rfl _ _ _ _ hne
    exact (hne rfl).elim
  · rintro i rfl hi
    rw [obj_setObj_same] at hi
    cases hi
  · rintro hk i o₁ rfl h1
    rw [obj_setObj_same] at h1
    cases h1
    exact OV.mono (keepsOk fun b hb => ok_of_okX (okX_setObj hn hb)) hob (fun _ _ _ _ _ => rfl)

theorem freezeL_ok : ∀ (l : List Nat) {S : St} {p : Pg}, Rel C S θ a w → (freezeL l p).exe n S = some S' →
    ∃ S1, Rel C S1 θ a w ∧ p.exe n S1 = some S' ∧ (∀ b, okX C w S θ l b → okOf C w S1 θ b) ∧ (∀ b, okOf C w S θ b → okOf C w S1 θ b) ∧ (∀ d, S.obj d = none → S1.obj d = none) ∧ S1.tm = S.tm ∧
      (∀ d, d ∉ l → S1.obj d = S.obj d)
  | [], S, p, h, hh => ⟨S, h, hh, fun b hb => ok_of_okX hb, fun b hb => hb, fun d hd => hd, rfl, fun _ _ => rfl⟩
  | d :: l, S, p, h, hh => by
    simp only [freezeL] at hh
    replace hh := exe_obj hh
    cases hob : S.obj d with
    | none => rw [hob] at hh; exact (exe_fail hh).elim
    | some ob =>
      rw [hob] at hh
      have step : ∀ o' : Ob, o'.isOwn = false → OV C w (okX C w S θ [d]) θ d o' → (freezeL l p).exe n (S.setObj d o') = some S' →
          ∃ S1, Rel C S1 θ a w ∧ p.exe n S1 = some S' ∧ (∀ b, okX C w S θ (d :: l) b → okOf C w S1 θ b) ∧ (∀ b, okOf C w S θ b → okOf C w S1 θ b) ∧ (∀ d, S.obj d = none → S1.obj d = none) ∧ S1.tm = S.tm ∧
            (∀ d', d' ∉ d :: l → S1.obj d' = S.obj d') := by
        intro o' hn hov hk
        have h1 := h.freeze hob hn hov
        obtain ⟨S1, k1, k2, k3, k4, k5, k6, k7⟩ := freezeL_ok l h1 hk
        refine ⟨S1, k1, k2, fun b hb => k3 b (okX_setObj hn hb), fun b hb => k4 b (ok_of_okX (okX_setObj hn (okX_of_ok hb))), fun d' hd' => k5 d' ?_, k6, fun d' hd' => ?_⟩
        · by_cases e : d' = d
          · subst e; rw [hob] at hd'; cases hd'
          · rw [obj_setObj_other _ _ _ _ e]; exact hd'
        · simp only [List.mem_cons, not_or] at hd'
          rw [k7 d' hd'.2, obj_setObj_other _ _ _ _ hd'.1]
      have hθ : ob ≠ .dead → (∀ t, ob ≠ .box t) → ∃ v, θ d = some v := by
        intro h1 h2
        have hov := h.objs d ob hob
        cases ob with
        | dead => exact (h1 rfl).elim
        | box t => exact (h2 t rfl).elim
        | row => obtain ⟨v, hv, _⟩ := hov; exact ⟨v, hv⟩
        | rows => obtain ⟨v, hv, _⟩ := hov; exact ⟨v, hv⟩
        | lit => obtain ⟨v, _, hv, _⟩ := hov; exact ⟨v, hv⟩
      cases ob <;> first | exact (exe_fail hh).elim | skip
      · rename_i own e k xs
        obtain ⟨v, hv⟩ := hθ (by simp) (by simp)
        exact step (.row false e k xs) rfl ⟨v, hv, (fun h => by cases h), fun _ => row_snap h hob hv⟩ (exe_setObj hh)
      · rename_i own e s xs
        obtain ⟨v, hv⟩ := hθ (by simp) (by simp)
        have hsn := rows_snap h hob hv
        have hw : ∀ x ∈ xs, WT s x := by obtain ⟨_, _, hw, _⟩ := h.objs d _ hob; exact hw
        exact step (.rows false e s xs) rfl ⟨v, hv, hw, (fun h => by cases h), fun _ => hsn⟩ (exe_setObj hh)
      · exact step .dead rfl trivial (exe_setObj hh)

/-- A value becomes data that stays. -/
theorem frz_ok {s : Sh} {u : AV} {v : Value} {K : AV → Pg} (h : Rel C S θ a w) (hu : CV w (okOf C w S θ) θ u v) (hh : (frz s u K).exe n S = some S') :
    ∃ S1 u', Rel C S1 θ a w ∧ WT s u' ∧ CV w (okOf C w S1 θ) θ u' v ∧ (K u').exe n S1 = some S' ∧ (∀ b, okOf C w S θ b → okOf C w S1 θ b) ∧ (∀ d, S.obj d = none → S1.obj d = none) := by
  obtain ⟨u', l, hk, hw, hcv⟩ := snap_ok h 9 s u v _ hu hh
  obtain ⟨S1, k1, k2, k3, k4, k5, k6, _⟩ := freezeL_ok l h hk
  exact ⟨S1, u', k1, hw, CV_mono (keepsOk k3) _ _ hcv, k2, k4, k5⟩

theorem kindT_ok {e : TypeId} {k : IntKind} (h : kindT P e = some k) : P.underlying e = some (.int k) := by
  unfold kindT at h
  split at h
  · cases h; assumption
  · cases h
theorem elemT_ok {t e : TypeId} (h : elemT P t = some e) : P.underlying t = some (.slice e) := by
  unfold elemT at h
  split at h
  · cases h; assumption
  · cases h

theorem run_bytesToString {xs : List Int} {A : Option Addr} {c : Nat} (hl : 0 < xs.length → ∃ ad, A = some ad ∧ cellsAt w ad (ints .u8 xs)) :
    (Conv.bytesToString (.slice A xs.length c)).run P w = .ok (.string ⟨(xs.map toU8).toArray⟩) w := by
  cases A with
  | none =>
    have : xs = [] := by
      rcases Nat.eq_zero_or_pos xs.length with h0 | h0
      · exact List.eq_nil_of_length_eq_zero h0
      · obtain ⟨ad, h, _⟩ := hl h0; cases h
    subst this
    rfl
  | some ad =>
    have hc : cellsAt w ad (ints .u8 xs) := by
      rcases Nat.eq_zero_or_pos xs.length with h0 | h0
      · have : xs = [] := List.eq_nil_of_length_eq_zero h0
        subst this
        intro j u hj
        simp [ints] at hj
      · obtain ⟨ad', h, h2⟩ := hl h0; cases h; exact h2
    have := run_loadCells' (P := P) hc
    rw [ints_length] at this
    rw [Go.run_bytesToString (P := P) w ad xs.length c xs this, foldl_push_bytes]
    simp [toU8]

theorem opConvert_ok {src dst : TypeId} {x : Operand} {u : AV} (ho : o.op = .convert src dst x) (h : Rel C S θ a w) (hu : CV w (okOf C w S θ) θ u (a.eval x)) (hh : (opConvert P o src dst u).exe n S = some S') : Does P C S' o a w := by
  unfold opConvert at hh
  split at hh <;> first | exact (exe_fail hh).elim | skip
  · rename_i k hd
    split at hh <;> first | exact (exe_fail hh).elim | skip
    rename_i k' m d' hs
    have hx : a.eval x = .int k' m := hu
    refine Does.value (v := .int k (k.wrap m)) ?_ (put_ok' hh h rfl)
    simp only [execOp, ho, convert, Sem.run_bind, run_underlying hs, run_underlying hd, Result.andThen_ok, hx]
    cases d' <;> simp [Conv.intToInt]
  · rename_i hd
    split at hh <;> first | exact (exe_fail hh).elim | skip
    · rename_i hs
      split at hh <;> first | exact (exe_fail hh).elim | skip
      rename_i l
      have hx : a.eval x = .string ⟨l.toArray⟩ := hu
      refine Does.value (v := .string ⟨l.toArray⟩) ?_ (put_ok' hh h rfl)
      simp only [execOp, ho, convert, Sem.run_bind, run_underlying hs, run_underlying hd, Result.andThen_ok, hx, Sem.run_pure]
    · rename_i e hs
      split at hh <;> first | exact (exe_fail hh).elim | skip
      rename_i hk
      have hk' := kindT_ok hk
      obtain ⟨u', l, hk1, hw, hcv⟩ := snap_ok h 2 (.fs .u8) u _ _ hu hh
      obtain ⟨xs, rfl⟩ := hw
      obtain ⟨A, c, hx, hc, hl⟩ := hcv
      have hrun : (Conv.bytesToString (a.eval x)).run P w = .ok (.string ⟨(xs.map toU8).toArray⟩) w := by
        rw [hx]
        exact run_bytesToString (fun h0 => by obtain ⟨ad, q1, _, q2⟩ := hl h0; exact ⟨ad, q1, q2⟩)
      refine Does.value (v := .string ⟨(xs.map toU8).toArray⟩) ?_ (put_ok' hk1 h rfl)
      simp only [execOp, ho, convert, Sem.run_bind, run_underlying hs, run_underlying hd, Result.andThen_ok]
      rw [hx] at hrun ⊢
      simp only [run_underlying hk', Sem.run_bind, Result.andThen_ok, hrun, Sem.run_pure]
  · rename_i e hd
    split at hh <;> first | exact (exe_fail hh).elim | skip
    rename_i l hs hk
    have hx : a.eval x = .string ⟨l.toArray⟩ := hu
    have hk' := kindT_ok hk
    obtain ⟨hb, hh1⟩ := exe_chk hh
    have hb := Nat.le_of_ble_eq_true hb
    have hg1 := grownCap_ge w l.length 0 e
    have hg2 := grownCap_le_maxLen w l.length 0 e (by unfold maxLen; omega)
    have hsz : (⟨l.toArray⟩ : ByteArray).size = l.length := str_size l
    have hcl : (Lib.bytesCells w e ⟨l.toArray⟩).size = grownCap w l.length 0 e := by
      simp only [Lib.bytesCells, Array.size_append, Array.size_map, Array.size_replicate, hsz, List.size_toArray]
      omega
    have hbw : Below w.heap.size w (Lib.bytesWorld w e ⟨l.toArray⟩) := by
      refine ⟨?_, ?_, ?_, by rw [Lib.bytesWorld_size]; omega, fun j hj => Lib.bytesWorld_at_old w e _ j hj⟩ <;> (simp only [Lib.bytesWorld, World.freeze, Nat.succ_ne_self, if_false]; rfl)
    obtain ⟨θ', hr⟩ := newOb_ok (v := .slice (some ⟨w.heap.size, 0, none⟩) l.length (grownCap w l.length 0 e)) h hh1 hbw (by rintro g hg; cases hg; exact Nat.le_refl _) (base0_row _ _ _)
      (by
        intro d ok' θ' hk hd'
        refine ⟨_, hd', fun _ => ⟨by simp [ints], .inr ⟨w.heap.size, grownCap w l.length 0 e, _, _, by simp, h.size, Lib.bytesWorld_at_new w e _, ?_, by simpa using hg1, hg2, by rw [hcl, Nat.mul_one], ?_⟩⟩, fun h => by cases h⟩
        · refine ⟨by first | exact Nat.le_succ _ | simp | omega, fun p hp hq => ?_⟩
          have := hq.1
          simp only at this
          omega
        · simp only [Lib.bytesCells, Array.toList_append, Array.toList_map, List.length_map, Nat.mul_one]
          rw [List.take_left' (by simp)]
          simp [ints])
      (by intro d ok' θ' hd'; exact ⟨hd', _, _, _, rfl⟩)
    refine Does.value (v := .slice (some ⟨w.heap.size, 0, none⟩) l.length (grownCap w l.length 0 e)) ?_ hr
    have hrun := Lib.run_convert_string_bytes (P := P) w src dst e ⟨l.toArray⟩ hs hd hk'
    rw [hsz] at hrun
    simp only [execOp, ho, hx, Sem.run_bind, hrun, Result.andThen_ok, Sem.run_pure]
    · rename_i e1 d hs hk
      obtain ⟨hm, hh1⟩ := exe_must hh
      have hm : src = dst := by simpa using hm
      subst hm
      rw [hd] at hs
      cases hs
      have hk' := kindT_ok hk
      have hh2 := exe_obj hh1
      split at hh2 <;> first | exact (exe_fail hh2).elim | skip
      rename_i ob hob
      split at hh2 <;> first | exact (exe_fail hh2).elim | skip
      rename_i e2 x0 xs has
      obtain ⟨hown, v, hv, hrow⟩ := asRow_ok h hob has
      obtain ⟨hv', A, m, c, hx⟩ := hu
      rw [hv] at hv'
      cases hv'
      rcases hrow.2 with ⟨_, h0⟩ | ⟨g, cap, cur, fr, h1, h2, h3, h4, h5⟩
      · simp at h0
      · have hrel := h.marked hob has (h1 ▸ hv) h3
        refine Does.value (v := a.eval x) ?_ (put_ok' hh2 hrel ⟨hv, A, m, c, hx⟩)
        have hsh : w.shape? g = some (e2, cur.size) := by unfold World.shape?; rw [h3]
        simp only [execOp, ho, convert, Sem.run_bind, run_underlying hd, Result.andThen_ok, h1]
        simp [run_underlying hk', markStringish, hsh]

theorem foldSet (off : Nat) : ∀ (vs us old ws : List Value) (k : Nat), us.length = off + k → old.length = vs.length →
    (vs.zipIdx k).foldl (fun cs (x : Value × Nat) => cs.setIfInBounds (off + x.2) x.1) (us ++ (old ++ ws)).toArray = (us ++ (vs ++ ws)).toArray
  | [], us, old, ws, k, h1, h2 => by
    have : old = [] := List.eq_nil_of_length_eq_zero h2
    subst this
    rfl
  | v :: vs, us, old, ws, k, h1, h2 => by
    cases old with
    | nil => simp at h2
    | cons x old =>
      simp only [List.zipIdx_cons, List.foldl_cons]
      have e : (us ++ (x :: old ++ ws)).toArray.setIfInBounds (off + k) v = ((us ++ [v]) ++ (old ++ ws)).toArray := by
        apply Array.ext'
        rw [Array.toList_setIfInBounds, ← h1]
        simp
      rw [e, foldSet off vs (us ++ [v]) old ws (k + 1) (by simp [h1]; omega) (by simpa using h2)]
      simp

theorem setParts_fill {place : Nat → Option (Nat × Nat)} : ∀ (ps : List (Nat × AV)) (vals : List (Nat × Value)) {items items' : List AV} {cells : List Value},
    CVs w ok θ items cells → (∀ i c, items[i]? = some c → place i = some (AV.widths (items.take i), c.width)) → setParts items ps = some items' →
    vals.map (·.1) = ps.map (·.1) → CVt w ok θ (ps.map (·.2)) (vals.map (·.2)) →
    ∃ cells', Instr.fill place cells.toArray vals = some cells' ∧ CVs w ok θ items' cells'.toList
  | [], vals, items, items', cells, hc, hp, hs, hi, hv => by
    have : vals = [] := by simpa using hi
    subst this
    cases hs
    exact ⟨cells.toArray, rfl, by simpa using hc⟩
  | (i, x) :: ps, vals, items, items', cells, hc, hp, hs, hi, hv => by
    cases vals with
    | nil => simp at hi
    | cons q vals =>
      obtain ⟨j, v⟩ := q
      simp only [List.map_cons, List.cons.injEq] at hi
      obtain ⟨rfl, hi⟩ := hi
      obtain ⟨v', rest, e1, hv1, hv2⟩ := hv
      simp only [List.map_cons, List.cons.injEq] at e1
      obtain ⟨rfl, rfl⟩ := e1
      simp only [setParts] at hs
      split at hs <;> first | (cases hs; done) | skip
      rename_i c hc0
      split at hs <;> first | (cases hs; done) | skip
      rename_i hb
      simp only [Bool.and_eq_true] at hb
      have hw := Nat.eq_of_beq_eq_true hb.1
      have hsz : v.cells.size = x.width := CV_size hb.2 hv1
      obtain ⟨v0, us, ws, k1, k2, k3, k4, k5⟩ := CVs_set (y := x) hc hc0
      have hpl := hp j c hc0
      have hnew := k5 v hv1 hsz
      have hp' : ∀ i c', (items.set j x)[i]? = some c' → place i = some (AV.widths ((items.set j x).take i), c'.width) := by
        intro i c' hi'
        have hwt : AV.widths ((items.set j x).take i) = AV.widths (items.take i) := by
          rw [List.take_set]
          by_cases hlt : j < (items.take i).length
          · have hjt : (items.take i)[j]? = some c := by
              rw [List.getElem?_take]
              have : j < i := by simp at hlt; omega
              rw [if_pos this]; exact hc0
            rw [set_split _ _ _ hlt]
            have := self_split (items.take i) j hlt
            conv => rhs; rw [this]
            rw [widths_append, widths_append, widths_append, widths_append]
            have hjj : (items.take i)[j] = c := by
              have := List.getElem?_eq_getElem hlt
              rw [hjt] at this
              exact (Option.some.inj this).symm
            rw [hjj]
            simp only [AV.widths, hw]
          · rw [List.set_eq_of_length_le (by omega)]
        rw [hwt]
        by_cases e : j = i
        · subst e
          have hlt : j < items.length := (List.getElem?_eq_some_iff.1 hc0).1
          rw [List.getElem?_set_self hlt] at hi'
          cases hi'
          rw [hpl, hw]
        · rw [List.getElem?_set_ne e] at hi'
          exact hp i c' hi'
      obtain ⟨cells', q1, q2⟩ := setParts_fill ps vals hnew hp' hs hi hv2
      refine ⟨cells', ?_, q2⟩
      rw [← q1]
      simp only [Instr.fill, hpl]
      have hfit : ¬ (v.cells.size ≠ c.width || decide (AV.widths (items.take j) + v.cells.size > cells.toArray.size)) = true := by
        simp only [Bool.or_eq_true, decide_eq_true_eq, not_or]
        refine ⟨by simp [hsz, hw], ?_⟩
        have hsize : cells.toArray.size = us.length + (v0.cells.size + ws.length) := by rw [k1]; simp
        omega
      simp only [ne_eq, Bool.or_eq_true, decide_eq_true_eq] at hfit ⊢
      rw [if_neg (by simpa using hfit)]
      congr 1
      rw [k1, ← k2]
      have hz : ∀ (init : Array Value), v.cells.zipIdx.foldl (fun cs (x : Value × Nat) => cs.setIfInBounds (us.length + x.2) x.1) init = (v.cells.toList.zipIdx 0).foldl (fun cs (x : Value × Nat) => cs.setIfInBounds (us.length + x.2) x.1) init := by
        intro init
        rw [← Array.foldl_toList, Array.toList_zipIdx]
      rw [hz]
      exact foldSet us.length v.cells.toList us v0.cells.toList ws 0 (by simp) (by rw [Array.length_toList, Array.length_toList, k3, hw, hsz])

theorem laidOut_places : ∀ (fs : List Field) (cs : List AV) (off : Nat), laidOut P off fs cs = true →
    ∃ places, fs.mapM (fun f => (P.info? f.type).map fun i => (f.offset, i.size)) = some places ∧ ∀ i c, cs[i]? = some c → places[i]? = some (off + AV.widths (cs.take i), c.width)
  | [], [], off, h => ⟨[], rfl, fun i c hi => by simp at hi⟩
  | [], _ :: _, off, h => by simp [laidOut] at h
  | _ :: _, [], off, h => by simp [laidOut] at h
  | f :: fs, c :: cs, off, h => by
    simp only [laidOut, Bool.and_eq_true] at h
    obtain ⟨h1, h2, h3⟩ := h
    obtain ⟨ht, hs⟩ := szIs_ok h2
    obtain ⟨i, u, hi, hu⟩ := typOk_info ht
    have hs' : i.size = c.width := by simpa [sizeT, hi] using hs
    obtain ⟨places, hp, hq⟩ := laidOut_places fs cs (off + c.width) h3
    refine ⟨(f.offset, i.size) :: places, by simp [List.mapM_cons, hi, hp], ?_⟩
    intro j c' hj
    cases j with
    | zero =>
      cases hj
      rw [Nat.eq_of_beq_eq_true h1, hs']
      simp [AV.widths]
    | succ j =>
      simp only [List.getElem?_cons_succ] at hj ⊢
      rw [hq j c' hj]
      simp [AV.widths, Nat.add_assoc]

theorem setInts_fill {k : IntKind} : ∀ (ps : List (Nat × AV)) (vals : List (Nat × Value)) {xs xs' : List Int}, setInts k xs ps = some xs' → vals.map (·.1) = ps.map (·.1) → CVt w ok θ (ps.map (·.2)) (vals.map (·.2)) →
    Instr.fill (fun i => some (i * 1, 1)) (ints k xs).toArray vals = some (ints k xs').toArray ∧ xs'.length = xs.length
  | [], vals, xs, xs', hs, hi, hv => by
    have : vals = [] := by simpa using hi
    subst this
    cases hs
    exact ⟨rfl, rfl⟩
  | (i, x) :: ps, vals, xs, xs', hs, hi, hv => by
    cases vals with
    | nil => simp at hi
    | cons q vals =>
      obtain ⟨j, v⟩ := q
      simp only [List.map_cons, List.cons.injEq] at hi
      obtain ⟨rfl, hi⟩ := hi
      obtain ⟨v', rest, e1, hv1, hv2⟩ := hv
      simp only [List.map_cons, List.cons.injEq] at e1
      obtain ⟨rfl, rfl⟩ := e1
      cases x <;> first | (simp [setInts] at hs; done) | skip
      rename_i k' m
      simp only [setInts] at hs
      split at hs <;> first | (cases hs; done) | skip
      rename_i hb
      simp only [Bool.and_eq_true, beq_iff_eq] at hb
      obtain ⟨hk, hlt⟩ := hb
      subst hk
      have hlt := Nat.le_of_ble_eq_true hlt
      have hv' : v = .int k m := hv1
      subst hv'
      obtain ⟨q1, q2⟩ := setInts_fill ps vals hs hi hv2
      refine ⟨?_, by simpa using q2⟩
      rw [← q1]
      simp only [Instr.fill, Value.cells, List.size_toArray, List.length_cons, List.length_nil, Nat.mul_one, ints_length, Nat.zero_add, ne_eq, not_true_eq_false, decide_false, Bool.false_or, decide_eq_true_eq]
      rw [if_neg (by omega)]
      congr 1
      rw [ints_set]
      simp

theorem opBuild_ok {t : TypeId} {parts : Array (Nat × Operand)} {us : List AV} (ho : o.op = .build t parts) (h : Rel C S θ a w) (hu : CVt w (okOf C w S θ) θ us ((parts.toList.map (·.2)).map a.eval))
    (hh : (opBuild P o t (parts.toList.map (·.1)) us).exe n S = some S') : Does P C S' o a w := by
  have hlen : us.length = parts.toList.length := by
    have key : ∀ (us : List AV) (vs : List Value), CVt w (okOf C w S θ) θ us vs → us.length = vs.length := by
      intro us
      induction us with
      | nil => intro vs h; simp only [CVt] at h; subst h; rfl
      | cons x us ih => intro vs h; obtain ⟨v, rest, rfl, _, h2⟩ := h; simp [ih rest h2]
    simpa using key _ _ hu
  have hzip1 : ((parts.toList.map (·.1)).zip us).map (·.1) = parts.toList.map (·.1) := by
    rw [List.map_fst_zip]; simp [hlen]
  have hzip2 : ((parts.toList.map (·.1)).zip us).map (·.2) = us := by
    rw [List.map_snd_zip]; simp [hlen]
  have fin : ∀ (cells : Array Value) (r : AV), P.built t (parts.toList.map fun x => (x.1, a.eval x.2)) = some cells → CV w (okOf C w S θ) θ r (.agg cells) → (put o r).exe n S = some S' → Does P C S' o a w := by
    intro cells r hb hr hk
    refine Does.value (v := .agg cells) ?_ (put_ok' hk h hr)
    have := run_build (P := P) w t (parts.map fun x => (x.1, a.eval x.2)) cells (by simpa using hb)
    simp only [execOp, ho, Sem.run_bind]
    have e : (parts.map fun (x : Nat × Operand) => match x with | (i, x) => (i, a.eval x)) = parts.map fun x => (x.1, a.eval x.2) := rfl
    rw [e, this]
    rfl
  have hvi : (parts.toList.map fun x => (x.1, a.eval x.2)).map (·.1) = ((parts.toList.map (·.1)).zip us).map (·.1) := by rw [hzip1]; simp
  have hvc : CVt w (okOf C w S θ) θ (((parts.toList.map (·.1)).zip us).map (·.2)) ((parts.toList.map fun x => (x.1, a.eval x.2)).map (·.2)) := by
    rw [hzip2]
    rw [List.map_map] at hu ⊢
    exact hu
  unfold opBuild at hh
  split at hh <;> first | exact (exe_fail hh).elim | skip
  rename_i it z hit hz
  split at hh <;> first | exact (exe_fail hh).elim | skip
  rename_i vz hvz
  obtain ⟨hc, hh1⟩ := exe_must hh
  simp only [Bool.and_eq_true] at hc
  have hcz := cvB_ok (w := w) (ok := okOf C w S θ) (θ := θ) z vz hc.1
  split at hh1 <;> first | exact (exe_fail hh1).elim | skip
  · rename_i fs cs hfs
    obtain ⟨hl, hh2⟩ := exe_must hh1
    split at hh2 <;> first | exact (exe_fail hh2).elim | skip
    rename_i cs' hcs'
    obtain ⟨places, hp, hq⟩ := laidOut_places fs.toList cs 0 hl
    obtain ⟨vs, rfl, hcc⟩ := hcz
    obtain ⟨cells', q1, q2⟩ := setParts_fill (place := (places.toArray[·]?)) _ _ hcc (fun i c hi => by simpa using hq i c hi) hcs' hvi hvc
    refine fin cells' (.agg cs') ?_ ⟨cells', rfl, q2⟩ hh2
    simp only [Program.built, hit, hfs, hvz, hp]
    simpa [Value.cells] using q1
  · rename_i m e k n' xs hfs
    obtain ⟨hl, hh2⟩ := exe_must hh1
    simp only [Bool.and_eq_true] at hl
    obtain ⟨he, hsz⟩ := szIs_ok hl.1
    obtain ⟨ie, ue, hie, hue⟩ := typOk_info he
    have hs1 : ie.size = 1 := by simpa [sizeT, hie] using hsz
    split at hh2 <;> first | exact (exe_fail hh2).elim | skip
    rename_i xs' hxs'
    obtain ⟨hxl, rfl⟩ := hcz
    obtain ⟨q1, q2⟩ := setInts_fill (w := w) (ok := okOf C w S θ) (θ := θ) _ _ hxs' hvi hvc
    refine fin (ints k xs').toArray (.arr k n' xs') ?_ ⟨by omega, rfl⟩ hh2
    simp only [Program.built, hit, hfs, hvz, hie, hs1]
    simpa [Value.cells] using q1
  · rename_i m e cs hfs
    obtain ⟨hl, hh2⟩ := exe_must hh1
    split at hh2 <;> first | exact (exe_fail hh2).elim | skip
    rename_i cs' hcs'
    obtain ⟨vs, rfl, hcc⟩ := hcz
    simp only [Bool.and_eq_true] at hl
    obtain ⟨hl, hne⟩ := hl
    cases hcs : cs with
    | nil =>
      rw [hcs] at hne
      cases hne
    | cons c0 cr =>
      have hw0 : ∀ c ∈ cs, szIs P e c.width = true := by simpa using hl
      have hww : ∀ c ∈ cs, c.width = sizeT P e := fun c hc' => (szIs_ok (hw0 c hc')).2.symm
      have he : typOk P e = true := (szIs_ok (hw0 c0 (by rw [hcs]; simp))).1
      obtain ⟨ie, ue, hie, hue⟩ := typOk_info he
      have hs1 : sizeT P e = ie.size := by simp [sizeT, hie]
      have hwid : ∀ (l : List AV), (∀ c ∈ l, c.width = ie.size) → AV.widths l = l.length * ie.size := by
        intro l
        induction l with
        | nil => intro _; simp [AV.widths]
        | cons x l ih =>
          intro hx
          simp only [AV.widths, ih (fun c hc => hx c (by simp [hc])), hx x (by simp), List.length_cons, Nat.add_mul, Nat.one_mul]
          omega
      obtain ⟨cells', q1, q2⟩ := setParts_fill (place := fun i => some (i * ie.size, ie.size)) _ _ hcc (fun i c hi => by
        have hm := List.mem_of_getElem? hi
        have hlt := (List.getElem?_eq_some_iff.1 hi).1
        rw [hww c hm, hs1, hwid _ (fun c hc => by rw [hww c (List.mem_of_mem_take hc), hs1]), List.length_take, Nat.min_eq_left (by omega)]) hcs' hvi hvc
      refine fin cells' (.agg cs') ?_ ⟨cells', rfl, q2⟩ hh2
      simp only [Program.built, hit, hfs, hvz, hie]
      simpa [Value.cells] using q1
end
end Go.Am
