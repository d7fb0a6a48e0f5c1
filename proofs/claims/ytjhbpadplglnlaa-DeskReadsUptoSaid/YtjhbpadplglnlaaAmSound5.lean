/-
  AM: the operations are sound, part 5: slices of slices, lengths, indexes, arithmetic.
-/
import Derived.Test.YtjhbpadplglnlaaAmSound4
import Derived.Laws.StructEq
set_option linter.unusedVariables false
set_option linter.unusedSimpArgs false
namespace Go.Am
open Go.RowKit

section
variable {C : Ctx} {S S' : St} {θ θ' : Nat → Option Value} {a : Act} {w w' : World} {n : Nat} {ok : Nat → Prop} {P : Program} {o : Oper}

theorem bound_ok {x : Option AV} {v : Option Value} {dflt : Nat} {k : Int → Pg} (hx : OptCV w ok θ x v) (hh : (bound x dflt k).exe n S = some S') :
    ∃ i : Int, ((v = none ∧ i = dflt) ∨ ∃ kd, v = some (.int kd i)) ∧ (k i).exe n S = some S' := by
  unfold bound at hh
  split at hh
  · cases v with
    | none => exact ⟨dflt, .inl ⟨rfl, rfl⟩, hh⟩
    | some v => exact hx.elim
  · rename_i kd i
    cases v with
    | none => exact hx.elim
    | some v =>
      have : v = .int kd i := hx
      subst this
      exact ⟨i, .inr ⟨kd, rfl⟩, hh⟩
  · exact (exe_fail hh).elim

theorem run_sliceBound {kd : IntKind} {i : Int} {y : Nat} {code : BoundsCode} (h0 : 0 ≤ i) (h1 : i ≤ y) : (Instr.sliceBound (.int kd i) y code).run P w = .ok i.toNat w := by
  simp only [Instr.sliceBound, Sem.run_bind, asIntOf, Sem.run_pure, Result.andThen_ok, h0, h1, and_self, if_true]

/-- The bounds of a slice expression: l and h, and the capacity's m behind them. -/
theorem bounds_ok {lo hi mx : Option AV} {vl vh vm : Option Value} {len cap : Nat} {isS : Bool} {k : Nat → Nat → Pg} (hl : OptCV w ok θ lo vl) (hhi : OptCV w ok θ hi vh) (hm : OptCV w ok θ mx vm) (hc : len ≤ cap)
    (hh : (bounds lo hi mx len k).exe n S = some S') : ∃ l h m : Nat, l ≤ h ∧ h ≤ len ∧ h ≤ m ∧ m ≤ cap ∧ (Instr.sliceBounds isS len cap vl vh vm).run P w = .ok (l, h, m) w ∧ (k l h).exe n S = some S' := by
  unfold bounds at hh
  obtain ⟨hmh, hh1⟩ := exe_must hh
  obtain ⟨m, hm1, hh2⟩ := bound_ok hm hh1
  obtain ⟨h, hh3, hh4⟩ := bound_ok hhi hh2
  obtain ⟨l, hl1, hh5⟩ := bound_ok hl hh4
  obtain ⟨hb, hh6⟩ := exe_chk hh5
  simp only [Bool.and_eq_true, decide_eq_true_eq] at hb
  obtain ⟨b1, b2, b3, b4⟩ := hb
  rcases hm1 with ⟨rfl, rfl⟩ | ⟨km, rfl⟩
  · -- no third bound
    refine ⟨l.toNat, h.toNat, cap, by omega, by omega, by omega, Nat.le_refl _, ?_, hh6⟩
    rcases hh3 with ⟨rfl, rfl⟩ | ⟨kh, rfl⟩ <;> rcases hl1 with ⟨rfl, rfl⟩ | ⟨kl, rfl⟩ <;>
      simp only [Instr.sliceBounds, Sem.run_bind, Sem.run_pure, Result.andThen_ok, Option.isSome_none, Bool.false_eq_true, if_false, Int.toNat_natCast, Int.toNat_zero]
    · rw [run_sliceBound b1 (by omega)]
      simp
    · rw [run_sliceBound (by omega) (by omega)]
      simp
    · rw [run_sliceBound (by omega) (by omega)]
      simp only [Result.andThen_ok]
      rw [run_sliceBound b1 (by omega)]
      simp
  · -- a third bound
    rcases hh3 with ⟨rfl, rfl⟩ | ⟨kh, rfl⟩
    · -- none behind it: not let
      cases hi with
      | some u => exact hhi.elim
      | none => cases mx with
        | none => exact hm.elim
        | some _ => cases hmh
    · refine ⟨l.toNat, h.toNat, m.toNat, by omega, by omega, by omega, by omega, ?_, hh6⟩
      rcases hl1 with ⟨rfl, rfl⟩ | ⟨kl, rfl⟩ <;>
        simp only [Instr.sliceBounds, Sem.run_bind, Sem.run_pure, Result.andThen_ok, Option.isSome_some, if_true]
      · rw [run_sliceBound (by omega) (by omega)]
        simp only [Result.andThen_ok]
        rw [run_sliceBound (by omega) (by omega)]
        simp
      · rw [run_sliceBound (by omega) (by omega)]
        simp only [Result.andThen_ok]
        rw [run_sliceBound (by omega) (by omega)]
        simp only [Result.andThen_ok]
        rw [run_sliceBound b1 (by omega)]
        simp

theorem cellsAt_take {ad : Addr} {cs : List Value} (h : cellsAt w ad cs) (i m : Nat) : cellsAt w (ad.add i) ((cs.drop i).take m) := fun j u hj => by
  rw [add_add']
  refine h (i + j) u ?_
  rw [List.getElem?_take] at hj
  split at hj
  · simpa using hj
  · cases hj

theorem ints_drop_take (k : IntKind) (xs : List Int) (i m : Nat) : ints k ((xs.drop i).take m) = ((ints k xs).drop i).take m := by simp [ints, List.map_take, List.map_drop]

/-- A cut of a frozen slice of numbers. -/
theorem CV_cut_fs {k : IntKind} {xs : List Int} {A : Option Addr} {c l h m : Nat} (hu : CV w ok θ (.fs k xs) (.slice A xs.length c)) (h1 : l ≤ h) (h2 : h ≤ xs.length) (h3 : h ≤ m) :
    CV w ok θ (.fs k ((xs.drop l).take (h - l))) (.slice (if m = l then A else A.map (·.add (l * 1))) (h - l) (m - l)) := by
  obtain ⟨A', c', e, hc, hr⟩ := hu
  cases e
  have hlen : ((xs.drop l).take (h - l)).length = h - l := by simp; omega
  refine ⟨_, m - l, by rw [hlen], by omega, fun h0 => ?_⟩
  rw [hlen] at h0
  obtain ⟨ad, rfl, hok, hcl⟩ := hr (by omega)
  rw [if_neg (by omega)]
  refine ⟨ad.add (l * 1), rfl, by rw [block_add]; exact hok, ?_⟩
  rw [ints_drop_take, Nat.mul_one]
  exact cellsAt_take hcl _ _

theorem CVs_cut {xs : List AV} {cs : List Value} {s : Sh} (hc : CVs w ok θ xs cs) (hw : ∀ x ∈ xs, WT s x) {l m : Nat} (h : l + m ≤ xs.length) :
    CVs w ok θ ((xs.drop l).take m) ((cs.drop (l * s.width)).take (m * s.width)) := by
  have e1 : xs = xs.take l ++ ((xs.drop l).take m ++ (xs.drop l).drop m) := by rw [List.take_append_drop, List.take_append_drop]
  rw [e1] at hc
  obtain ⟨us, ws, rfl, h1, h2⟩ := CVs_split hc
  obtain ⟨vs, ws', rfl, h3, h4⟩ := CVs_split h2
  have l1 : us.length = l * s.width := by
    rw [CVs_length h1, WT_widths (s := s) (fun x hx => hw x (List.mem_of_mem_take hx)), List.length_take, Nat.min_eq_left (by omega)]
  have l2 : vs.length = m * s.width := by
    rw [CVs_length h3, WT_widths (s := s) (fun x hx => hw x (List.mem_of_mem_drop (List.mem_of_mem_take hx))), List.length_take, List.length_drop, Nat.min_eq_left (by omega)]
  rw [← l1, List.drop_left, ← l2, List.take_left]
  exact h3

theorem CV_cut_fv {s : Sh} {xs : List AV} {A : Option Addr} {c l h m : Nat} (hu : CV w ok θ (.fv s xs) (.slice A xs.length c)) (h1 : l ≤ h) (h2 : h ≤ xs.length) (h3 : h ≤ m) :
    CV w ok θ (.fv s ((xs.drop l).take (h - l))) (.slice (if m = l then A else A.map (·.add (l * s.width))) (h - l) (m - l)) := by
  obtain ⟨A', c', cs, e, hc, hw, hcs, hr⟩ := hu
  cases e
  have hlen : ((xs.drop l).take (h - l)).length = h - l := by simp; omega
  refine ⟨_, m - l, _, by rw [hlen], by omega, fun x hx => hw x (List.mem_of_mem_drop (List.mem_of_mem_take hx)), CVs_cut hcs hw (by omega), fun h0 => ?_⟩
  rw [hlen] at h0
  obtain ⟨ad, rfl, hok, hcl⟩ := hr (by omega)
  rw [if_neg (by omega)]
  exact ⟨ad.add (l * s.width), rfl, by rw [block_add]; exact hok, cellsAt_take hcl _ _⟩

theorem str_size (l : List UInt8) : (⟨l.toArray⟩ : ByteArray).size = l.length := by simp [ByteArray.size]
theorem str_extract (l : List UInt8) (i j : Nat) (h1 : i ≤ j) (h2 : j ≤ l.length) : (⟨l.toArray⟩ : ByteArray).extract i j = ⟨((l.drop i).take (j - i)).toArray⟩ := by
  apply ByteArray.ext
  rw [ByteArray.data_extract]
  apply Array.ext'
  simp [List.extract_eq_take_drop]

theorem opSlice_ok {t : TypeId} {x : Operand} {lo hi mx : Option Operand} {u : AV} {ul uh um : Option AV} (ho : o.op = .slice t x lo hi mx) (h : Rel C S θ a w) (hu : CV w (okOf C w S θ) θ u (a.eval x))
    (hl : OptCV w (okOf C w S θ) θ ul (lo.map a.eval)) (hhi : OptCV w (okOf C w S θ) θ uh (hi.map a.eval)) (hm : OptCV w (okOf C w S θ) θ um (mx.map a.eval))
    (hh : (opSlice P o t u ul uh um).exe n S = some S') : Does P C S' o a w := by
  unfold opSlice at hh
  split at hh <;> first | exact (exe_fail hh).elim | skip
  · -- string
    rename_i ht
    split at hh <;> first | exact (exe_fail hh).elim | skip
    rename_i l
    have hx : a.eval x = .string ⟨l.toArray⟩ := hu
    have hmx : mx.map a.eval = none := by
      cases hq : mx.map a.eval with
      | none => rfl
      | some v => rw [hq] at hm; exact hm.elim
    obtain ⟨i, j, m, h1, h2, h3, h4, hr, hk⟩ := bounds_ok (P := P) (isS := false) hl hhi (show OptCV w (okOf C w S θ) θ none none from trivial) (Nat.le_refl _) hh
    refine Does.value (v := .string ⟨((l.drop i).take (j - i)).toArray⟩) ?_ (put_ok' hk h rfl)
    simp only [execOp, ho, Instr.sliceAt, Instr.slice, Sem.run_bind, run_underlying ht, Result.andThen_ok, hx, hmx, Option.isSome_none, Bool.false_eq_true, if_false, str_size, hr, Sem.run_pure, str_extract l i j h1 h2]
  · -- slice
    rename_i e ht
    have run : ∀ (A : Option Addr) (len c l h m : Nat), typOk P e = true → a.eval x = .slice A len c → (Instr.sliceBounds true len c (lo.map a.eval) (hi.map a.eval) (mx.map a.eval)).run P w = .ok (l, h, m) w →
        (execOp a.eval o).run P w = .ok (.value (.slice (if m = l then A else A.map (·.add (l * sizeT P e))) (h - l) (m - l))) w := by
      intro A len c l h m he hx hr
      simp only [execOp, ho, Instr.sliceAt, Instr.slice, Sem.run_bind, run_underlying ht, Result.andThen_ok, hx, hr, run_sizeOf' he, Sem.run_pure]
    split at hh <;> first | exact (exe_fail hh).elim | skip
    · -- nils
      have hx : a.eval x = .slice none 0 0 := hu
      obtain ⟨he, hh1⟩ := exe_must hh
      obtain ⟨i, j, m, h1, h2, h3, h4, hr, hk⟩ := bounds_ok (P := P) (isS := true) hl hhi hm (Nat.le_refl 0) hh1
      have e1 : i = 0 := by omega
      have e2 : j = 0 := by omega
      have e3 : m = 0 := by omega
      subst e1
      subst e2
      subst e3
      refine Does.value (v := .slice none 0 0) ?_ (put_ok' hk h rfl)
      have hb : (Instr.sliceBounds true 0 0 (lo.map a.eval) (hi.map a.eval) (mx.map a.eval)).run P w = .ok (0, 0, 0) w := hr
      simp only [execOp, ho, Instr.sliceAt, Instr.slice, Sem.run_bind, run_underlying ht, Result.andThen_ok, hx, hb, run_sizeOf' he, Sem.run_pure, if_true, Nat.sub_self]
    · -- fs
      rename_i k xs
      obtain ⟨hz, hh1⟩ := exe_must hh
      obtain ⟨he, hsz⟩ := szIs_ok hz
      have hu' := hu
      obtain ⟨A, c, hx, hc, hr0⟩ := hu'
      obtain ⟨i, j, m, h1, h2, h3, h4, hr, hk⟩ := bounds_ok (P := P) (isS := true) hl hhi hm hc hh1
      refine Does.value (run A _ c i j m he hx hr) (put_ok' hk h ?_)
      rw [hsz]
      rw [hx] at hu
      exact CV_cut_fs hu h1 h2 h3
    · -- fv
      rename_i s xs
      obtain ⟨hz, hh1⟩ := exe_must hh
      obtain ⟨he, hsz⟩ := szIs_ok hz
      have hu' := hu
      obtain ⟨A, c, cs, hx, hc, _⟩ := hu'
      obtain ⟨i, j, m, h1, h2, h3, h4, hr, hk⟩ := bounds_ok (P := P) (isS := true) hl hhi hm hc hh1
      refine Does.value (run A _ c i j m he hx hr) (put_ok' hk h ?_)
      rw [hsz]
      rw [hx] at hu
      exact CV_cut_fv hu h1 h2 h3
    · -- own
      rename_i d
      obtain ⟨hd, A, len, c, hx⟩ := hu
      replace hh := exe_obj hh
      cases hob : S.obj d with
      | none => rw [hob] at hh; exact (exe_fail hh).elim
      | some ob =>
        rw [hob] at hh
        cases ob <;> first | exact (exe_fail hh).elim | skip
        · rename_i own e' k xs
          obtain ⟨hz, hh1⟩ := exe_must hh
          obtain ⟨he, hsz⟩ := szIs_ok hz
          rw [hx] at hd
          obtain ⟨f1, f2, f3⟩ := row_form h hob hd
          subst f1
          obtain ⟨i, j, m, h1, h2, h3, h4, hr, hk⟩ := bounds_ok (P := P) (isS := true) hl hhi hm f2 hh1
          refine Does.value (run A _ c i j m he hx hr) (put_ok' hk h ⟨_, _, rfl, by omega, fun h0 => ?_⟩)
          obtain ⟨g, rfl, _⟩ := f3 (by omega)
          refine ⟨g, _, c, hd, by omega, ?_⟩
          rw [if_neg (by omega), hsz]
          simp [add_lit]
        · rename_i own e' s xs
          obtain ⟨hz, hh1⟩ := exe_must hh
          obtain ⟨he, hsz⟩ := szIs_ok hz
          rw [hx] at hd
          obtain ⟨f1, f2, _, cs, _, f3⟩ := rows_form h hob hd
          subst f1
          obtain ⟨i, j, m, h1, h2, h3, h4, hr, hk⟩ := bounds_ok (P := P) (isS := true) hl hhi hm f2 hh1
          refine Does.value (run A _ c i j m he hx hr) (put_ok' hk h ⟨_, _, rfl, by omega, fun h0 => ?_⟩)
          obtain ⟨g, rfl, _⟩ := f3 (by omega)
          refine ⟨g, _, c, hd, by omega, ?_⟩
          rw [if_neg (by omega), hsz]
          simp [add_lit]
    · -- win
      rename_i d sz off len
      obtain ⟨hz, hh1⟩ := exe_must hh
      obtain ⟨he, hsz⟩ := szIs_ok hz
      obtain ⟨A, c, hx, hc, hl0⟩ := hu
      obtain ⟨i, j, m, h1, h2, h3, h4, hr, hk⟩ := bounds_ok (P := P) (isS := true) hl hhi hm hc hh1
      refine Does.value (run A _ c i j m he hx hr) (put_ok' hk h ⟨_, _, rfl, by omega, fun h0 => ?_⟩)
      obtain ⟨g, m', c', hd, hle, rfl⟩ := hl0 (by omega)
      refine ⟨g, m', c', hd, by omega, ?_⟩
      rw [if_neg (by omega), hsz]
      simp [add_lit, Nat.add_mul]
    · -- wina
      rename_i d oo nn off len
      obtain ⟨hz, hh1⟩ := exe_must hh
      obtain ⟨he, hsz⟩ := szIs_ok hz
      obtain ⟨A, c, hx, hc, hle, hl0⟩ := hu
      obtain ⟨i, j, m, h1, h2, h3, h4, hr, hk⟩ := bounds_ok (P := P) (isS := true) hl hhi hm hc hh1
      refine Does.value (run A _ c i j m he hx hr) (put_ok' hk h ⟨_, _, rfl, by omega, by omega, fun h0 => ?_⟩)
      obtain ⟨g, hd, rfl⟩ := hl0 (by omega)
      refine ⟨g, hd, ?_⟩
      rw [if_neg (by omega), hsz]
      simp [add_lit, Nat.add_assoc]
  · -- array
    rename_i m e ht
    obtain ⟨hz, hh1⟩ := exe_must hh
    obtain ⟨he, hsz⟩ := szIs_ok hz
    have run : ∀ (A : Addr) (l h mm : Nat), a.eval x = .pointer (some A) → (Instr.sliceBounds false m m (lo.map a.eval) (hi.map a.eval) (mx.map a.eval)).run P w = .ok (l, h, mm) w →
        (execOp a.eval o).run P w = .ok (.value (.slice (some (if mm = l then A else A.add (l * sizeT P e))) (h - l) (mm - l))) w := by
      intro A l h mm hx hr
      simp only [execOp, ho, Instr.sliceAt, Sem.run_bind, run_underlying ht, Result.andThen_ok, hx, Instr.sureAddr, hr, run_sizeOf' he, Sem.run_pure]
    split at hh1 <;> first | exact (exe_fail hh1).elim | skip
    · rename_i d off
      obtain ⟨g, hd, hx⟩ := hu
      obtain ⟨i, j, mm, h1, h2, h3, h4, hr, hk⟩ := bounds_ok (P := P) (isS := false) hl hhi hm (Nat.le_refl _) hh1
      refine Does.value (run _ i j mm hx hr) (put_ok' hk h ⟨_, _, rfl, by omega, by omega, fun h0 => ?_⟩)
      refine ⟨g, hd, ?_⟩
      rw [if_neg (by omega), hsz, add_lit, Nat.mul_one]
    · rename_i k m' xs
      obtain ⟨hz2, hh2⟩ := exe_must hh1
      have hmm := Nat.eq_of_beq_eq_true hz2
      subst hmm
      obtain ⟨ad, v, hx, hok, ⟨hxl, rfl⟩, hcl⟩ := hu
      obtain ⟨i, j, mm, h1, h2, h3, h4, hr, hk⟩ := bounds_ok (P := P) (isS := false) hl hhi hm (Nat.le_refl _) hh2
      have hlen : ((xs.drop i).take (j - i)).length = j - i := by simp; omega
      refine Does.value (run _ i j mm hx hr) (put_ok' hk h ⟨_, mm - i, by rw [hlen], by omega, fun h0 => ?_⟩)
      rw [hlen] at h0
      rw [if_neg (by omega), hsz, Nat.mul_one]
      refine ⟨_, rfl, by rw [block_add]; exact hok, ?_⟩
      rw [ints_drop_take]
      exact cellsAt_take (by simpa [Value.cells] using hcl) _ _
theorem opLen_ok {t : TypeId} {x : Operand} {u : AV} (ho : o.op = .call { callee := .builtin .len, args := #[x], argTypes := #[t] }) (h : Rel C S θ a w) (hu : CV w (okOf C w S θ) θ u (a.eval x))
    (hh : (opLen P o t u).exe n S = some S') : Does P C S' o a w := by
  unfold opLen at hh
  have fin : ∀ m : Nat, (Builtin.len_ #[t] o.type #[a.eval x]).run P w = .ok (.int .i64 m) w → (put o (.int .i64 m)).exe n S = some S' → Does P C S' o a w := by
    intro m hr hk
    refine Does.value (v := .int .i64 m) ?_ (put_ok' hk h rfl)
    simp only [execOp, ho, resolve, invoke, builtin, Sem.run_bind, Sem.run_pure, Result.andThen_ok, List.map_toArray, List.map_cons, List.map_nil, hr]
  have lenS : ∀ e A m c, P.underlying t = some (.slice e) → a.eval x = .slice A m c → (Builtin.len_ #[t] o.type #[a.eval x]).run P w = .ok (.int .i64 m) w := by
    intro e A m c ht hx
    simp [Builtin.len_, run_underlying ht, hx, goInt]
  simp only at hh
  split at hh <;> first | exact (exe_fail hh).elim | skip
  · rename_i ht
    split at hh <;> first | exact (exe_fail hh).elim | skip
    rename_i l
    have hx : a.eval x = .string ⟨l.toArray⟩ := hu
    exact fin _ (by simp [Builtin.len_, run_underlying ht, hx, goInt, str_size]) hh
  · rename_i m e ht
    exact fin _ (by simp [Builtin.len_, run_underlying ht, goInt]) hh
  · rename_i e ht
    split at hh <;> first | exact (exe_fail hh).elim | skip
    · exact fin 0 (lenS e _ _ _ ht (hu : a.eval x = _)) hh
    · obtain ⟨A, c, hx, _⟩ := hu
      exact fin _ (lenS e _ _ _ ht hx) hh
    · obtain ⟨A, c, cs, hx, _⟩ := hu
      exact fin _ (lenS e _ _ _ ht hx) hh
    · obtain ⟨A, c, hx, _⟩ := hu
      exact fin _ (lenS e _ _ _ ht hx) hh
    · obtain ⟨A, c, hx, _⟩ := hu
      exact fin _ (lenS e _ _ _ ht hx) hh
    · rename_i d
      obtain ⟨hd, A, m, c, hx⟩ := hu
      replace hh := exe_obj hh
      cases hob : S.obj d with
      | none => rw [hob] at hh; exact (exe_fail hh).elim
      | some ob =>
        rw [hob] at hh
        rw [hx] at hd
        cases ob <;> first | exact (exe_fail hh).elim | skip
        · have := (row_form h hob hd).1
          subst this
          exact fin _ (lenS e _ _ _ ht hx) hh
        · have := (rows_form h hob hd).1
          subst this
          exact fin _ (lenS e _ _ _ ht hx) hh
        · rename_i e' s vs
          obtain ⟨v, cs, v1, v2, v3, v4⟩ := h.objs d _ hob
          rw [hd] at v1
          cases v1
          have : m = vs.length := by
            rcases v4.2 with ⟨q1, q2⟩ | ⟨g, cap, cur, fr, q1, _⟩
            · cases q1; exact q2.symm
            · cases q1; rfl
          subst this
          exact fin _ (lenS e _ _ _ ht hx) hh

theorem opIndex_ok {t : TypeId} {x y : Operand} {u uy : AV} (ho : o.op = .index t x y) (h : Rel C S θ a w) (hu : CV w (okOf C w S θ) θ u (a.eval x)) (hy : CV w (okOf C w S θ) θ uy (a.eval y))
    (hh : (opIndex P o t u uy).exe n S = some S') : Does P C S' o a w := by
  unfold opIndex at hh
  split at hh <;> first | exact (exe_fail hh).elim | skip
  rename_i kd i
  have hy' : a.eval y = .int kd i := hy
  split at hh <;> first | exact (exe_fail hh).elim | skip
  · rename_i ht
    split at hh <;> first | exact (exe_fail hh).elim | skip
    rename_i l
    have hx : a.eval x = .string ⟨l.toArray⟩ := hu
    obtain ⟨hr, hh1⟩ := exe_chk hh
    obtain ⟨h0, h1, h2⟩ := inR_ok hr
    refine Does.value (v := .int .u8 ((l.getD i.toNat 0).toNat : Int)) ?_ (put_ok' hh1 h rfl)
    have hb : (⟨l.toArray⟩ : ByteArray)[i.toNat]? = some (l.getD i.toNat 0) := by
      have hlt : i.toNat < (⟨l.toArray⟩ : ByteArray).size := by rw [str_size]; exact h2
      rw [getElem?_pos (⟨l.toArray⟩ : ByteArray) i.toNat hlt]
      congr 1
      show l.toArray[i.toNat] = _
      simp [List.getD_eq_getElem?_getD, h2]
    simp only [execOp, ho, Instr.index, Sem.run_bind, hy', asIntOf, Sem.run_pure, Result.andThen_ok, run_underlying ht, hx, h0, if_true, hb]
  · rename_i m e ht
    split at hh <;> first | exact (exe_fail hh).elim | skip
    · rename_i k m' xs
      obtain ⟨hz, hh1⟩ := exe_must hh
      obtain ⟨hr, hh2⟩ := exe_chk hh1
      simp only [Bool.and_eq_true, Bool.not_eq_true'] at hz
      obtain ⟨he, hsz⟩ := szIs_ok hz.1
      obtain ⟨h0, h1, h2⟩ := inR_ok hr
      have hmm := Nat.eq_of_beq_eq_true hz.2.2
      obtain ⟨hxl, hx⟩ := hu
      refine Does.value (v := .int k (getI xs i.toNat)) ?_ (put_ok' hh2 h rfl)
      have hg : (ints k xs).toArray[i.toNat * 1]? = some (.int k (getI xs i.toNat)) := by
        rw [Nat.mul_one]
        simpa using ints_get (k := k) (xs := xs) (i := i.toNat) (by omega)
      simp only [execOp, ho, Instr.index, Sem.run_bind, hy', asIntOf, Sem.run_pure, Result.andThen_ok, run_underlying ht, hx, h0, h1, and_self, if_true, run_sizeOf' he, hsz, part, run_isAgg' he, hz.2.1, Bool.false_eq_true, if_false, hg]
    · rename_i cs
      split at hh <;> first | exact (exe_fail hh).elim | skip
      rename_i c hc
      obtain ⟨hz, hh1⟩ := exe_must hh
      obtain ⟨hr, hh2⟩ := exe_chk hh1
      simp only [Bool.and_eq_true] at hz
      obtain ⟨hw, hfit, hst⟩ := hz
      obtain ⟨h0, h1, h2⟩ := inR_ok hr
      obtain ⟨vs, hx, hcs⟩ := hu
      obtain ⟨v, us, ws, q1, q2, q3, q4⟩ := CVs_item hcs hc
      have hp := run_part (P := P) hfit hst q4 q3 q1
      have he : typOk P e = true := by simp only [fits, Bool.and_eq_true] at hfit; exact hfit.1
      refine Does.value (v := v) ?_ (put_ok' hh2 h q4)
      have e2 : vs = vs.toList.toArray := by simp
      have hoff : i.toNat * sizeT P e = us.length := by rw [q2, Nat.eq_of_beq_eq_true hw]
      simp only [execOp, ho, Instr.index, Sem.run_bind, hy', asIntOf, Sem.run_pure, Result.andThen_ok, run_underlying ht, hx, h0, h1, and_self, if_true, run_sizeOf' he]
      rw [e2, hoff, hp]
      rfl

theorem intBin_ok {op : BinOp} {t : TypeId} {k : IntKind} {p q : Int} {K : AV → Pg} (hh : (intBin op k p q K).exe n S = some S') :
    ∃ u v, (K u).exe n S = some S' ∧ CV w ok θ u v ∧ (binOp op t (.int k p) (.int k q)).run P w = .ok v w := by
  unfold intBin at hh
  split at hh <;> first | exact (exe_fail hh).elim | skip
  · exact ⟨_, _, hh, rfl, by simp [binOp, Op.intArith]⟩
  · exact ⟨_, _, hh, rfl, by simp [binOp, Op.intArith]⟩
  · exact ⟨_, _, hh, rfl, by simp [binOp, Op.intArith]⟩
  · obtain ⟨hz, hh1⟩ := exe_chk hh
    have h0 : q ≠ 0 := by simpa using hz
    exact ⟨_, _, hh1, rfl, by simp [binOp, Op.intDiv, h0]⟩
  · obtain ⟨hz, hh1⟩ := exe_chk hh
    have h0 : q ≠ 0 := by simpa using hz
    exact ⟨_, _, hh1, rfl, by simp [binOp, Op.intDiv, h0]⟩
  · exact ⟨_, _, hh, rfl, by simp [binOp, Op.intBits]⟩
  · exact ⟨_, _, hh, rfl, by simp [binOp, Op.intBits]⟩
  · exact ⟨_, _, hh, rfl, by simp [binOp, Op.intBits]⟩
  · exact ⟨_, _, hh, rfl, by simp [binOp, Op.intBits]⟩
  · exact ⟨_, _, hh, rfl, by simp [binOp, Op.intCmp]⟩
  · exact ⟨_, _, hh, rfl, by simp [binOp, Op.intCmp]⟩
  · exact ⟨_, _, hh, rfl, by simp [binOp, Op.intCmp]⟩
  · exact ⟨_, _, hh, rfl, by simp [binOp, Op.intCmp]⟩
  · exact ⟨_, _, hh, rfl, by simp [binOp, Op.intCmp]⟩
  · exact ⟨_, _, hh, rfl, by simp [binOp, Op.intCmp]⟩

theorem toList_mk (l : List UInt8) : (⟨l.toArray⟩ : ByteArray).toList = l := by rw [ByteArray.toList_eq]

theorem eqGuard_scalar {op : BinOp} {t : TypeId} {x y : Operand} {u v : Value} (h : (∃ k p, u = .int k p) ∨ (∃ b, u = .bool b) ∨ (∃ s, u = .string s)) : (eqGuard op t x y u v).run P w = .ok () w := by
  rcases h with ⟨k, p, rfl⟩ | ⟨b, rfl⟩ | ⟨s, rfl⟩ <;> cases op <;> simp [eqGuard]

theorem opBin_ok {op : BinOp} {t ty : TypeId} {x y : Operand} {u uy : AV} (ho : o.op = .binOp op t x y ty) (h : Rel C S θ a w) (hu : CV w (okOf C w S θ) θ u (a.eval x)) (hy : CV w (okOf C w S θ) θ uy (a.eval y))
    (hh : (opBin P o op t u uy).exe n S = some S') : Does P C S' o a w := by
  have fin : ∀ (v : Value), ((∃ k p, a.eval x = .int k p) ∨ (∃ b, a.eval x = .bool b) ∨ (∃ s, a.eval x = .string s)) → (binOp op t (a.eval x) (a.eval y)).run P w = .ok v w → (execOp a.eval o).run P w = .ok (.value v) w := by
    intro v hk hr
    simp only [execOp, ho, Sem.run_bind, eqGuard_scalar hk, hr, Result.andThen_ok, Sem.run_pure]
  unfold opBin at hh
  simp only at hh
  split at hh <;> first | exact (exe_fail hh).elim | skip
  · -- shl
    rename_i k p k' q
    have hx : a.eval x = .int k p := hu
    have hy' : a.eval y = .int k' q := hy
    obtain ⟨hz, hh1⟩ := exe_chk hh
    have h0 : ¬ q < 0 := by simp only [decide_eq_true_eq] at hz; omega
    exact Does.value (fin _ (.inl ⟨_, _, hx⟩) (by rw [hx, hy']; simp [binOp, Op.shift, h0])) (put_ok' hh1 h rfl)
  · rename_i k p k' q
    have hx : a.eval x = .int k p := hu
    have hy' : a.eval y = .int k' q := hy
    obtain ⟨hz, hh1⟩ := exe_chk hh
    have h0 : ¬ q < 0 := by simp only [decide_eq_true_eq] at hz; omega
    exact Does.value (fin _ (.inl ⟨_, _, hx⟩) (by rw [hx, hy']; simp [binOp, Op.shift, h0])) (put_ok' hh1 h rfl)
  · rename_i k p k' q _ _
    have hx : a.eval x = .int k p := hu
    have hy' : a.eval y = .int k' q := hy
    obtain ⟨hz, hh1⟩ := exe_must hh
    have hk := eq_of_beq hz
    subst hk
    obtain ⟨r, v, hk, hr, hrun⟩ := intBin_ok (P := P) (w := w) (ok := okOf C w S θ) (θ := θ) (t := t) hh1
    exact Does.value (fin v (.inl ⟨_, _, hx⟩) (by rw [hx, hy']; exact hrun)) (put_ok' hk h hr)
  · rename_i p q
    have hx : a.eval x = .string ⟨p.toArray⟩ := hu
    have hy' : a.eval y = .string ⟨q.toArray⟩ := hy
    obtain ⟨hz, hh1⟩ := exe_chk hh
    have hz := Nat.le_of_ble_eq_true hz
    refine Does.value (v := .string ⟨(p ++ q).toArray⟩) (fin _ (.inr (.inr ⟨_, hx⟩)) ?_) (put_ok' hh1 h rfl)
    rw [hx, hy']
    have hmax : ¬ (((⟨p.toArray⟩ : ByteArray).size + (⟨q.toArray⟩ : ByteArray).size : Nat) : Int) > IntKind.i64.max := by
      rw [str_size, str_size]
      have : IntKind.i64.max = 9223372036854775807 := by decide
      rw [this]
      omega
    have happ : (⟨p.toArray⟩ : ByteArray) ++ ⟨q.toArray⟩ = ⟨(p ++ q).toArray⟩ := by
      apply ByteArray.ext
      rw [ByteArray.data_append]
      simp
    simp only [binOp, Op.stringOp, hmax, if_false, Sem.run_pure, happ]
  · rename_i p q
    have hx : a.eval x = .string ⟨p.toArray⟩ := hu
    have hy' : a.eval y = .string ⟨q.toArray⟩ := hy
    refine Does.value (v := .bool (p == q)) (fin _ (.inr (.inr ⟨_, hx⟩)) ?_) (put_ok' hh h rfl)
    rw [hx, hy']
    simp only [binOp, Op.stringOp, toList_mk, Sem.run_pure]
  · rename_i p q
    have hx : a.eval x = .string ⟨p.toArray⟩ := hu
    have hy' : a.eval y = .string ⟨q.toArray⟩ := hy
    refine Does.value (v := .bool (!(p == q))) (fin _ (.inr (.inr ⟨_, hx⟩)) ?_) (put_ok' hh h rfl)
    rw [hx, hy']
    simp only [binOp, Op.stringOp, toList_mk, Sem.run_pure]
  · rename_i p q
    have hx : a.eval x = .bool p := hu
    have hy' : a.eval y = .bool q := hy
    obtain ⟨hz, hh1⟩ := exe_must hh
    have ht : P.underlying t = some .bool := by
      split at hz
      · assumption
      · cases hz
    refine Does.value (v := .bool (p == q)) (fin _ (.inr (.inl ⟨_, hx⟩)) ?_) (put_ok' hh1 h rfl)
    rw [hx, hy']
    simp only [binOp, Op.equal, Op.maxDepth, Sem.run_bind, run_equalIn_bool w 9999 t p q ht, Result.andThen_ok, Sem.run_pure]
  · rename_i p q
    have hx : a.eval x = .bool p := hu
    have hy' : a.eval y = .bool q := hy
    obtain ⟨hz, hh1⟩ := exe_must hh
    have ht : P.underlying t = some .bool := by
      split at hz
      · assumption
      · cases hz
    refine Does.value (v := .bool (!(p == q))) (fin _ (.inr (.inl ⟨_, hx⟩)) ?_) (put_ok' hh1 h rfl)
    rw [hx, hy']
    simp only [binOp, Op.equal, Op.maxDepth, Sem.run_bind, run_equalIn_bool w 9999 t p q ht, Result.andThen_ok, Sem.run_pure]
end
end Go.Am
