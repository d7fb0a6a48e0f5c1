/-
  AM: the operations are sound, part 1.
-/
import Derived.Test.YtjhbpadplglnlaaAmOp
import Derived.Test.YtjhbpadplglnlaaAmSt
set_option linter.unusedVariables false
set_option linter.unusedSimpArgs false
namespace Go.Am
open Go.RowKit

def Pg.exe (n : Nat) (p : Pg) (S : St) : Option St := p.run n S some

section
variable {n : Nat} {S S' : St} {p : Pg}
theorem exe_done (h : Pg.done.exe n S = some S') : S' = S := by simpa [Pg.exe, Pg.run] using h.symm
theorem exe_fail (h : Pg.fail.exe n S = some S') : False := by simp [Pg.exe, Pg.run] at h
theorem exe_slot {i : Nat} {k : AV → Pg} (h : (Pg.slot i k).exe n S = some S') : (k (S.slot i)).exe n S = some S' := h
theorem exe_obj {i : Nat} {k : Option Ob → Pg} (h : (Pg.obj i k).exe n S = some S') : (k (S.obj i)).exe n S = some S' := h
theorem exe_setSlot {i : Nat} {v : AV} (h : (Pg.setSlot i v p).exe n S = some S') : p.exe n (S.setSlot i v) = some S' := h
theorem exe_setObj {i : Nat} {o : Ob} (h : (Pg.setObj i o p).exe n S = some S') : p.exe n (S.setObj i o) = some S' := h
theorem exe_chk {b : Bool} (h : (Pg.chk b p).exe n S = some S') : b = true ∧ p.exe n S = some S' := by
  cases b with
  | true => exact ⟨rfl, h⟩
  | false => simp [Pg.exe, Pg.run, brO] at h
theorem exe_must {b : Bool} (h : (must b p).exe n S = some S') : b = true ∧ p.exe n S = some S' := by
  cases b with
  | true => exact ⟨rfl, h⟩
  | false => exact (exe_fail h).elim
theorem exe_call {c : Cal} {x : c.β} {k : c.α → Pg} (h : (Pg.call c x k).exe n S = some S') : ∃ r, c.F n x = some r ∧ (k r).exe n S = some S' := by
  simp only [Pg.exe, Pg.run] at h
  cases hf : c.F n x with
  | none => rw [hf] at h; cases h
  | some r => rw [hf] at h; exact ⟨r, rfl, h⟩
end

section
variable {C : Ctx} {S S' : St} {θ θ' : Nat → Option Value} {a : Act} {w w' : World} {n : Nat} {ok : Nat → Prop}

theorem intsB_ok {k : IntKind} : ∀ {xs : List Int} {vs : List Value}, intsB k xs vs = true → vs = ints k xs
  | [], [], _ => rfl
  | x :: xs, .int k' y :: vs, h => by
    simp only [intsB, Bool.and_eq_true, beq_iff_eq] at h
    obtain ⟨rfl, rfl, h⟩ := h
    rw [intsB_ok h]
    rfl
  | [], _ :: _, h => by simp [intsB] at h
  | _ :: _, [], h => by simp [intsB] at h
  | x :: xs, v :: vs, h => by
    cases v <;> first | (simp [intsB] at h; done) | skip
    rename_i k' y
    simp only [intsB, Bool.and_eq_true, beq_iff_eq] at h
    obtain ⟨rfl, rfl, h⟩ := h
    rw [intsB_ok h]
    rfl

theorem ints_length (k : IntKind) (xs : List Int) : (ints k xs).length = xs.length := by simp [ints]

mutual
theorem cvB_ok : ∀ (x : AV) (v : Value), cvB x v = true → CV w ok θ x v
  | .undef, v, h => trivial
  | .bool b, v, h => by
    cases v <;> first | (simp [cvB] at h; done) | (simp only [cvB, beq_iff_eq] at h; subst h; rfl)
  | .int k m, v, h => by
    cases v <;> first | (simp [cvB] at h; done) | (simp only [cvB, Bool.and_eq_true, beq_iff_eq] at h; obtain ⟨rfl, rfl⟩ := h; rfl)
  | .str l, v, h => by
    cases v <;> first | (simp [cvB] at h; done) | skip
    simp only [cvB, beq_iff_eq] at h
    subst h
    rfl
  | .nils, v, h => by
    cases v <;> first | (simp [cvB] at h; done) | skip
    rename_i A m c
    cases A <;> first | (simp [cvB] at h; done) | skip
    cases m <;> first | (simp [cvB] at h; done) | skip
    cases c <;> first | (simp [cvB] at h; done) | skip
    rfl
  | .nilp, v, h => by
    cases v <;> first | (simp [cvB] at h; done) | skip
    rename_i A
    cases A <;> first | (simp [cvB] at h; done) | rfl
  | .nili, v, h => by
    cases v <;> first | (simp [cvB] at h; done) | rfl
  | .arr k m xs, v, h => by
    cases v <;> first | (simp [cvB] at h; done) | skip
    simp only [cvB, Bool.and_eq_true] at h
    exact ⟨Nat.eq_of_beq_eq_true h.1, by have := intsB_ok h.2; rw [← this]⟩
  | .agg cs, v, h => by
    cases v <;> first | (simp [cvB] at h; done) | skip
    rename_i vs
    exact ⟨vs, rfl, cvsB_ok cs vs.toList (by simpa [cvB] using h)⟩
  | .fs .., v, h => by simp [cvB] at h
  | .fv .., v, h => by simp [cvB] at h
  | .own .., v, h => by simp [cvB] at h
  | .win .., v, h => by simp [cvB] at h
  | .wina .., v, h => by simp [cvB] at h
  | .ref .., v, h => by simp [cvB] at h
  | .refa .., v, h => by simp [cvB] at h
  | .eref .., v, h => by simp [cvB] at h
  | .fp .., v, h => by simp [cvB] at h
  | .tup .., v, h => by simp [cvB] at h
  | .fn .., v, h => by simp [cvB] at h
theorem cvsB_ok : ∀ (cs : List AV) (vs : List Value), cvsB cs vs = true → CVs w ok θ cs vs
  | [], vs, h => by simpa [cvsB, CVs] using h
  | c :: cs, vs, h => by
    simp only [cvsB] at h
    cases hc : c.isAgg with
    | true =>
      simp only [hc, Bool.and_eq_true] at h
      obtain ⟨h1, h2, h3⟩ := h
      have hl : c.width ≤ vs.length := Nat.le_of_ble_eq_true h1
      refine ⟨.agg (vs.take c.width).toArray, vs.drop c.width, ?_, ?_, cvB_ok c _ h2, cvsB_ok cs _ h3⟩
      · simp [Value.cells]
      · simp [Value.cells, hl]
    | false =>
      simp only [hc] at h
      cases vs with
      | nil => cases h
      | cons v r =>
        simp only [Bool.and_eq_true] at h
        obtain ⟨h1, h2, h3⟩ := h
        have hsz : v.cells.size = 1 := Nat.eq_of_beq_eq_true h1
        have hw : c.width = 1 := by cases c <;> first | rfl | (simp [AV.isAgg] at hc; done)
        have hcv := cvB_ok c v h2
        have hone : v.cells = #[v] := by
          cases c <;> first
            | (simp [AV.isAgg] at hc; done)
            | (simp [cvB] at h2; done)
            | (cases v <;> first | rfl | (simp [cvB] at h2; done))
        exact ⟨v, r, by rw [hone]; rfl, by rw [hsz, hw], hcv, cvsB_ok cs r h3⟩
end

theorem cst_ok {v : Value} {x : AV} (h : cst v = some x) : CV w ok θ x v := by
  unfold cst at h
  split at h <;> first | (cases h; done) | skip
  all_goals (cases h; first | rfl | trivial)

theorem ev_ok {x : Operand} {k : AV → Pg} (h : Rel C S θ a w) (hx : (ev C.G x k).exe n S = some S') : ∃ u, CV w (okOf C w S θ) θ u (a.eval x) ∧ (k u).exe n S = some S' := by
  cases x with
  | tmp t =>
    refine ⟨S.slot t, ?_, exe_slot hx⟩
    simp only [Act.eval]
    cases ht : a.tmps[t]? with
    | some v =>
      have := h.slots t v ht
      simpa [Array.getD_eq_getD_getElem?, ht] using this
    | none =>
      have hl : a.tmps.size ≤ t := by simpa using ht
      have : S.slot t = .undef := by
        have hl' : S.tm.length ≤ t := by rw [← h.len]; exact hl
        simp [St.slot, List.getD_eq_getElem?_getD, List.getElem?_eq_none hl']
      rw [this]
      trivial
  | const v =>
    simp only [ev] at hx
    split at hx
    · rename_i u hu
      exact ⟨u, cst_ok hu, hx⟩
    · exact (exe_fail hx).elim
  | global g =>
    simp only [ev] at hx
    split at hx
    · rename_i t ht
      exact ⟨.fp t, h.globs g t ht, hx⟩
    · exact (exe_fail hx).elim
  | func f => exact ⟨.fn f, rfl, hx⟩

def OptCV (w : World) (ok : Nat → Prop) (θ : Nat → Option Value) : Option AV → Option Value → Prop
  | none, none => True
  | some u, some v => CV w ok θ u v
  | _, _ => False

theorem evO_ok {x : Option Operand} {k : Option AV → Pg} (h : Rel C S θ a w) (hx : (evO C.G x k).exe n S = some S') :
    ∃ u, OptCV w (okOf C w S θ) θ u (x.map a.eval) ∧ (k u).exe n S = some S' := by
  cases x with
  | none => exact ⟨none, trivial, hx⟩
  | some y =>
    obtain ⟨u, hu, hk⟩ := ev_ok h hx
    exact ⟨some u, hu, hk⟩

theorem evL_ok {xs : List Operand} : ∀ {k : List AV → Pg}, Rel C S θ a w → (evL C.G xs k).exe n S = some S' →
    ∃ us, CVt w (okOf C w S θ) θ us (xs.map a.eval) ∧ (k us).exe n S = some S' := by
  induction xs with
  | nil => intro k h hx; exact ⟨[], rfl, hx⟩
  | cons x xs ih =>
    intro k h hx
    simp only [evL] at hx
    obtain ⟨u, hu, hk⟩ := ev_ok h hx
    obtain ⟨us, hus, hk'⟩ := ih h hk
    exact ⟨u :: us, ⟨_, _, rfl, hu, hus⟩, hk'⟩

theorem put_ok {o : Oper} {x : AV} {v : Value} (h : Rel C S θ a w) (hv : CV w (okOf C w S θ) θ x v) (hx : (put o x).exe n S = some S') : Rel C S' θ (a.put o.dst v) w := by
  unfold put at hx
  cases hd : o.dst with
  | none =>
    rw [hd] at hx
    rw [exe_done hx]
    exact h
  | some d =>
    rw [hd] at hx
    rw [exe_done (exe_setSlot hx)]
    exact h.put hv

theorem put_ok' {o : Oper} {x : AV} {v : Value} (hx : (put o x).exe n S = some S') (h : Rel C S θ a w) (hv : CV w (okOf C w S θ) θ x v) : Rel C S' θ (a.put o.dst v) w := put_ok h hv hx

/-- What comes of an operation. -/
def Does (P : Program) (C : Ctx) (S' : St) (o : Oper) (a : Act) (w : World) : Prop :=
  ∃ nx w', (execOp a.eval o).run P w = .ok nx w' ∧ ((∃ v, nx = .value v ∧ ∃ θ', Rel C S' θ' (a.put o.dst v) w') ∨ (nx = .skip ∧ ∃ θ', Rel C S' θ' (a.put o.dst undef) w'))

theorem Does.value {P : Program} {o : Oper} {v : Value} (hr : (execOp a.eval o).run P w = .ok (.value v) w') (h : Rel C S' θ' (a.put o.dst v) w') : Does P C S' o a w :=
  ⟨_, _, hr, .inl ⟨v, rfl, θ', h⟩⟩

theorem CV_one : ∀ {x : AV} {v : Value}, x.isAgg = false → x.stor = true → CV w ok θ x v → v.cells = #[v]
  | .undef, v, _, h, _ => by cases h
  | .bool b, v, _, _, h => by cases (h : v = _); rfl
  | .int k n, v, _, _, h => by cases (h : v = _); rfl
  | .str l, v, _, _, h => by cases (h : v = _); rfl
  | .nils, v, _, _, h => by cases (h : v = _); rfl
  | .nilp, v, _, _, h => by cases (h : v = _); rfl
  | .nili, v, _, _, h => by cases (h : v = _); rfl
  | .arr .., v, h, _, _ => by cases h
  | .agg .., v, h, _, _ => by cases h
  | .fs .., v, _, _, h => by obtain ⟨A, c, rfl, _⟩ := h; rfl
  | .fv .., v, _, _, h => by obtain ⟨A, c, cs, rfl, _⟩ := h; rfl
  | .win .., v, _, _, h => by obtain ⟨A, c, rfl, _⟩ := h; rfl
  | .wina .., v, _, _, h => by obtain ⟨A, c, rfl, _⟩ := h; rfl
  | .ref .., v, _, _, h => by obtain ⟨g, _, rfl⟩ := h; rfl
  | .refa .., v, _, _, h => by obtain ⟨_, g, _, rfl⟩ := h; rfl
  | .eref .., v, _, _, h => by obtain ⟨g, n, c, _, _, rfl⟩ := h; rfl
  | .fp .., v, _, _, h => by obtain ⟨A, u, rfl, _⟩ := h; rfl
  | .tup .., v, _, h, _ => by cases h
  | .fn f, v, _, _, h => by cases (h : v = _); rfl
  | .own d, v, _, _, h => by obtain ⟨_, A, n, c, rfl⟩ := h; rfl

/-- The cells of what can be stored are as many as the width says. -/
theorem CV_size : ∀ {x : AV} {v : Value}, x.stor = true → CV w ok θ x v → v.cells.size = x.width := by
  intro x v hs h
  cases hx : x.isAgg with
  | false =>
    rw [CV_one hx hs h]
    cases x <;> first | rfl | (simp [AV.isAgg] at hx; done)
  | true =>
    cases x with
    | arr k m xs =>
      obtain ⟨h1, rfl⟩ := h
      simp [Value.cells, AV.width, ints, h1]
    | agg cs =>
      obtain ⟨vs, rfl, h2⟩ := h
      have := CVs_length h2
      simpa [Value.cells, AV.width] using this
    | _ => simp [AV.isAgg] at hx

def upd (θ : Nat → Option Value) (d : Nat) (v : Value) : Nat → Option Value := fun i => if i = d then some v else θ i
theorem upd_self (θ : Nat → Option Value) (d : Nat) (v : Value) : upd θ d v d = some v := by simp [upd]
theorem upd_ne (θ : Nat → Option Value) {d i : Nat} (v : Value) (h : i ≠ d) : upd θ d v i = θ i := by simp [upd, h]

/-- A new object comes into the state. -/
theorem Rel.born' (h : Rel C S θ a w) {d : Nat} {b : Ob} {v : Value} (hd : S.obj d = none) (hw : Below w.heap.size w w') (hblk : ∀ g, blk v = some g → w.heap.size ≤ g) (hb0 : base0 v)
    (hob : Keeps w w' (okOf C w S θ) (okOf C w' (S.setObj d b) (upd θ d v)) θ (upd θ d v) → OV C w' (okOf C w' (S.setObj d b) (upd θ d v)) (upd θ d v) d b) : Rel C (S.setObj d b) (upd θ d v) a w' := by
  refine h.turn (fun i => i = d) (fun _ => False) rfl (fun i hi => ⟨obj_setObj_other _ _ _ _ hi, upd_ne _ _ hi⟩) ?_ hw.os hw.tape hw.output hw.size (fun g hg _ => hw.block g hg) (fun _ h => h.elim) ?_ ?_ ?_ ?_ ?_
  · intro i x hi
    by_cases e : i = d
    · subst e
      rw [h.fresh i hd] at hi
      cases hi
    · rw [upd_ne _ _ e]
      exact hi
  · rintro i o u g rfl ho hown hu hg
    rw [upd_self] at hu
    cases hu
    exact .inl (hblk g hg)
  · rintro i j o o' u u' g rfl rfl _ _ _ _ hne
    exact (hne rfl).elim
  · rintro i rfl hi
    rw [obj_setObj_same] at hi
    cases hi
  · rintro i u rfl hu
    rw [upd_self] at hu
    cases hu
    exact hb0
  · rintro hk i o rfl ho
    rw [obj_setObj_same] at ho
    cases ho
    exact hob hk

theorem Rel.born (h : Rel C S θ a w) {d : Nat} {b : Ob} {v : Value} (hd : S.obj d = none) (hw : Below w.heap.size w w') (hblk : ∀ g, blk v = some g → w.heap.size ≤ g) (hb0 : base0 v)
    (hob : ∀ ok', Keeps w w' (okOf C w S θ) ok' θ (upd θ d v) → OV C w' ok' (upd θ d v) d b) : Rel C (S.setObj d b) (upd θ d v) a w' :=
  h.born' hd hw hblk hb0 (hob _)

theorem newOb_ok {o : Oper} {b : Ob} {mk : Nat → AV} {v : Value} (h : Rel C S θ a w) (hx : (newOb o b mk).exe n S = some S') (hw : Below w.heap.size w w')
    (hblk : ∀ g, blk v = some g → w.heap.size ≤ g) (hb0 : base0 v)
    (hob : ∀ d ok' θ', Keeps w w' (okOf C w S θ) ok' θ θ' → θ' d = some v → OV C w' ok' θ' d b)
    (hcv : ∀ d ok' θ', θ' d = some v → CV w' ok' θ' (mk d) v) : ∃ θ', Rel C S' θ' (a.put o.dst v) w' := by
  unfold newOb at hx
  cases hd : o.dst with
  | none => rw [hd] at hx; exact (exe_fail hx).elim
  | some d =>
    rw [hd] at hx
    have hx := exe_obj hx
    cases ho : S.obj d with
    | some q => rw [ho] at hx; exact (exe_fail hx).elim
    | none =>
      rw [ho] at hx
      rw [exe_done (exe_setSlot (exe_setObj hx))]
      refine ⟨upd θ d v, (h.born ho hw hblk hb0 (fun ok' hk => hob d ok' _ hk (upd_self _ _ _))).put ?_⟩
      exact hcv d _ _ (upd_self _ _ _)

theorem Below.new (w : World) (X : Obj) : Below w.heap.size w (w.alloc X) := (Below.refl _ _).alloc (Nat.le_refl _) _

theorem base0_ptr (ad : Option Addr) : base0 (.pointer ad) := fun _ _ _ h => by cases h
theorem base0_row (g n c : Nat) : base0 (.slice (some ⟨g, 0, none⟩) n c) := fun _ _ _ h => by cases h; exact ⟨g, rfl⟩
theorem base0_nil : base0 (.slice none 0 0) := fun _ _ _ h => by cases h

theorem free00 (cur : Array Value) : Free cur (0, 0) := ⟨Nat.le_refl _, fun o _ h => by have := h.2; simp at this⟩

theorem run_newVar (P : Program) (w : World) (t : TypeId) (v : Value) : (newVar t v).run P w = .ok ⟨w.heap.size, 0, none⟩ (w.alloc (.cells v.cells t)) := rfl

theorem opBox_ok {P : Program} {o : Oper} {e : TypeId} {x : Operand} {u : AV} (ho : o.op = .box e x) (h : Rel C S θ a w) (hu : CV w (okOf C w S θ) θ u (a.eval x))
    (hx : (opBox o u).exe n S = some S') : Does P C S' o a w := by
  obtain ⟨hs, hx⟩ := exe_must hx
  obtain ⟨θ', hr⟩ := newOb_ok (v := .pointer (some ⟨w.heap.size, 0, none⟩)) h hx (Below.new w (.cells (a.eval x).cells e)) (by rintro g hg; cases hg; exact Nat.le_refl _) (base0_ptr _)
    (by
      intro d ok' θ' hk hd
      exact ⟨w.heap.size, e, (0, 0), a.eval x, hd, heap_alloc_new w _, free00 _, CV_mono hk _ _ hu, CV_size hs hu, .inl h.size⟩)
    (by
      intro d ok' θ' hd
      exact ⟨_, hd, rfl⟩)
  refine Does.value (v := .pointer (some ⟨w.heap.size, 0, none⟩)) ?_ hr
  simp only [execOp, ho, Instr.box, Sem.run_bind, run_newVar, Result.andThen_ok, Sem.run_pure]

theorem opAlloc_ok {P : Program} {o : Oper} {e : TypeId} (ho : o.op = .alloc e) (h : Rel C S θ a w) (hx : (opAlloc P o e).exe n S = some S') : Does P C S' o a w := by
  unfold opAlloc at hx
  split at hx
  · rename_i i z hi hz
    split at hx
    · rename_i v hv
      obtain ⟨hc, hx⟩ := exe_must hx
      simp only [Bool.and_eq_true] at hc
      obtain ⟨θ', hr⟩ := newOb_ok (v := .pointer (some ⟨w.heap.size, 0, none⟩)) h hx (Below.new w (.cells v.cells e)) (by rintro g hg; cases hg; exact Nat.le_refl _) (base0_ptr _)
        (by
          intro d ok' θ' hk hd
          exact ⟨w.heap.size, e, (0, 0), v, hd, heap_alloc_new w _, free00 _, cvB_ok _ _ hc.1, Nat.eq_of_beq_eq_true hc.2, .inl h.size⟩)
        (by
          intro d ok' θ' hd
          exact ⟨_, hd, rfl⟩)
      refine Does.value (v := .pointer (some ⟨w.heap.size, 0, none⟩)) ?_ hr
      simp only [execOp, ho, Instr.alloc, zeroValue, typeInfo, Sem.run_bind, run_program, Result.andThen_ok, hi, hv, Sem.run_pure, run_newVar]
    · exact (exe_fail hx).elim
  · exact (exe_fail hx).elim

theorem opPick_ok {P : Program} {o : Oper} {c x y : Operand} {uc ux uy : AV} (ho : o.op = .pick c x y) (h : Rel C S θ a w) (hc : CV w (okOf C w S θ) θ uc (a.eval c))
    (hx : CV w (okOf C w S θ) θ ux (a.eval x)) (hy : CV w (okOf C w S θ) θ uy (a.eval y)) (hh : (opPick o uc ux uy).exe n S = some S') : Does P C S' o a w := by
  unfold opPick at hh
  cases uc <;> first | exact (exe_fail hh).elim | skip
  rename_i b
  have hc' : a.eval c = .bool b := hc
  refine Does.value (v := if b then a.eval x else a.eval y) ?_ (put_ok h ?_ hh)
  · simp only [execOp, ho, Sem.run_bind, hc', asBool, Sem.run_pure, Result.andThen_ok]
  · unfold sel
    split
    · rename_i p q
      have h1 : a.eval x = .bool p := hx
      have h2 : a.eval y = .bool q := hy
      rw [h1, h2]
      cases b <;> rfl
    · rename_i k p k' q
      have h1 : a.eval x = .int k p := hx
      have h2 : a.eval y = .int k' q := hy
      rw [h1, h2]
      cases hk : k == k' with
      | true =>
        have := eq_of_beq hk
        subst this
        cases b <;> rfl
      | false => cases b <;> rfl
    · cases b
      · exact hy
      · exact hx

end
end Go.Am
