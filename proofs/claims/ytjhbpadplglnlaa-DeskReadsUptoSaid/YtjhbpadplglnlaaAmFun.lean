/-
  AM: functions.
-/
import Derived.Test.YtjhbpadplglnlaaAmCode
set_option linter.unusedVariables false
set_option linter.unusedSimpArgs false
namespace Go.Am
open Go.RowKit

mutual
def flatS : Sh → Bool
  | .int _ => true
  | .bool => true
  | .str => true
  | .arr _ _ => true
  | .agg l => flatsS l
  | .fs _ => false
  | .fv _ => false
def flatsS : List Sh → Bool
  | [] => true
  | s :: l => flatS s && flatsS l
end

/-- A function: its code, its slots, where its results lie and as what, whether they may show what came in. -/
structure FnD where
  body : Code
  m : Nat
  rs : Tpl
  ty : List TypeId
  own : Option Nat
  esc : Bool

def isOwn (own : Option Nat) (j : Nat) : Bool := match own with | some q => Nat.beq q j | none => false
def elemIs (P : Program) (t e : TypeId) : Bool := match elemT P t with | some e' => Nat.beq e e' | none => false

def okAt (P : Program) (own : Option Nat) (esc : Bool) : Nat → Tpl → List TypeId → Bool
  | _, [], [] => true
  | j, (_, t) :: r, ty :: tys => (match t with
    | .val s => !isOwn own j && (esc || flatS s)
    | .row e _ => isOwn own j && elemIs P ty e
    | .rows e s => isOwn own j && (elemIs P ty e && (esc || flatS s))
    | .box _ => false) && okAt P own esc (j + 1) r tys
  | _, _, _ => false

def FnD.good (P : Program) (D : FnD) : Bool := okAt P D.own D.esc 0 D.rs D.ty && (match D.own with | some q => Nat.blt q D.rs.length | none => true)

def FnD.run (P : Program) (glob : Nat → Option AV) (cal : FuncId → Option Cal) (H : Hints) (D : FnD) (n : Nat) (as : List AV) : Option (List AV) :=
  exec n D.m P glob cal H D.body ⟨as ++ List.replicate (D.m - as.length) .undef, []⟩ fun e S => match e with
    | .ext _ => none
    | .nrm => absT S D.rs [] []
    | .ret => absT S D.rs [] []

/-- The results by their constructors. -/
def etaK : Tk → AV → AV
  | .val s, x => eta s x
  | .row _ k, x => .fs k x.toInts
  | .rows _ s, x => .fv s x.toElems
  | .box s, x => eta s x
def etaL : Tpl → List AV → List AV
  | [], _ => []
  | (_, t) :: r, d => etaK t (d.headD .undef) :: etaL r d.tail

def mkCal (D : FnD) (F : Nat → List AV → Option (List AV)) : Cal :=
  { β := List AV, α := List AV, F := F, dec := some, res := etaL D.rs, ty := D.ty, own := D.own, esc := D.esc }

section
variable {C : Ctx} {S S' T : St} {θ θ' : Nat → Option Value} {a : Act} {w w' : World} {n m : Nat} {P : Program} {o : Oper} {ok ok' : Nat → Prop}

mutual
theorem CV_flat : ∀ (s : Sh) (x : AV) (v : Value), WT s x → flatS s = true → CV w ok θ x v → CV w' ok' θ' x v
  | .int k, x, v, hw, hf, h => by obtain ⟨_, rfl⟩ := hw; exact h
  | .bool, x, v, hw, hf, h => by obtain ⟨_, rfl⟩ := hw; exact h
  | .str, x, v, hw, hf, h => by obtain ⟨_, rfl⟩ := hw; exact h
  | .arr k n, x, v, hw, hf, h => by obtain ⟨_, rfl⟩ := hw; exact h
  | .agg l, x, v, hw, hf, h => by
    obtain ⟨cs, rfl, hc⟩ := hw
    obtain ⟨vs, rfl, h1⟩ := h
    exact ⟨vs, rfl, CVs_flat l cs _ hc hf h1⟩
  | .fs k, x, v, hw, hf, h => by cases (show false = true from hf)
  | .fv s, x, v, hw, hf, h => by cases (show false = true from hf)
theorem CVs_flat : ∀ (l : List Sh) (cs : List AV) (vs : List Value), WTs l cs → flatsS l = true → CVs w ok θ cs vs → CVs w' ok' θ' cs vs
  | [], cs, vs, hw, hf, h => by simp only [WTs] at hw; subst hw; exact h
  | s :: l, cs, vs, hw, hf, h => by
    obtain ⟨c, r, rfl, h1, h2⟩ := hw
    have hf : (flatS s && flatsS l) = true := hf
    rw [Bool.and_eq_true] at hf
    obtain ⟨v, rest, rfl, hs, k1, k2⟩ := h
    exact ⟨v, rest, rfl, hs, CV_flat s c v h1 hf.1 k1, CVs_flat l r rest h2 hf.2 k2⟩
end

theorem CVs_flat_row {s : Sh} (hf : flatS s = true) : ∀ {xs : List AV} {cs : List Value}, (∀ x ∈ xs, WT s x) → CVs w ok θ xs cs → CVs w' ok' θ' xs cs
  | [], cs, _, h => h
  | x :: xs, cs, hw, h => by
    obtain ⟨v, rest, rfl, hs, h1, h2⟩ := h
    exact ⟨v, rest, rfl, hs, CV_flat s x v (hw x (by simp)) hf h1, CVs_flat_row hf (fun y hy => hw y (by simp [hy])) h2⟩

theorem slot_in (h : Rel C S θ a w) {i : Nat} (hi : S.slot i ≠ .undef) : ∃ u, a.tmps[i]? = some u ∧ a.tmps.getD i undef = u ∧ CV w (okOf C w S θ) θ (S.slot i) u := by
  have hlt : i < a.tmps.size := by
    rw [h.len]
    rcases Nat.lt_or_ge i S.tm.length with h1 | h1
    · exact h1
    · simp [St.slot, List.getD_eq_getElem?_getD, h1] at hi
  exact ⟨a.tmps[i], Array.getElem?_eq_getElem hlt, by simp [hlt], h.slots i _ (Array.getElem?_eq_getElem hlt)⟩

theorem fit_undef (s : Sh) : fitA s .undef = false := by cases s <;> rfl

theorem dataAt_undef {s : Sh} {r : AV × Option Nat} (h : dataAt S s .undef = some r) : False := by
  obtain ⟨x, d⟩ := r
  unfold dataAt at h
  split at h
  · rename_i e; cases e
  · rename_i e; cases e
  · rename_i e; cases e
  · rename_i e; cases e
  · have := (okD_some h).1
    rw [fit_undef] at this
    cases this

theorem val_res (h : Rel C S θ a w) {i : Nat} {s : Sh} {x : AV} {d : Option Nat} (hx : abs1 S i (.val s) = some (x, d)) : d = none ∧ WT s x ∧ CV w (okOf C w S θ) θ x (a.tmps.getD i undef) := by
  have hx : dataAt S s (S.slot i) = some (x, d) := hx
  obtain ⟨u, h1, h2, h3⟩ := slot_in h (i := i) (fun e => by rw [e] at hx; exact dataAt_undef hx)
  rw [h2]
  exact dataAt_ok h h3 hx

theorem absT_cons {i : Nat} {t : Tk} {r : Tpl} {is ds : List Nat} {l : List AV} (h : absT S ((i, t) :: r) is ds = some l) : ∃ x d l' is' ds', l = x :: l' ∧ abs1 S i t = some (x, d) ∧ absT S r is' ds' = some l' := by
  simp only [absT] at h
  split at h
  · cases h
  split at h
  · rename_i x hx
    split at h
    · rename_i l' hl
      cases h
      exact ⟨x, none, l', _, _, rfl, hx, hl⟩
    · cases h
  · rename_i x d hx
    split at h
    · cases h
    split at h
    · rename_i l' hl
      cases h
      exact ⟨x, some d, l', _, _, rfl, hx, hl⟩
    · cases h
  · cases h

theorem dataAt_WT {s : Sh} {v x : AV} {d : Option Nat} (hd : dataAt S s v = some (x, d)) : WT s x := by
  unfold dataAt at hd
  split at hd
  · cases hd; exact ⟨[], rfl⟩
  · cases hd; exact ⟨[], rfl⟩
  · split at hd <;> first | (cases hd; done) | skip
    obtain ⟨h2, rfl, rfl⟩ := okD_some hd
    exact ⟨_, by rw [beq_iff_eq.1 h2]⟩
  · split at hd <;> first | (cases hd; done) | skip
    obtain ⟨h2, rfl, rfl⟩ := okD_some hd
    exact ⟨_, by rw [shEq_eq h2]⟩
  · obtain ⟨h2, rfl, rfl⟩ := okD_some hd
    exact fit_WT _ _ h2

theorem abs1_eta {i : Nat} {t : Tk} {x : AV} {d : Option Nat} (h : abs1 S i t = some (x, d)) : etaK t x = x := by
  cases t with
  | val s => exact eta_of_WT s x (dataAt_WT h)
  | row e k =>
    simp only [abs1] at h
    split at h <;> first | (cases h; done) | skip
    · cases h; rfl
    · split at h <;> first | (cases h; done) | skip
      split at h <;> first | (cases h; done) | skip
      obtain ⟨_, rfl, rfl⟩ := okD_some h
      rfl
  | rows e s =>
    simp only [abs1] at h
    split at h <;> first | (cases h; done) | skip
    · cases h; rfl
    · split at h <;> first | (cases h; done) | skip
      split at h <;> first | (cases h; done) | skip
      obtain ⟨_, rfl, rfl⟩ := okD_some h
      rfl
  | box s =>
    simp only [abs1] at h
    split at h <;> first | (cases h; done) | skip
    split at h <;> first | (cases h; done) | skip
    obtain ⟨h2, rfl, rfl⟩ := okD_some h
    exact eta_of_WT s _ (fit_WT _ _ h2)

theorem etaL_absT : ∀ (rs : Tpl) (is ds : List Nat) (l : List AV), absT S rs is ds = some l → etaL rs l = l
  | [], is, ds, l, h => by cases h; rfl
  | (i, t) :: r, is, ds, l, h => by
    obtain ⟨x, d, l', is', ds', rfl, h1, h2⟩ := absT_cons h
    simp only [etaL, List.headD_cons, List.tail_cons, abs1_eta h1, etaL_absT r is' ds' l' h2]

theorem absT_get : ∀ (rs : Tpl) (is ds : List Nat) (l : List AV), absT S rs is ds = some l → l.length = rs.length ∧ ∀ (j i : Nat) (t : Tk), rs[j]? = some (i, t) → ∃ x d, l[j]? = some x ∧ abs1 S i t = some (x, d)
  | [], is, ds, l, h => by
    cases h
    exact ⟨rfl, fun j i t hj => by simp at hj⟩
  | (i, t) :: r, is, ds, l, h => by
    obtain ⟨x, d, l', is', ds', rfl, h1, h2⟩ := absT_cons h
    obtain ⟨h3, h4⟩ := absT_get r is' ds' l' h2
    refine ⟨by simp [h3], fun j i' t' hj => ?_⟩
    cases j with
    | zero =>
      simp only [List.getElem?_cons_zero, Option.some.injEq, Prod.mk.injEq] at hj
      obtain ⟨rfl, rfl⟩ := hj
      exact ⟨x, d, rfl, h1⟩
    | succ j => simpa using h4 j i' t' (by simpa using hj)

/-- The results that are data. -/
theorem res_data (h : Rel C S θ a w) {own : Option Nat} {esc : Bool} {okr : Nat → Prop} (hokr : esc = true → ∀ b, okOf C w S θ b → okr b) : ∀ (rs : Tpl) (tys : List TypeId) (j : Nat) (is ds : List Nat) (l : List AV), okAt P own esc j rs tys = true → absT S rs is ds = some l →
    rs.length = tys.length ∧ (∀ i b, l[i]? = some b → isOwn own (j + i) = false → ∃ s, WT s b) ∧
    CVt w okr (fun _ => none) (match own with | some q => if j ≤ q then l.set (q - j) .undef else l | none => l) (rs.map fun p => a.tmps.getD p.1 undef)
  | [], [], j, is, ds, l, hok, hl => by
    cases hl
    refine ⟨rfl, fun i b hi => by simp at hi, ?_⟩
    cases own with
    | none => rfl
    | some q => by_cases hj : j ≤ q <;> simp [hj] <;> rfl
  | (i, t) :: r, ty :: tys, j, is, ds, l, hok, hl => by
    obtain ⟨x, d, l', is', ds', rfl, h1, h2⟩ := absT_cons hl
    simp only [okAt, Bool.and_eq_true] at hok
    obtain ⟨hok1, hok2⟩ := hok
    obtain ⟨k1, k2, k3⟩ := res_data h hokr r tys (j + 1) is' ds' l' hok2 h2
    cases t with
    | val s =>
      simp only [Bool.and_eq_true, Bool.not_eq_true', Bool.or_eq_true] at hok1
      obtain ⟨ho, hf⟩ := hok1
      obtain ⟨rfl, hw, hcv⟩ := val_res h h1
      have hcv' : CV w okr (fun _ => none) x (a.tmps.getD i undef) := by
        rcases hf with hf | hf
        · exact CV_noname hw (CV_mono (keepsOk (hokr hf)) _ _ hcv)
        · exact CV_flat s x _ hw hf hcv
      refine ⟨by simp [k1], fun p b hp hb => ?_, ?_⟩
      · cases p with
        | zero => simp at hp; subst hp; exact ⟨s, hw⟩
        | succ p => exact k2 p b (by simpa using hp) (by rw [show j + 1 + p = j + (p + 1) by omega]; exact hb)
      · cases own with
        | none => exact ⟨_, _, rfl, hcv', k3⟩
        | some q =>
          have hqj : q ≠ j := fun e => by subst e; simp [isOwn] at ho
          dsimp only at k3 ⊢
          by_cases hj : j ≤ q
          · rw [show (if j ≤ q then (x :: l').set (q - j) .undef else x :: l') = x :: l'.set (q - (j + 1)) .undef by
              rw [if_pos hj, show q - j = (q - (j + 1)) + 1 by omega]; rfl]
            rw [if_pos (show j + 1 ≤ q by omega)] at k3
            exact ⟨_, _, rfl, hcv', k3⟩
          · simp only [hj, if_false]
            simp only [show ¬ j + 1 ≤ q by omega, if_false] at k3
            exact ⟨_, _, rfl, hcv', k3⟩
    | row e k =>
      simp only [Bool.and_eq_true] at hok1
      obtain ⟨ho, _⟩ := hok1
      refine ⟨by simp [k1], fun p b hp hb => ?_, ?_⟩
      · cases p with
        | zero => rw [Nat.add_zero, ho] at hb; cases hb
        | succ p => exact k2 p b (by simpa using hp) (by rw [show j + 1 + p = j + (p + 1) by omega]; exact hb)
      · cases own with
        | none => cases ho
        | some q =>
          have hqj : q = j := by simpa [isOwn] using ho
          subst hqj
          simp only [Nat.le_refl, if_true, Nat.sub_self, List.set_cons_zero]
          simp only [show ¬ q + 1 ≤ q by omega, if_false] at k3
          exact ⟨_, _, rfl, trivial, k3⟩
    | rows e s =>
      simp only [Bool.and_eq_true] at hok1
      obtain ⟨ho, _⟩ := hok1
      refine ⟨by simp [k1], fun p b hp hb => ?_, ?_⟩
      · cases p with
        | zero => rw [Nat.add_zero, ho] at hb; cases hb
        | succ p => exact k2 p b (by simpa using hp) (by rw [show j + 1 + p = j + (p + 1) by omega]; exact hb)
      · cases own with
        | none => cases ho
        | some q =>
          have hqj : q = j := by simpa [isOwn] using ho
          subst hqj
          simp only [Nat.le_refl, if_true, Nat.sub_self, List.set_cons_zero]
          simp only [show ¬ q + 1 ≤ q by omega, if_false] at k3
          exact ⟨_, _, rfl, trivial, k3⟩
    | box s => simp at hok1
  | [], _ :: _, j, is, ds, l, hok, hl => by cases (show false = true from hok)
  | _ :: _, [], j, is, ds, l, hok, hl => by cases (show false = true from hok)

theorem okAt_get {own : Option Nat} {esc : Bool} : ∀ (rs : Tpl) (tys : List TypeId) (j : Nat), okAt P own esc j rs tys = true → ∀ k i t, rs[k]? = some (i, t) → isOwn own (j + k) = true →
    ∃ ty e, tys[k]? = some ty ∧ elemT P ty = some e ∧ ((∃ kk, t = .row e kk) ∨ ∃ s, t = .rows e s ∧ (esc = true ∨ flatS s = true))
  | [], tys, j, h, k, i, t, hk, _ => by simp at hk
  | _ :: _, [], j, h, _, _, _, _, _ => by cases (show false = true from h)
  | (i', t') :: r, ty :: tys, j, h, k, i, t, hk, ho => by
    simp only [okAt, Bool.and_eq_true] at h
    cases k with
    | zero =>
      simp only [List.getElem?_cons_zero, Option.some.injEq, Prod.mk.injEq] at hk
      obtain ⟨rfl, rfl⟩ := hk
      rw [Nat.add_zero] at ho
      have el : ∀ e, elemIs P ty e = true → elemT P ty = some e := fun e he => by
        unfold elemIs at he
        split at he
        · rename_i e' hee
          have : e = e' := by simpa using he
          rw [hee, this]
        · cases he
      have h1 := h.1
      cases t' with
      | val s => simp [ho] at h1
      | row e kk => simp only [Bool.and_eq_true] at h1; exact ⟨ty, e, rfl, el e h1.2, .inl ⟨kk, rfl⟩⟩
      | rows e s => simp only [Bool.and_eq_true, Bool.or_eq_true] at h1; exact ⟨ty, e, rfl, el e h1.2.1, .inr ⟨s, rfl, h1.2.2⟩⟩
      | box s => simp at h1
    | succ k => exact okAt_get r tys (j + 1) h.2 k i t (by simpa using hk) (by rw [show j + 1 + k = j + (k + 1) by omega]; exact ho)

/-- The result that is the callee's own. -/
theorem res_own (h : Rel C S θ a w) {ty : TypeId} {e : TypeId} {i : Nat} {t : Tk} {x : AV} {d : Option Nat} {esc : Bool} {okr : Nat → Prop} (hx : abs1 S i t = some (x, d)) (he : elemT P ty = some e) (ht : (∃ kk, t = .row e kk) ∨ ∃ s, t = .rows e s ∧ (esc = true ∨ flatS s = true))
    (hw0 : w'.heap.size = C.B) (hokr : (∀ b, blk (a.tmps.getD i undef) = some b → OwnB S θ b) → esc = true → ∀ b, okOf C w S θ b → okr b) :
    OwnRes P w' w okr ty x (a.tmps.getD i undef) ∧ ∀ b, blk (a.tmps.getD i undef) = some b → OwnB S θ b := by
  rcases ht with ⟨kk, rfl⟩ | ⟨s, rfl, hf⟩
  · simp only [abs1] at hx
    split at hx
    · rename_i hs
      obtain ⟨u, _, h2, h3⟩ := slot_in h (i := i) (by rw [hs]; intro e; cases e)
      rw [hs] at h3
      have h3 : u = .slice none 0 0 := h3
      rw [h2, h3]
      cases hx
      exact ⟨⟨fun ad n c e => (by cases e), ⟨_, _, _, rfl⟩, e, he, .inl ⟨kk, [], rfl, rfl, .inl ⟨rfl, rfl⟩⟩⟩, fun b hb => (by cases hb)⟩
    · rename_i d' hs
      split at hx <;> first | (cases hx; done) | skip
      rename_i ob ho
      split at hx <;> first | (cases hx; done) | skip
      rename_i e' xs has
      obtain ⟨h2, rfl, rfl⟩ := okD_some hx
      have h2 : e = e' := by simpa using h2
      subst h2
      obtain ⟨u, _, h4, h5⟩ := slot_in h (i := i) (by rw [hs]; intro e; cases e)
      rw [hs] at h5
      obtain ⟨h6, h7⟩ := h5
      obtain ⟨hisO, v, h8, h9⟩ := asRow_ok h ho has
      rw [h6] at h8
      cases h8
      rw [h4]
      refine ⟨⟨h.base _ _ h6, h7, e, he, .inl ⟨kk, xs, rfl, ?_⟩⟩, fun b hb => ⟨d', _, u, ho, hisO, h6, hb⟩⟩
      rw [hw0]
      exact h9
    · cases hx
  · simp only [abs1] at hx
    split at hx
    · rename_i hs
      obtain ⟨u, _, h2, h3⟩ := slot_in h (i := i) (by rw [hs]; intro e; cases e)
      rw [hs] at h3
      have h3 : u = .slice none 0 0 := h3
      rw [h2, h3]
      cases hx
      exact ⟨⟨fun ad n c e => (by cases e), ⟨_, _, _, rfl⟩, e, he, .inr ⟨s, [], [], rfl, by simp, rfl, by simp, .inl ⟨rfl, rfl⟩⟩⟩, fun b hb => (by cases hb)⟩
    · rename_i d' hs
      split at hx <;> first | (cases hx; done) | skip
      rename_i ob ho
      split at hx <;> first | (cases hx; done) | skip
      rename_i e' xs has
      obtain ⟨h2, rfl, rfl⟩ := okD_some hx
      have h2 : e = e' := by simpa using h2
      subst h2
      obtain ⟨u, _, h4, h5⟩ := slot_in h (i := i) (by rw [hs]; intro e; cases e)
      rw [hs] at h5
      obtain ⟨h6, h7⟩ := h5
      obtain ⟨hisO, v, cs, h8, hw, h10, h11⟩ := asRows_ok h ho has
      rw [h6] at h8
      cases h8
      rw [h4]
      have hB : ∀ b, blk u = some b → OwnB S θ b := fun b hb => ⟨d', _, u, ho, hisO, h6, hb⟩
      refine ⟨⟨h.base _ _ h6, h7, e, he, .inr ⟨s, xs, cs, rfl, hw, ?_, ?_⟩⟩, hB⟩
      · rcases hf with hf | hf
        · exact CVs_noname hw (CVs_mono (keepsOk (hokr (by rw [h4]; exact hB) hf)) _ _ h10)
        · exact CVs_flat_row hf hw h10
      · rw [hw0]
        exact h11
    · cases hx

theorem results_tmps {fn : Func} {rs : Tpl} (h : fn.results = (rs.map fun p => ResultVar.tmp p.1).toArray) (tmps : Array Value) (w : World) :
    ∃ v, (results fn tmps).run P w = .ok v w ∧ ((rs.length = 1 ∧ (rs.map fun p => tmps.getD p.1 undef) = [v]) ∨ (rs.length ≠ 1 ∧ v = .tuple (rs.map fun p => tmps.getD p.1 undef).toArray)) := by
  have key : ∀ (f : ResultVar → Sem Value), (∀ u, f (.tmp u) = pure (tmps.getD u undef)) → ∀ rs : Tpl, ((rs.map fun p => ResultVar.tmp p.1).mapM f).run P w = .ok (rs.map fun p => tmps.getD p.1 undef) w := by
    intro f hf rs
    induction rs with
    | nil => simp
    | cons p rs ih =>
      rw [List.map_cons, List.mapM_cons, hf]
      simp only [Sem.run_bind, Sem.run_pure, Result.andThen_ok, ih, List.map_cons]
  unfold results
  rw [h, List.mapM_toArray]
  simp only [Sem.run_bind, Sem.run_map]
  rw [key]
  · by_cases hl : rs.length = 1
    · match rs, hl with
      | [p], _ => exact ⟨tmps.getD p.1 undef, by simp, .inl ⟨rfl, rfl⟩⟩
    · exact ⟨.tuple (rs.map fun p => tmps.getD p.1 undef).toArray, by simp [hl], .inr ⟨hl, rfl⟩⟩
  · intro u; rfl

/-- What is to be shown of a function's code, for its F. -/
def BodyOk (P : Program) (G : Nat → Option AV) (D : FnD) (F : Nat → List AV → Option (List AV)) : Prop :=
  ∀ (C : Ctx) (n : Nat) (as r : List AV), C.G = G → F n as = some r → ∀ (θ : Nat → Option Value) (a : Act) (w : World), Rel C ⟨as ++ List.replicate (D.m - as.length) .undef, []⟩ θ a w →
    ∀ Q : Exit → Act → World → Prop, (∀ (e : Ex) S' θ' a' w', (match e with | .ext _ => none | .nrm => absT S' D.rs [] [] | .ret => absT S' D.rs [] []) = some r → Rel C S' θ' a' w' → a'.defers = a.defers → Q e.to a' w') → D.body.wp P Q a w

theorem FnD.sound_of {G : Nat → Option AV} (hG : ∀ g t, G g = some t → ∃ s, WT s t) {f : FuncId} {fn : Func} {D : FnD} {Fn : Nat → List AV → Option (List AV)} (hbody : BodyOk P G D Fn)
    (hf : P.funcs[f]? = some fn) (hb : fn.body = some D.body) (hn : fn.name ≠ "runtime.NumGoroutine") (hnt : fn.ntmps = D.m) (hres : fn.results = (D.rs.map fun p => ResultVar.tmp p.1).toArray) (hg : D.good P = true) :
    SoundCal P G f (mkCal D Fn) := by
  refine ⟨⟨fn, hf, by rw [hb]; rfl, hn⟩, ?_⟩
  intro n x r hF w args F as hFb hdec hargs hglob
  have hx : as = x := by cases hdec; rfl
  subst hx
  refine calls_of_wp hf hb ?_
  let C : Ctx := { w0 := w, I := fun _ => False, F := F, G := G, ib := fun _ h => h.elim, fb := hFb, noI := fun _ h => h, gd := hG }
  have hok0 : ∀ S : St, S.ob = [] → ∀ b, ok0 w F b → okOf C w S (fun _ => none) b := fun S hS b hb => ⟨hb.1, hb.2, fun h => h, fun ⟨d, o, v, h1, _⟩ => by simp [St.obj, hS, look] at h1⟩
  have hlen : as.length = args.size := by
    have : ∀ (as : List AV) (vs : List Value), CVt w (ok0 w F) (fun _ => none) as vs → as.length = vs.length := by
      intro as
      induction as with
      | nil => intro vs h; have h : vs = [] := h; rw [h]; rfl
      | cons a as ih => intro vs h; obtain ⟨v, rest, rfl, _, h2⟩ := h; simp [ih rest h2]
    simpa using this _ _ hargs
  have hget : ∀ (as : List AV) (vs : List Value), CVt w (ok0 w F) (fun _ => none) as vs → ∀ (i : Nat) v, vs[i]? = some v → ∃ x, as[i]? = some x ∧ CV w (ok0 w F) (fun _ => none) x v := by
    intro as
    induction as with
    | nil => intro vs h i v hi; have h : vs = [] := h; subst h; simp at hi
    | cons a as ih =>
      intro vs h i v hi
      obtain ⟨u, rest, rfl, h1, h2⟩ := h
      cases i with
      | zero => simp at hi; subst hi; exact ⟨a, rfl, h1⟩
      | succ i => simpa using ih rest h2 i v (by simpa using hi)
  let S0 : St := ⟨as ++ List.replicate (D.m - as.length) .undef, []⟩
  have hrel : Rel C S0 (fun _ => none) { tmps := args ++ Array.replicate (fn.ntmps - args.size) undef, defers := [] } w := by
    refine ⟨by simp [S0, hlen, hnt], fun i v hi => ?_, fun d o ho => by simp [St.obj, S0, look] at ho, fun _ _ => rfl, fun d d' o o' v v' b h1 => by simp [St.obj, S0, look] at h1, rfl, rfl, rfl, Nat.le_refl _, fun b _ _ => rfl, fun g t hgt => ?_, fun d v hv => by cases hv⟩
    · by_cases hlt : i < args.size
      · have hi : args.toList[i]? = some v := by
          rw [Array.getElem?_append_left hlt] at hi
          simpa using hi
        obtain ⟨x, h1, h2⟩ := hget _ _ hargs i v hi
        have : S0.slot i = x := by
          simp only [St.slot, S0, List.getD_eq_getElem?_getD]
          rw [List.getElem?_append_left (by omega), h1]
          rfl
        rw [this]
        exact CV_mono (keepsOk (hok0 S0 rfl)) _ _ h2
      · have : S0.slot i = .undef := by
          simp only [St.slot, S0, List.getD_eq_getElem?_getD]
          rw [List.getElem?_append_right (by omega), List.getElem?_replicate]
          split <;> rfl
        rw [this]
        trivial
    · exact CV_mono (keepsOk (hok0 S0 rfl)) _ _ (hglob g t hgt)
  refine hbody C n as r rfl hF _ _ w hrel _ (fun e S' θ' a' w' hk hr' hd' => ?_)
  unfold FnD.good at hg
  rw [Bool.and_eq_true] at hg
  obtain ⟨hg1, hg2⟩ := hg
  have fin : absT S' D.rs [] [] = some r → a'.defers = [] ∧ ∃ v, (results fn a'.tmps).run P w' = .ok v w' ∧ ∃ v', Ending.returned v = .returned v' ∧ Below w.heap.size w w' ∧ ResOK P w w' F D.esc D.ty D.own (etaL D.rs r) v' := by
    intro hab
    rw [etaL_absT _ _ _ _ hab]
    refine ⟨hd', ?_⟩
    obtain ⟨v, hv, hvs⟩ := results_tmps (P := P) hres a'.tmps w'
    refine ⟨v, hv, v, rfl, ⟨hr'.os, hr'.tape, hr'.output, hr'.size, fun k hk => hr'.frame k hk (fun h => h)⟩, ?_⟩
    obtain ⟨hl1, hl2⟩ := absT_get _ _ _ _ hab
    have hlty : D.rs.length = D.ty.length := (res_data (P := P) (okr := fun _ => True) hr' (fun _ _ _ => trivial) _ _ 0 _ _ _ hg1 hab).1
    refine ⟨by rw [hl1, hlty], D.rs.map (fun p => a'.tmps.getD p.1 undef), ?_, ?_⟩
    · rw [← hlty]
      exact hvs
    · cases hown : D.own with
      | none =>
        rw [hown] at hg1
        obtain ⟨_, k2, k3⟩ := res_data (P := P) (okr := okR w w' F D.esc none) hr' (fun he b hb => ⟨hb.1, hb.2.1, by simp, fun h => by rw [he] at h; cases h⟩) _ _ 0 _ _ _ hg1 hab
        refine ⟨k3, fun b hb => ?_⟩
        obtain ⟨i, hi⟩ := List.getElem?_of_mem hb
        exact k2 i b hi rfl
      | some q =>
        rw [hown] at hg1 hg2
        have hq : q < D.rs.length := by simpa using hg2
        obtain ⟨p, hp⟩ : ∃ p, D.rs[q]? = some p := ⟨_, List.getElem?_eq_getElem hq⟩
        obtain ⟨i, t⟩ := p
        obtain ⟨x, d, hx1, hx2⟩ := hl2 q i t hp
        obtain ⟨ty, e, ht1, ht2, ht3⟩ := okAt_get _ _ 0 hg1 q i t hp (by simp [isOwn])
        have hokR : (∀ b, blk (a'.tmps.getD i undef) = some b → OwnB S' θ' b) → D.esc = true → ∀ b, okOf C w' S' θ' b → okR w w' F D.esc (blk (a'.tmps.getD i undef)) b := fun hB he b hb => ⟨hb.1, hb.2.1, fun e => hb.2.2.2 (hB b e.symm), fun h => by rw [he] at h; cases h⟩
        obtain ⟨hor, hB⟩ := res_own (C := C) (w := w') (w' := w) hr' hx2 ht2 ht3 rfl hokR
        obtain ⟨_, k2, k3⟩ := res_data (P := P) (okr := okR w w' F D.esc (blk (a'.tmps.getD i undef))) hr' (hokR hB) _ _ 0 _ _ _ hg1 hab
        refine ⟨x, a'.tmps.getD i undef, ty, hx1, by simp [hp], ht1, hor, by simpa using k3, fun p b hpq hb => k2 p b hb ?_⟩
        simp only [isOwn, Nat.zero_add]
        cases hbq : Nat.beq q p with
        | false => rfl
        | true => simp at hbq; exact (hpq hbq.symm).elim
  cases e with
  | nrm => exact fin hk
  | ext i => cases hk
  | ret => exact fin hk

/-- A function's code does what its run says. -/
theorem FnD.sound {G : Nat → Option AV} (hG : ∀ g t, G g = some t → ∃ s, WT s t) {cal : FuncId → Option Cal} (hcal : ∀ f c, cal f = some c → SoundCal P G f c) (hm : P.follows .mixedOrders = true) {H : Hints} {f : FuncId} {fn : Func} {D : FnD}
    (hf : P.funcs[f]? = some fn) (hb : fn.body = some D.body) (hn : fn.name ≠ "runtime.NumGoroutine") (hnt : fn.ntmps = D.m) (hres : fn.results = (D.rs.map fun p => ResultVar.tmp p.1).toArray) (hg : D.good P = true) :
    SoundCal P G f (mkCal D (D.run P G cal H)) := by
  refine FnD.sound_of hG (fun C n as r hC hF θ a w hrel Q hQ => ?_) hf hb hn hnt hres hg
  subst hC
  exact exec_ok hcal hm D.body _ _ r hF θ a w hrel Q hQ
end
end Go.Am
