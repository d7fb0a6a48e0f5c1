/-
  AM: what is carried across a loop's head or a join: a template's slots, all else is dropped.
-/
import Derived.Test.YtjhbpadplglnlaaAmReg
set_option linter.unusedVariables false
set_option linter.unusedSimpArgs false
namespace Go.Am
open Go.RowKit

inductive Tk where
  | val (s : Sh)
  | row (e : TypeId) (k : IntKind)
  | rows (e : TypeId) (s : Sh)
  | box (s : Sh)

def hasN : List Nat → Nat → Bool
  | [], _ => false
  | x :: r, d => match Nat.beq d x with | true => true | false => hasN r d

def okD (b : Bool) (x : AV) (d : Option Nat) : Option (AV × Option Nat) := match b with | true => some (x, d) | false => none

def dataAt (S : St) (s : Sh) (v : AV) : Option (AV × Option Nat) :=
  match s, v with
  | .fs k, .nils => some (.fs k [], none)
  | .fv s, .nils => some (.fv s [], none)
  | .fs k, .own d => match S.obj d with
    | some (.row false _ k' xs) => okD (k == k') (.fs k xs) none
    | _ => none
  | .fv s, .own d => match S.obj d with
    | some (.rows false _ s' xs) => okD (shEq s s') (.fv s xs) none
    | _ => none
  | s, v => okD (fitA s v) v none

def abs1 (S : St) (i : Nat) : Tk → Option (AV × Option Nat)
  | .val s => dataAt S s (S.slot i)
  | .row e k => match S.slot i with
    | .nils => some (.fs k [], none)
    | .own d => match S.obj d with
      | some o => match asRow k o with
        | some (e', xs) => okD (Nat.beq e e') (.fs k xs) (some d)
        | none => none
      | none => none
    | _ => none
  | .rows e s => match S.slot i with
    | .nils => some (.fv s [], none)
    | .own d => match S.obj d with
      | some o => match asRows s o with
        | some (e', xs) => okD (Nat.beq e e') (.fv s xs) (some d)
        | none => none
      | none => none
    | _ => none
  | .box s => match S.slot i with
    | .ref d 0 => match S.obj d with
      | some (.box t) => okD (fitA s t) t (some d)
      | _ => none
    | _ => none

abbrev Tpl := List (Nat × Tk)

def absT (S : St) : Tpl → List Nat → List Nat → Option (List AV)
  | [], _, _ => some []
  | (i, t) :: r, is, ds => match hasN is i with
    | true => none
    | false => match abs1 S i t with
      | some (x, none) => match absT S r (i :: is) ds with
        | some l => some (x :: l)
        | none => none
      | some (x, some d) => match hasN ds d with
        | true => none
        | false => match absT S r (i :: is) (d :: ds) with
          | some l => some (x :: l)
          | none => none
      | none => none

def nm (i : Nat) : Nat := 200000 + i

def con1 (i : Nat) (x : AV) (S : St) : Tk → St
  | .val s => S.setSlot i (eta s x)
  | .row e k => (S.setObj (nm i) (.row true e k x.toInts)).setSlot i (.own (nm i))
  | .rows e s => (S.setObj (nm i) (.rows true e s x.toElems)).setSlot i (.own (nm i))
  | .box s => (S.setObj (nm i) (.box (eta s x))).setSlot i (.ref (nm i) 0)

def conT : Tpl → List AV → St → St
  | [], _, S => S
  | (i, t) :: r, d, S => conT r d.tail (con1 i (d.headD .undef) S t)

def blank (m : Nat) : St := ⟨List.replicate m .undef, []⟩
def con (m : Nat) (T : Tpl) (d : List AV) : St := conT T d (blank m)
def abst (m : Nat) (T : Tpl) (S : St) : Option (List AV) := match Nat.beq S.tm.length m with | true => absT S T [] [] | false => none

/-! What it says. -/
theorem okD_some {b : Bool} {x y : AV} {d e : Option Nat} (h : okD b x d = some (y, e)) : b = true ∧ x = y ∧ d = e := by
  cases b with
  | true => simp only [okD, Option.some.injEq, Prod.mk.injEq] at h; exact ⟨rfl, h⟩
  | false => cases h

section
variable {C : Ctx} {S S' T : St} {θ θ' : Nat → Option Value} {a : Act} {w w' : World} {n : Nat} {P : Program} {o : Oper}

theorem dataAt_ok (h : Rel C S θ a w) {s : Sh} {v x : AV} {d : Option Nat} {u : Value} (hv : CV w (okOf C w S θ) θ v u) (hd : dataAt S s v = some (x, d)) : d = none ∧ WT s x ∧ CV w (okOf C w S θ) θ x u := by
  have base : okD (fitA s v) v none = some (x, d) → d = none ∧ WT s x ∧ CV w (okOf C w S θ) θ x u := fun h1 => by
    obtain ⟨h2, rfl, rfl⟩ := okD_some h1
    exact ⟨rfl, fit_WT _ _ h2, hv⟩
  unfold dataAt at hd
  split at hd
  · simp only [Option.some.injEq, Prod.mk.injEq] at hd
    obtain ⟨rfl, rfl⟩ := hd
    exact ⟨rfl, ⟨[], rfl⟩, none, 0, hv, Nat.le_refl _, fun h0 => absurd h0 (by simp)⟩
  · simp only [Option.some.injEq, Prod.mk.injEq] at hd
    obtain ⟨rfl, rfl⟩ := hd
    exact ⟨rfl, ⟨[], rfl⟩, none, 0, [], hv, Nat.le_refl _, by simp, rfl, fun h0 => absurd h0 (by simp)⟩
  · rename_i k d'
    split at hd <;> first | (cases hd; done) | skip
    rename_i e' k' xs ho
    obtain ⟨h2, rfl, rfl⟩ := okD_some hd
    have hk : k = k' := by simpa using h2
    subst hk
    obtain ⟨v', h3, _, h4⟩ := h.objs _ _ ho
    obtain ⟨h5, _⟩ := hv
    rw [h3] at h5
    cases h5
    exact ⟨rfl, ⟨xs, rfl⟩, h4 rfl⟩
  · rename_i k d'
    split at hd <;> first | (cases hd; done) | skip
    rename_i e' k' xs ho
    obtain ⟨h2, rfl, rfl⟩ := okD_some hd
    have hk := shEq_eq h2
    subst hk
    obtain ⟨v', h3, _, _, h4⟩ := h.objs _ _ ho
    obtain ⟨h5, _⟩ := hv
    rw [h3] at h5
    cases h5
    exact ⟨rfl, ⟨xs, rfl⟩, h4 rfl⟩
  · exact base hd

theorem dataAt_none {s : Sh} {v x : AV} {d : Option Nat} (hd : dataAt S s v = some (x, d)) : d = none := by
  unfold dataAt at hd
  split at hd
  · cases hd; rfl
  · cases hd; rfl
  · split at hd <;> first | (cases hd; done) | exact (okD_some hd).2.2.symm
  · split at hd <;> first | (cases hd; done) | exact (okD_some hd).2.2.symm
  · exact (okD_some hd).2.2.symm

/-- As 'Rel', with what is ok held fast. -/
structure RelK (C : Ctx) (ok : Nat → Prop) (S : St) (θ : Nat → Option Value) (a : Act) (w : World) : Prop where
  len : a.tmps.size = S.tm.length
  slots : ∀ (i : Nat) v, a.tmps[i]? = some v → CV w ok θ (S.slot i) v
  objs : ∀ d o, S.obj d = some o → OV C w ok θ d o
  fresh : ∀ d, S.obj d = none → θ d = none
  sep : ∀ d d' o o' v v' b, S.obj d = some o → S.obj d' = some o' → o.isOwn = true → o'.isOwn = true → d ≠ d' → θ d = some v → θ d' = some v' → blk v = some b → blk v' ≠ some b
  globs : ∀ g t, C.G g = some t → CV w ok θ (.fp t) (.pointer (some ⟨g, 0, none⟩))
  base : ∀ d v, θ d = some v → base0 v

theorem RelK.fill {ok : Nat → Prop} (h : RelK C ok S θ a w) {i : Nat} {x : AV} (hx : ∀ v, a.tmps[i]? = some v → CV w ok θ x v) : RelK C ok (S.setSlot i x) θ a w := by
  refine ⟨by rw [len_setSlot]; exact h.len, fun j v hj => ?_, h.objs, h.fresh, h.sep, h.globs, h.base⟩
  by_cases e : i = j
  · subst e
    rw [slot_setSlot_same _ _ _ (by rw [← h.len]; exact (Array.getElem?_eq_some_iff.1 hj).1)]
    exact hx v hj
  · rw [slot_setSlot_other _ _ _ _ e]
    exact h.slots j v hj

theorem RelK.add {ok : Nat → Prop} (h : RelK C ok S θ a w) {d : Nat} {v : Value} {o : Ob} (hd : S.obj d = none) (ho : OV C w ok (upd θ d v) d o) (hb : base0 v)
    (hsep : o.isOwn = true → ∀ d' o' v' b, S.obj d' = some o' → o'.isOwn = true → θ d' = some v' → blk v = some b → blk v' ≠ some b) : RelK C ok (S.setObj d o) (upd θ d v) a w := by
  have hk : Keeps w w ok ok θ (upd θ d v) := ⟨fun _ h => h, fun _ _ => rfl, fun e x he => by
    by_cases hed : e = d
    · subst hed; rw [h.fresh e hd] at he; cases he
    · rw [upd_ne _ _ hed]; exact he⟩
  refine ⟨h.len, fun i v' hi => CV_mono hk _ _ (h.slots i v' hi), fun e o' he => ?_, fun e he => ?_, fun e e' o1 o2 v1 v2 b h1 h2 h3 h4 hne h5 h6 h7 => ?_, fun g t hg => CV_mono hk _ _ (h.globs g t hg), fun e v' he => ?_⟩
  · by_cases hed : e = d
    · subst hed; rw [obj_setObj_same] at he; cases he; exact ho
    · rw [obj_setObj_other _ _ _ _ hed] at he
      exact (h.objs e o' he).mono hk (fun _ _ _ _ _ => rfl)
  · by_cases hed : e = d
    · subst hed; rw [obj_setObj_same] at he; cases he
    · rw [obj_setObj_other _ _ _ _ hed] at he
      rw [upd_ne _ _ hed]
      exact h.fresh e he
  · by_cases e1 : e = d
    · subst e1
      have hne' : e' ≠ e := fun h => hne h.symm
      rw [obj_setObj_same] at h1; cases h1
      rw [obj_setObj_other _ _ _ _ hne'] at h2
      rw [upd_self] at h5; cases h5
      rw [upd_ne _ _ hne'] at h6
      exact hsep h3 e' o2 v2 b h2 h4 h6 h7
    · rw [obj_setObj_other _ _ _ _ e1] at h1
      rw [upd_ne _ _ e1] at h5
      by_cases e2 : e' = d
      · subst e2
        rw [obj_setObj_same] at h2; cases h2
        rw [upd_self] at h6; cases h6
        intro h8
        exact hsep h4 e o1 v1 b h1 h3 h5 h8 h7
      · rw [obj_setObj_other _ _ _ _ e2] at h2
        rw [upd_ne _ _ e2] at h6
        exact h.sep e e' o1 o2 v1 v2 b h1 h2 h3 h4 hne h5 h6 h7
  · by_cases hed : e = d
    · subst hed; rw [upd_self] at he; cases he; exact hb
    · rw [upd_ne _ _ hed] at he; exact h.base e v' he

theorem hasN_mem {l : List Nat} {d : Nat} : hasN l d = false → d ∉ l := by
  induction l with
  | nil => simp
  | cons x r ih =>
    intro h
    simp only [hasN] at h
    split at h
    · cases h
    · rename_i hx
      have : d ≠ x := fun e => by subst e; simp at hx
      simp only [List.mem_cons, this, false_or]
      exact ih h

/-- What the parts of a template made so far say of the state that they are read from. -/
structure Made (C : Ctx) (S : St) (θ : Nat → Option Value) (is ds : List Nat) (T : St) (η : Nat → Option Value) : Prop where
  names : ∀ d, T.obj d ≠ none → ∃ i ∈ is, d = nm i
  from_ : ∀ d o v b, T.obj d = some o → o.isOwn = true → η d = some v → blk v = some b → ∃ e ∈ ds, ∃ o', S.obj e = some o' ∧ o'.isOwn = true ∧ θ e = some v

theorem con_ok (h : Rel C S θ a w) : ∀ (tp : Tpl) (is ds : List Nat) (l : List AV) (T : St) (η : Nat → Option Value), absT S tp is ds = some l → RelK C (okOf C w S θ) T η a w → Made C S θ is ds T η →
    ∃ η' is' ds', RelK C (okOf C w S θ) (conT tp l T) η' a w ∧ Made C S θ is' ds' (conT tp l T) η'
  | [], is, ds, l, T, η, hl, hk, hm => ⟨η, is, ds, hk, hm⟩
  | (i, t) :: r, is, ds, l, T, η, hl, hk, hm => by
    simp only [absT] at hl
    split at hl
    · cases hl
    rename_i hni
    have hni := hasN_mem hni
    -- one part, by what 'abs1' gives
    have step : ∀ x d, abs1 S i t = some (x, d) → (∀ e, d = some e → e ∉ ds) →
        ∃ η1, RelK C (okOf C w S θ) (con1 i x T t) η1 a w ∧ Made C S θ (i :: is) (d.toList ++ ds) (con1 i x T t) η1 := by
      intro x d hx hds
      have hsl := h.slots i
      have hfreeN : T.obj (nm i) = none := by
        cases hT : T.obj (nm i) with
        | none => rfl
        | some o =>
          obtain ⟨j, hj, he⟩ := hm.names (nm i) (by rw [hT]; simp)
          have : i = j := by unfold nm at he; omega
          exact (hni (this ▸ hj)).elim
      have addG : ∀ (ob : Ob) (v : Value) (sv : AV) (od : Option Nat), OV C w (okOf C w S θ) (upd η (nm i) v) (nm i) ob → base0 v → (∀ u, a.tmps[i]? = some u → CV w (okOf C w S θ) (upd η (nm i) v) sv u) →
          (blk v = none ∨ ∃ d o', od = some d ∧ S.obj d = some o' ∧ o'.isOwn = true ∧ θ d = some v) → (∀ e, od = some e → e ∉ ds) →
          ∃ η1, RelK C (okOf C w S θ) ((T.setObj (nm i) ob).setSlot i sv) η1 a w ∧ Made C S θ (i :: is) (od.toList ++ ds) ((T.setObj (nm i) ob).setSlot i sv) η1 := by
        intro ob v sv od hov hb hsv hor hnd
        refine ⟨upd η (nm i) v, (hk.add hfreeN hov hb (fun ho d' o' v' b h1 h2 h3 h4 h5 => ?_)).fill hsv, fun d hd => ?_, fun d o v' b h1 h2 h3 h4 => ?_⟩
        · obtain ⟨e, he, o'', h6, h7, h8⟩ := hm.from_ d' o' v' b h1 h2 h3 h5
          rcases hor with h9 | ⟨d, o1, rfl, h9, h10, h11⟩
          · rw [h9] at h4; cases h4
          · have hne : d ≠ e := fun q => hnd d rfl (q ▸ he)
            exact h.sep d e o1 o'' v v' b h9 h6 h10 h7 hne h11 h8 h4 h5
        · rw [obj_setSlot] at hd
          by_cases hdi : d = nm i
          · exact ⟨i, by simp, hdi⟩
          · rw [obj_setObj_other _ _ _ _ hdi] at hd
            obtain ⟨j, hj, e⟩ := hm.names d hd
            exact ⟨j, by simp [hj], e⟩
        · rw [obj_setSlot] at h1
          by_cases hdi : d = nm i
          · subst hdi
            rw [upd_self] at h3
            cases h3
            rcases hor with h9 | ⟨d, o1, rfl, h9, h10, h11⟩
            · rw [h9] at h4; cases h4
            · exact ⟨d, by simp, o1, h9, h10, h11⟩
          · rw [obj_setObj_other _ _ _ _ hdi] at h1
            rw [upd_ne _ _ hdi] at h3
            obtain ⟨e, he, r⟩ := hm.from_ d o v' b h1 h2 h3 h4
            exact ⟨e, by simp [he], r⟩
      have nilB : base0 (.slice none 0 0) := fun ad n c e => by cases e
      cases t with
      | val s =>
        have hx : dataAt S s (S.slot i) = some (x, d) := hx
        have hdn := dataAt_none hx
        subst hdn
        refine ⟨η, hk.fill fun v hv => ?_, fun d hd => ?_, fun d o v b h1 h2 h3 h4 => ?_⟩
        · obtain ⟨_, hw, hc⟩ := dataAt_ok h (hsl v hv) hx
          rw [eta_of_WT s x hw]
          exact CV_noname hw hc
        · obtain ⟨j, hj, e⟩ := hm.names d hd
          exact ⟨j, by simp [hj], e⟩
        · exact hm.from_ d o v b h1 h2 h3 h4
      | row e k =>
        simp only [abs1] at hx
        split at hx
        · rename_i hs
          simp only [Option.some.injEq, Prod.mk.injEq] at hx
          obtain ⟨rfl, rfl⟩ := hx
          exact addG (.row true e k []) (.slice none 0 0) _ none ⟨_, upd_self _ _ _, fun _ => ⟨rfl, .inl ⟨rfl, rfl⟩⟩, fun h => by cases h⟩ nilB (fun u hu => by
            have := hsl u hu
            rw [hs] at this
            have : u = .slice none 0 0 := this
            subst this
            exact ⟨upd_self _ _ _, none, 0, 0, rfl⟩) (.inl rfl) (fun e he => by cases he)
        · rename_i d' hs
          split at hx <;> first | (cases hx; done) | skip
          rename_i ob ho
          split at hx <;> first | (cases hx; done) | skip
          rename_i e' xs has
          obtain ⟨h2, rfl, rfl⟩ := okD_some hx
          have h2 : e = e' := by simpa using h2
          subst h2
          obtain ⟨hisO, v, h3, h4⟩ := asRow_ok h ho has
          refine addG (.row true e k xs) v _ (some d') ⟨_, upd_self _ _ _, fun _ => h4, fun h => by cases h⟩ (h.base _ _ h3) (fun u hu => ?_) (.inr ⟨d', _, rfl, ho, hisO, h3⟩) hds
          have := hsl u hu
          rw [hs] at this
          obtain ⟨h5, h6⟩ := this
          rw [h3] at h5
          cases h5
          exact ⟨upd_self _ _ _, h6⟩
        · cases hx
      | rows e s =>
        simp only [abs1] at hx
        split at hx
        · rename_i hs
          simp only [Option.some.injEq, Prod.mk.injEq] at hx
          obtain ⟨rfl, rfl⟩ := hx
          exact addG (.rows true e s []) (.slice none 0 0) _ none ⟨_, upd_self _ _ _, by simp, fun _ => ⟨[], rfl, by simp, .inl ⟨rfl, rfl⟩⟩, fun h => by cases h⟩ nilB (fun u hu => by
            have := hsl u hu
            rw [hs] at this
            have : u = .slice none 0 0 := this
            subst this
            exact ⟨upd_self _ _ _, none, 0, 0, rfl⟩) (.inl rfl) (fun e he => by cases he)
        · rename_i d' hs
          split at hx <;> first | (cases hx; done) | skip
          rename_i ob ho
          split at hx <;> first | (cases hx; done) | skip
          rename_i e' xs has
          obtain ⟨h2, rfl, rfl⟩ := okD_some hx
          have h2 : e = e' := by simpa using h2
          subst h2
          obtain ⟨hisO, v, cs, h3, hw, h7, h8⟩ := asRows_ok h ho has
          refine addG (.rows true e s xs) v _ (some d') ⟨_, upd_self _ _ _, hw, fun _ => ⟨cs, CVs_noname hw h7, h8⟩, fun h => by cases h⟩ (h.base _ _ h3) (fun u hu => ?_) (.inr ⟨d', _, rfl, ho, hisO, h3⟩) hds
          have := hsl u hu
          rw [hs] at this
          obtain ⟨h5, h6⟩ := this
          rw [h3] at h5
          cases h5
          exact ⟨upd_self _ _ _, h6⟩
        · cases hx
      | box s =>
        simp only [abs1] at hx
        split at hx
        · rename_i d' hs
          split at hx <;> first | (cases hx; done) | skip
          rename_i t ho
          obtain ⟨h2, rfl, rfl⟩ := okD_some hx
          have hw := fit_WT _ _ h2
          obtain ⟨g, e, fr, v, h3, h4, h5, h6, h7⟩ := h.objs _ _ ho
          have := addG (.box t) (.pointer (some ⟨g, 0, none⟩)) (.ref (nm i) 0) (some d') ⟨g, e, fr, v, upd_self _ _ _, h4, h5, CV_noname hw h6, h7⟩ (h.base _ _ h3) (fun u hu => by
            have := hsl u hu
            rw [hs] at this
            obtain ⟨g', h8, rfl⟩ := this
            rw [h3] at h8
            cases h8
            exact ⟨g, upd_self _ _ _, rfl⟩) (.inr ⟨d', _, rfl, ho, rfl, h3⟩) hds
          simp only [con1, eta_of_WT s t hw]
          exact this
        · cases hx
    split at hl
    · rename_i x hx
      split at hl
      · rename_i l' hl'
        cases hl
        obtain ⟨η1, k1, k2⟩ := step x none hx (fun e he => by cases he)
        exact con_ok h r _ _ l' _ η1 hl' k1 k2
      · cases hl
    · rename_i x d hx
      split at hl
      · cases hl
      rename_i hnd
      split at hl
      · rename_i l' hl'
        cases hl
        obtain ⟨η1, k1, k2⟩ := step x (some d) hx (fun e he => by cases he; exact hasN_mem hnd)
        exact con_ok h r _ _ l' _ η1 hl' k1 k2
      · cases hl
    · cases hl

/-- What is carried on stands for the state. -/
theorem canon_ok (h : Rel C S θ a w) {m : Nat} {tp : Tpl} {l : List AV} (hl : abst m tp S = some l) : ∃ η, Rel C (con m tp l) η a w := by
  unfold abst at hl
  split at hl <;> first | (cases hl; done) | skip
  rename_i hm
  have hm : S.tm.length = m := by simpa using hm
  have k0 : RelK C (okOf C w S θ) (blank m) (fun _ => none) a w := by
    refine ⟨by rw [h.len, hm]; simp [blank], fun i v _ => ?_, fun d o ho => (by cases ho), fun _ _ => rfl, fun d d' o o' v v' b ho => (by cases ho), fun g t hg => ?_, fun d v hv => (by cases hv)⟩
    · have : (blank m).slot i = .undef := by
        simp only [St.slot, blank, List.getD_eq_getElem?_getD, List.getElem?_replicate]
        split <;> rfl
      rw [this]
      trivial
    · obtain ⟨s, hs⟩ := C.gd g t hg
      obtain ⟨ad, u, h1, h2, h3, h4⟩ := h.globs g t hg
      exact ⟨ad, u, h1, h2, CV_noname hs h3, h4⟩
  obtain ⟨η, is, ds, h1, h2⟩ := con_ok h tp [] [] l (blank m) (fun _ => none) hl k0 ⟨fun d hd => (hd rfl).elim, fun d o v b ho => by cases ho⟩
  have hok : ∀ b, okOf C w S θ b → okOf C w (con m tp l) η b := by
    rintro b ⟨k1, k2, k3, k4⟩
    refine ⟨k1, k2, k3, ?_⟩
    rintro ⟨d, o, v, e1, e2, e3, e4⟩
    obtain ⟨e, _, o', q1, q2, q3⟩ := h2.from_ d o v b e1 e2 e3 e4
    exact k4 ⟨e, o', v, q1, q2, q3, e4⟩
  have hkp : Keeps w w (okOf C w S θ) (okOf C w (con m tp l) η) η η := ⟨hok, fun _ _ => rfl, fun _ _ h => h⟩
  exact ⟨η, h1.len, fun i v hi => CV_mono hkp _ _ (h1.slots i v hi), fun d o ho => (h1.objs d o ho).mono hkp (fun _ _ _ _ _ => rfl), h1.fresh, h1.sep, h.os, h.tape, h.output, h.size, h.frame, fun g t hg => CV_mono hkp _ _ (h1.globs g t hg), h1.base⟩
end
end Go.Am
