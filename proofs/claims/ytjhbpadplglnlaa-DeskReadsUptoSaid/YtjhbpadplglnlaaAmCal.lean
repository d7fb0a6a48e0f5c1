/-
  AM: calls.
-/
import Derived.Test.YtjhbpadplglnlaaAmSoundA
set_option linter.unusedVariables false
set_option linter.unusedSimpArgs false
namespace Go.Am
open Go.RowKit

def ok0 (w : World) (F : Nat → Prop) (b : Nat) : Prop := b < w.heap.size ∧ ¬ F b

/-- What a callee's results may show: nothing that was kept from it, nor its own row; where 'esc' is false only what is new. -/
def okR (w w' : World) (F : Nat → Prop) (esc : Bool) (u : Option Nat) (b : Nat) : Prop := b < w'.heap.size ∧ ¬ F b ∧ some b ≠ u ∧ (esc = false → w.heap.size ≤ b)

/-- The one result that is a row of the callee's own. -/
def OwnRes (P : Program) (w w' : World) (ok : Nat → Prop) (t : TypeId) (a : AV) (u : Value) : Prop :=
  base0 u ∧ (∃ A n c, u = .slice A n c) ∧ ∃ e, elemT P t = some e ∧
    ((∃ k xs, a = .fs k xs ∧ OwnRow w' w.heap.size e 1 u xs.length (ints k xs)) ∨
     (∃ s xs cs, a = .fv s xs ∧ (∀ x ∈ xs, WT s x) ∧ CVs w' ok (fun _ => none) xs cs ∧ OwnRow w' w.heap.size e s.width u xs.length cs))

def ResOK (P : Program) (w w' : World) (F : Nat → Prop) (esc : Bool) (ty : List TypeId) (own : Option Nat) (as : List AV) (v : Value) : Prop :=
  as.length = ty.length ∧ ∃ vs : List Value, ((ty.length = 1 ∧ vs = [v]) ∨ (ty.length ≠ 1 ∧ v = .tuple vs.toArray)) ∧
    match own with
    | none => CVt w' (okR w w' F esc none) (fun _ => none) as vs ∧ ∀ a ∈ as, ∃ s, WT s a
    | some j => ∃ a u t, as[j]? = some a ∧ vs[j]? = some u ∧ ty[j]? = some t ∧ OwnRes P w w' (okR w w' F esc (blk u)) t a u ∧
        CVt w' (okR w w' F esc (blk u)) (fun _ => none) (as.set j .undef) vs ∧ ∀ i b, i ≠ j → as[i]? = some b → ∃ s, WT s b

/-- The package-level variables hold what G says. -/
def GlobOK (w : World) (ok : Nat → Prop) (G : Nat → Option AV) : Prop := ∀ g t, G g = some t → CV w ok (fun _ => none) (.fp t) (.pointer (some ⟨g, 0, none⟩))

/-- A function does what c says of it. -/
def SoundCal (P : Program) (G : Nat → Option AV) (f : FuncId) (c : Cal) : Prop :=
  (∃ fn, P.funcs[f]? = some fn ∧ fn.body.isSome = true ∧ fn.name ≠ "runtime.NumGoroutine") ∧
  ∀ (n : Nat) (x : c.β) (r : c.α), c.F n x = some r → ∀ (w : World) (args : Array Value) (F : Nat → Prop) (as : List AV), (∀ b, F b → b < w.heap.size) → c.dec as = some x →
    CVt w (ok0 w F) (fun _ => none) as args.toList → GlobOK w (ok0 w F) G →
    Calls P f args w fun e w' => ∃ v, e = .returned v ∧ Below w.heap.size w w' ∧ ResOK P w w' F c.esc c.ty c.own (c.res r) v

section
variable {C : Ctx} {S S' : St} {θ θ' : Nat → Option Value} {a : Act} {w w' : World} {n : Nat} {ok : Nat → Prop} {P : Program} {o : Oper}

/-- Data leads to no name. -/
theorem CV_noname : ∀ {s : Sh} {x : AV} {v : Value}, WT s x → CV w ok θ x v → CV w ok θ' x v := by
  intro s
  have lists : ∀ (s : Sh), (∀ x, WT s x → ∀ v, CV w ok θ x v → CV w ok θ' x v) → ∀ (xs : List AV) (cs : List Value), (∀ x ∈ xs, WT s x) → CVs w ok θ xs cs → CVs w ok θ' xs cs := by
    intro s ih xs
    induction xs with
    | nil => intro cs _ h; exact h
    | cons x xs ihx =>
      intro cs hw h
      obtain ⟨v, rest, rfl, hs, h1, h2⟩ := h
      exact ⟨v, rest, rfl, hs, ih x (hw x (by simp)) v h1, ihx rest (fun y hy => hw y (by simp [hy])) h2⟩
  intro x v hw hv
  exact Sh.rec (motive_1 := fun s => ∀ x, WT s x → ∀ v, CV w ok θ x v → CV w ok θ' x v) (motive_2 := fun l => ∀ cs, WTs l cs → ∀ vs, CVs w ok θ cs vs → CVs w ok θ' cs vs)
    (fun k x h v hv => by obtain ⟨_, rfl⟩ := h; exact hv) (fun x h v hv => by obtain ⟨_, rfl⟩ := h; exact hv) (fun x h v hv => by obtain ⟨_, rfl⟩ := h; exact hv)
    (fun k n x h v hv => by obtain ⟨_, rfl⟩ := h; exact hv)
    (fun l ih x h v hv => by obtain ⟨cs, rfl, h2⟩ := h; obtain ⟨vs, rfl, hc⟩ := hv; exact ⟨vs, rfl, ih cs h2 _ hc⟩)
    (fun k x h v hv => by obtain ⟨_, rfl⟩ := h; exact hv)
    (fun s ih x h v hv => by
      obtain ⟨xs, rfl⟩ := h
      obtain ⟨A, c, cs, e, hc, hw, hcs, hr⟩ := hv
      exact ⟨A, c, cs, e, hc, hw, lists s ih xs cs hw hcs, hr⟩)
    (fun cs h vs hv => by simp only [WTs] at h; subst h; exact hv)
    (fun s l ih1 ih2 cs h vs hv => by
      obtain ⟨c, r, rfl, h1, h2⟩ := h
      obtain ⟨v, rest, rfl, hs, k1, k2⟩ := hv
      exact ⟨v, rest, rfl, hs, ih1 c h1 v k1, ih2 r h2 rest k2⟩)
    s x hw v hv

theorem CVs_noname {s : Sh} : ∀ {xs : List AV} {cs : List Value}, (∀ x ∈ xs, WT s x) → CVs w ok θ xs cs → CVs w ok θ' xs cs
  | [], cs, _, h => h
  | x :: xs, cs, hw, h => by
    obtain ⟨v, rest, rfl, hs, h1, h2⟩ := h
    exact ⟨v, rest, rfl, hs, CV_noname (hw x (by simp)) h1, CVs_noname (fun y hy => hw y (by simp [hy])) h2⟩

theorem snapArgs_ok (h : Rel C S θ a w) : ∀ (ts : List TypeId) (us : List AV) (vs : List Value) (K : List AV → List Nat → Pg), CVt w (okOf C w S θ) θ us vs → (snapArgs P ts us K).exe n S = some S' →
    ∃ us' l, (K us' l).exe n S = some S' ∧ CVt w (okX C w S θ l) (fun _ => none) us' vs
  | [], [], vs, K, hv, hh => ⟨[], [], hh, hv⟩
  | [], _ :: _, vs, K, hv, hh => (exe_fail hh).elim
  | _ :: _, [], vs, K, hv, hh => (exe_fail hh).elim
  | t :: ts, u :: us, vs, K, hv, hh => by
    obtain ⟨v, rest, rfl, h1, h2⟩ := hv
    simp only [snapArgs] at hh
    split at hh <;> first | exact (exe_fail hh).elim | skip
    rename_i s hs
    obtain ⟨u', l, hk, hw, hcv⟩ := snap_ok h 9 s u v _ h1 hh
    obtain ⟨us', l', hk', hcvs⟩ := snapArgs_ok h ts us rest _ h2 hk
    refine ⟨u' :: us', l ++ l', hk', v, rest, rfl, ?_, ?_⟩
    · exact CV_noname hw (CV_mono (keepsOk fun b hb => okX_mono (fun d hd => List.mem_append_left _ hd) hb) _ _ hcv)
    · refine CVt_mono ⟨fun b hb => okX_mono (fun d hd => List.mem_append_right _ hd) hb, fun _ _ => rfl, fun _ _ h => h⟩ _ _ hcvs

theorem run_callFunc {f : FuncId} {fn : Func} {args : Array Value} (hf : P.funcs[f]? = some fn) (hb : fn.body.isSome = true) (hn : fn.name ≠ "runtime.NumGoroutine") : (callFunc f args).run P w = .ok (.enter f args) w := by
  obtain ⟨c, hc⟩ : ∃ c, fn.body = some c := Option.isSome_iff_exists.1 hb
  simp [callFunc, hf, hn, hc]

theorem put_defers (a : Act) (d : Option Tmp) (v : Value) : (a.put d v).defers = a.defers := by cases d <;> rfl

theorem resFin_ok {us : List AV} {vs : List Value} {v : Value} {ty : List TypeId} (hh : (resFin o us).exe n S = some S') (h : Rel C S θ a w) (hv : (ty.length = 1 ∧ vs = [v]) ∨ (ty.length ≠ 1 ∧ v = .tuple vs.toArray)) (hl : us.length = ty.length)
    (hc : CVt w (okOf C w S θ) θ us vs) : Rel C S' θ (a.put o.dst v) w := by
  unfold resFin at hh
  split at hh
  · rename_i u
    rcases hv with ⟨_, rfl⟩ | ⟨hn, _⟩
    · obtain ⟨v', rest, e, h1, _⟩ := hc
      cases e
      exact put_ok' hh h h1
    · exact (hn hl.symm).elim
  · rename_i hne
    rcases hv with ⟨h1, rfl⟩ | ⟨_, rfl⟩
    · rw [h1] at hl
      cases us with
      | nil => simp at hl
      | cons u r => cases r with
        | nil => exact (hne u rfl).elim
        | cons => simp at hl
    · exact put_ok' hh h ⟨vs.toArray, rfl, hc⟩

theorem CVt_set {ok : Nat → Prop} {θ : Nat → Option Value} {x : AV} {u : Value} : ∀ {us : List AV} {vs : List Value} {j : Nat}, CVt w ok θ (us.set j .undef) vs → vs[j]? = some u → CV w ok θ x u → CVt w ok θ (us.set j x) vs
  | [], vs, j, h, hj, hx => by simpa using h
  | y :: us, vs, 0, h, hj, hx => by
    obtain ⟨v, rest, rfl, _, h2⟩ := h
    cases hj
    exact ⟨u, rest, rfl, hx, h2⟩
  | y :: us, vs, j + 1, h, hj, hx => by
    obtain ⟨v, rest, rfl, h1, h2⟩ := h
    exact ⟨v, rest, rfl, h1, CVt_set (us := us) h2 hj hx⟩

theorem CVt_noname : ∀ {us : List AV} {vs : List Value}, (∀ a ∈ us, ∃ s, WT s a) → CVt w ok θ us vs → CVt w ok θ' us vs
  | [], vs, _, h => h
  | x :: us, vs, hw, h => by
    obtain ⟨v, rest, rfl, h1, h2⟩ := h
    obtain ⟨s, hs⟩ := hw x (by simp)
    exact ⟨v, rest, rfl, CV_noname hs h1, CVt_noname (fun a ha => hw a (by simp [ha])) h2⟩

/-- Behind a call that has made memory and turned nothing. -/
theorem Rel.called (h : Rel C S θ a w) (hb : Below w.heap.size w w') : Rel C S θ a w' :=
  h.turn (fun _ => False) (fun _ => False) rfl (fun _ _ => ⟨rfl, rfl⟩) (fun _ _ h => h) hb.os hb.tape hb.output hb.size (fun b hb' _ => hb.block b hb')
    (fun _ h => h.elim) (fun _ _ _ _ h => h.elim) (fun _ _ _ _ _ _ _ h => h.elim) (fun _ h => h.elim) (fun _ _ h => h.elim) (fun _ _ _ h => h.elim)

theorem opCall_ok {cal : FuncId → Option Cal} (hcal : ∀ f c, cal f = some c → SoundCal P C.G f c) {f : FuncId} {args : Array Operand} {ats : Array TypeId} {us : List AV}
    (ho : o.op = .call { callee := .value (.func f), args := args, argTypes := ats }) (h : Rel C S θ a w) (hu : CVt w (okOf C w S θ) θ us (args.toList.map a.eval))
    (hh : (opCall P cal o f ats.toList us).exe n S = some S') (K : Act → World → Prop) (Q : Exit → Act → World → Prop)
    (hK : ∀ a' w' θ', Rel C S' θ' a' w' → a'.defers = a.defers → K a' w') : o.wp P a w K Q := by
  unfold opCall at hh
  split at hh <;> first | exact (exe_fail hh).elim | skip
  rename_i c hc
  obtain ⟨us', l, hh1, hcv⟩ := snapArgs_ok h _ _ _ _ hu hh
  clear hh
  split at hh1 <;> first | exact (exe_fail hh1).elim | skip
  rename_i x hx
  obtain ⟨hty, hh2⟩ := exe_must hh1
  clear hh1
  obtain ⟨r, hr, hh3⟩ := exe_call hh2
  clear hh2
  obtain ⟨⟨fn, hf1, hf2, hf3⟩, hs⟩ := hcal f c hc
  -- what the callee must not see
  let F' : Nat → Prop := fun b => C.F b ∨ ∃ d ob v, d ∉ l ∧ S.obj d = some ob ∧ ob.isOwn = true ∧ θ d = some v ∧ blk v = some b
  have hF' : ∀ b, F' b → b < w.heap.size := by
    rintro b (hb | ⟨d, ob, v, _, h1, h2, h3, h4⟩)
    · exact Nat.lt_of_lt_of_le (C.fb b hb) h.size
    · exact ((h.objs d ob h1).lt h2 h3 h4).1
  have hX : ∀ b, okX C w S θ l b → ok0 w F' b := fun b hb => ⟨hb.1, fun hF => by rcases hF with hF | hF; exact hb.2.1 hF; exact hb.2.2.2 hF⟩
  have hcalls := hs n x r hr w (args.map a.eval) F' us' hF' hx (by
    have := CVt_mono (⟨hX, fun _ _ => rfl, fun _ _ h => h⟩ : Keeps w w _ _ (fun _ => none) (fun _ => none)) _ _ hcv
    simpa using this) (by
    intro g t hg
    have h1 := h.globs g t hg
    obtain ⟨s, hst⟩ := C.gd g t hg
    obtain ⟨ad, u, e, hok, hu, hc⟩ := h1
    exact ⟨ad, u, e, hX _ (okX_of_ok hok), CV_noname hst (CV_mono (keepsOk fun b hb => hX b (okX_of_ok hb)) _ _ hu), hc⟩)
  have hrun : (execOp a.eval o).run P w = .ok (.enter f (args.map a.eval)) w := by
    simp only [execOp, ho, resolve, Act.eval, Deferred.ofValue, Sem.run_bind, Sem.run_pure, Result.andThen_ok, invoke, Array.append_empty, Array.empty_append]
    exact run_callFunc hf1 hf2 hf3
  unfold Oper.wp
  rw [hrun, Oper.upon_enter]
  refine hcalls.mono ?_
  rintro e w' ⟨v, rfl, hb, hlen, vs, hvs, hres⟩
  simp only
  -- the state behind the freezing of what was lent
  have key : ∃ S1, Rel C S1 θ a w ∧ (resPut P o c.ty c.own (c.res r)).exe n S1 = some S' ∧ (∀ ob b, okR w w' F' c.esc ob b → (b < w'.heap.size ∧ ¬ C.F b ∧ ¬ C.I b ∧ ¬ OwnB S1 θ b)) ∧ (∀ d, S.obj d = none → S1.obj d = none) := by
    cases hesc : c.esc with
    | true =>
      rw [hesc] at hh3
      obtain ⟨S1, k1, k2, k3, k4, k5, k6, k7⟩ := freezeL_ok l h hh3
      refine ⟨S1, k1, k2, fun ob b hb => ⟨hb.1, fun hF => hb.2.1 (.inl hF), C.noI b, ?_⟩, k5⟩
      rintro ⟨d, o1, v1, q1, q2, q3, q4⟩
      by_cases hd : d ∈ l
      · -- a frozen one is no own one: its block would be ok
        have hlt := ((k1.objs d o1 q1).lt q2 q3 q4).1
        cases hob : S.obj d with
        | none => rw [k5 d hob] at q1; cases q1
        | some o0 =>
          by_cases hown : o0.isOwn = true
          · have := k3 b (own_okX h hob hown q3 q4 hd)
            exact this.2.2.2 ⟨d, o1, v1, q1, q2, q3, q4⟩
          · have hx0 : okX C w S θ l b := by
              refine ⟨hlt, ?_, C.noI b, ?_⟩
              · intro hF
                have hB := ((k1.objs d o1 q1).lt q2 q3 q4).2.resolve_right (C.noI b)
                exact absurd (C.fb b hF) (Nat.not_lt.2 hB)
              · rintro ⟨d', o2, v2, p1, p2, p3, p4, p5⟩
                exact hb.2.1 (.inr ⟨d', o2, v2, p1, p2, p3, p4, p5⟩)
            exact (k3 b hx0).2.2.2 ⟨d, o1, v1, q1, q2, q3, q4⟩
      · rw [k7 d hd] at q1
        exact hb.2.1 (.inr ⟨d, o1, v1, hd, q1, q2, q3, q4⟩)
    | false =>
      rw [hesc] at hh3
      refine ⟨S, h, hh3, fun ob b hb => ⟨hb.1, fun hF => hb.2.1 (.inl hF), C.noI b, ?_⟩, fun d hd => hd⟩
      rintro ⟨d, o1, v1, q1, q2, q3, q4⟩
      have h1 := ((h.objs d o1 q1).lt q2 q3 q4).1
      have h2 := hb.2.2.2 rfl
      omega
  obtain ⟨S1, h1, hh4, hokR, hnone⟩ := key
  have h2 := h1.called hb
  have hokR' : ∀ ob b, okR w w' F' c.esc ob b → okOf C w' S1 θ b := fun ob b hb => hokR ob b hb
  unfold resPut at hh4
  split at hh4
  · -- no own result
    rename_i hown
    rw [hown] at hres
    obtain ⟨hct, hwt⟩ := hres
    have hct' := CVt_mono (⟨hokR' none, fun _ _ => rfl, fun _ _ h => h⟩ : Keeps w' w' _ _ (fun _ => none) (fun _ => none)) _ _ hct
    exact hK _ _ θ (resFin_ok hh4 h2 hvs hlen (CVt_noname hwt hct')) (put_defers _ _ _)
  · -- an own row
    rename_i j hown
    rw [hown] at hres
    obtain ⟨x0, u, t, e1, e2, e3, ⟨hb0, hform, el, hel, hrow⟩, hct, hwt⟩ := hres
    rw [e1, e3] at hh4
    simp only at hh4
    split at hh4 <;> first | exact (exe_fail hh4).elim | skip
    rename_i ob hob
    have hh5 := exe_obj hh4
    clear hh4
    cases hq : S1.obj (resName (o.dst.getD 0)) with
    | some q => rw [hq] at hh5; exact (exe_fail hh5).elim
    | none =>
      rw [hq] at hh5
      have hh6 := exe_setObj hh5
      clear hh5
      -- what the row says
      have hblk : ∀ g, blk u = some g → w.heap.size ≤ g := by
        intro g hg
        rcases hrow with ⟨k, xs, _, hr1⟩ | ⟨s, xs, cs, _, _, _, hr1⟩
        · exact (hr1.lt hg).2
        · exact (hr1.lt hg).2
      have hokN : ∀ b, okR w w' F' c.esc (blk u) b → okOf C w' (S1.setObj (resName (o.dst.getD 0)) ob) (upd θ (resName (o.dst.getD 0)) u) b := by
        intro b hb1
        obtain ⟨q1, q2, q3, q4⟩ := hokR _ b hb1
        refine ⟨q1, q2, q3, ?_⟩
        rintro ⟨d, o1, v1, p1, p2, p3, p4⟩
        by_cases e : d = resName (o.dst.getD 0)
        · subst e
          rw [upd_self] at p3
          cases p3
          exact hb1.2.2.1 p4.symm
        · rw [obj_setObj_other _ _ _ _ e] at p1
          rw [upd_ne _ _ e] at p3
          exact q4 ⟨d, o1, v1, p1, p2, p3, p4⟩
      have hrel := h1.born' (b := ob) hq hb hblk hb0 (fun hk => by
        unfold asOb at hob
        rw [hel] at hob
        rcases hrow with ⟨k, xs, rfl, hr1⟩ | ⟨s, xs, cs, rfl, hw, hcs, hr1⟩
        · cases hob
          refine ⟨u, upd_self _ _ _, fun _ => ?_, fun h => by cases h⟩
          refine ⟨hr1.1, ?_⟩
          rcases hr1.2 with q | ⟨g, cap, cur, fr, q1, q2, q3⟩
          · exact .inl q
          · exact .inr ⟨g, cap, cur, fr, q1, Nat.le_trans h.size q2, q3⟩
        · cases hob
          refine ⟨u, upd_self _ _ _, hw, fun _ => ⟨cs, CVs_noname hw (CVs_mono (⟨hokN, fun _ _ => rfl, fun _ _ h => h⟩ : Keeps w' w' _ _ (fun _ => none) (fun _ => none)) _ _ hcs), hr1.1, ?_⟩, fun h => by cases h⟩
          rcases hr1.2 with q | ⟨g, cap, cur, fr, q1, q2, q3⟩
          · exact .inl q
          · exact .inr ⟨g, cap, cur, fr, q1, Nat.le_trans h.size q2, q3⟩)
      have hct' := CVt_mono (⟨hokN, fun _ _ => rfl, fun _ _ h => h⟩ : Keeps w' w' _ _ (fun _ => none) (fun _ => none)) _ _ hct
      have hct2 : CVt w' (okOf C w' (S1.setObj (resName (o.dst.getD 0)) ob) (upd θ (resName (o.dst.getD 0)) u)) (upd θ (resName (o.dst.getD 0)) u) ((c.res r).set j .undef) vs := by
        have key : ∀ (us : List AV) (vs : List Value) (j : Nat), (∀ i b, i ≠ j → us[i]? = some b → ∃ s, WT s b) → ∀ {ok : Nat → Prop} {θ' : Nat → Option Value}, CVt w' ok (fun _ => none) (us.set j .undef) vs → CVt w' ok θ' (us.set j .undef) vs := by
          intro us
          induction us with
          | nil => intro vs j _ ok θ' h; exact h
          | cons y us ih =>
            intro vs j hw ok θ' h
            cases j with
            | zero =>
              obtain ⟨v, rest, rfl, k1, k2⟩ := h
              exact ⟨v, rest, rfl, trivial, CVt_noname (fun a ha => by
                obtain ⟨i, hi⟩ := List.getElem?_of_mem ha
                exact hw (i + 1) a (by omega) (by simpa using hi)) k2⟩
            | succ j =>
              obtain ⟨v, rest, rfl, k1, k2⟩ := h
              obtain ⟨s, hs⟩ := hw 0 y (by omega) rfl
              exact ⟨v, rest, rfl, CV_noname hs k1, ih rest j (fun i b hi hb => hw (i + 1) b (by omega) (by simpa using hb)) k2⟩
        exact key _ _ _ hwt hct'
      have hct3 := CVt_set (x := .own (resName (o.dst.getD 0))) hct2 e2 ⟨upd_self _ _ _, hform⟩
      exact hK _ _ _ (resFin_ok hh6 hrel hvs (by rw [List.length_set]; exact hlen) hct3) (put_defers _ _ _)
end
end Go.Am
