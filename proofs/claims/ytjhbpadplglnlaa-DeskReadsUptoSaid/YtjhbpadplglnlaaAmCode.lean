/-
  AM: code.
-/
import Derived.Test.YtjhbpadplglnlaaAmCan
import Derived.LoopN
import Derived.Scope
set_option linter.unusedVariables false
set_option linter.unusedSimpArgs false
namespace Go.Am
open Go.RowKit

inductive Ex where
  | nrm
  | ext (id : Nat)
  | ret

def Ex.to : Ex → Exit
  | .nrm => .normal
  | .ext i => .exit i
  | .ret => .ret

def Ex.same : Ex → Ex → Bool
  | .nrm, .nrm => true
  | .ext i, .ext j => Nat.beq i j
  | .ret, .ret => true
  | _, _ => false

abbrev Exits := List (Ex × Tpl)

/-- Where a run comes out, and what it brings. -/
def arrive (m : Nat) (e : Ex) (S : St) : Nat → Exits → Option (Nat × List AV)
  | _, [] => none
  | j, (e', T) :: r => match Ex.same e e' with
    | true => match abst m T S with
      | some d => some (j, d)
      | none => none
    | false => arrive m e S (j + 1) r

/-- On from there. -/
def leave (m : Nat) (r : Nat × List AV) {R : Type} (K : Ex → St → Option R) : Nat → Exits → Option R
  | _, [] => none
  | j, (e, T) :: rest => brO (Nat.beq r.1 j) (K e (con m T r.2)) (leave m r K (j + 1) rest)

def loopN (m : Nat) (step : List AV → (Ex → St → Option (Nat × List AV)) → Option (Nat × List AV)) (T : Tpl) (exits : Exits) : Nat → List AV → Option (Nat × List AV)
  | 0, _ => none
  | n + 1, d => step d fun e S => match e with
    | .nrm => match abst m T S with
      | some d' => loopN m step T exits n d'
      | none => none
    | e => arrive m e S 0 exits

def first : Code → Option Nat
  | .region id _ _ => some id
  | .seq a b => match first a with | some i => some i | none => first b
  | .cond _ a b => match first a with | some i => some i | none => first b
  | .block _ b => first b
  | .loop b => first b
  | .scope b => first b
  | _ => none

/-- What is said of loops and joins: by the first region behind. -/
structure Hints where
  loops : Nat → Option (Tpl × Exits)
  joins : Nat → Option Exits

def bool? (S : St) : Operand → Option Bool
  | .tmp t => match S.slot t with | .bool b => some b | _ => none
  | .const (.bool b) => some b
  | _ => none

def exec (n m : Nat) (P : Program) (glob : Nat → Option AV) (cal : FuncId → Option Cal) (H : Hints) : Code → {R : Type} → St → (Ex → St → Option R) → Option R
  | .skip, _, S, K => K .nrm S
  | .region _ ops draw, _, S, K => runReg n P glob cal ops.toList draw S (K .nrm)
  | .seq a b, _, S, K => match (match first b with | some i => H.joins i | none => none) with
    | none => exec n m P glob cal H a S fun e S' => match e with
      | .nrm => exec n m P glob cal H b S' K
      | e => K e S'
    | some exits => (exec n m P glob cal H a S fun e S' => arrive m e S' 0 exits).bind fun r => leave m r (fun e S' => match e with
      | .nrm => exec n m P glob cal H b S' K
      | e => K e S') 0 exits
  | .cond c a b, _, S, K => match bool? S c with
    | some t => brO t (exec n m P glob cal H a S K) (exec n m P glob cal H b S K)
    | none => none
  | .block id b, _, S, K => exec n m P glob cal H b S fun e S' => match e with
    | .ext j => match Nat.beq j id with
      | true => K .nrm S'
      | false => K (.ext j) S'
    | e => K e S'
  | .loop b, _, S, K => match (match first b with | some i => H.loops i | none => none) with
    | some (T, exits) => match abst m T S with
      | some d => (loopN m (fun d K' => exec n m P glob cal H b (con m T d) K') T exits n d).bind fun r => leave m r K 0 exits
      | none => none
    | none => none
  | .scope b, _, S, K => exec n m P glob cal H b S K
  | .label _, _, S, K => K .nrm S
  | .exit id, _, S, K => K (.ext id) S
  | .ret, _, S, K => K .ret S
  | _, _, _, _ => none

section
variable {C : Ctx} {S S' T : St} {θ θ' : Nat → Option Value} {a : Act} {w w' : World} {n m : Nat} {P : Program} {o : Oper}

theorem same_eq {e e' : Ex} (h : Ex.same e e' = true) : e = e' := by
  cases e <;> cases e' <;> first | rfl | (cases (show false = true from h); done) | skip
  rename_i i j
  have : i = j := by simpa [Ex.same] using h
  rw [this]

theorem arrive_spec {e : Ex} : ∀ (xs : Exits) (j i : Nat) (d : List AV), arrive m e S j xs = some (i, d) → ∃ k T, i = j + k ∧ xs[k]? = some (e, T) ∧ abst m T S = some d
  | [], j, i, d, h => by cases h
  | (e', T) :: r, j, i, d, h => by
    simp only [arrive] at h
    split at h
    · rename_i he
      split at h
      · rename_i d' hd
        cases h
        exact ⟨0, T, rfl, by rw [same_eq he]; rfl, hd⟩
      · cases h
    · obtain ⟨k, T, h1, h2, h3⟩ := arrive_spec r (j + 1) i d h
      exact ⟨k + 1, T, by omega, by simpa using h2, h3⟩

theorem leave_spec {R : Type} {r : Nat × List AV} {K : Ex → St → Option R} {x : R} : ∀ (xs : Exits) (j : Nat), leave m r K j xs = some x → ∀ k e T, xs[k]? = some (e, T) → r.1 = j + k → K e (con m T r.2) = some x
  | [], j, h, k, e, T, hk, _ => by simp at hk
  | (e', T') :: rest, j, h, k, e, T, hk, hr => by
    simp only [leave] at h
    cases k with
    | zero =>
      simp only [List.getElem?_cons_zero, Option.some.injEq, Prod.mk.injEq] at hk
      obtain ⟨rfl, rfl⟩ := hk
      have : Nat.beq r.1 j = true := by simp [hr]
      rw [this] at h
      exact h
    | succ k =>
      have : Nat.beq r.1 j = false := by
        cases hb : Nat.beq r.1 j with
        | false => rfl
        | true => simp at hb; omega
      rw [this] at h
      exact leave_spec rest (j + 1) h k e T (by simpa using hk) (by omega)

/-- What is to be shown of code. -/
def Sound (C : Ctx) (P : Program) (n m : Nat) (cal : FuncId → Option Cal) (H : Hints) (c : Code) : Prop :=
  ∀ {R : Type} (S : St) (K : Ex → St → Option R) (x : R), exec n m P C.G cal H c S K = some x → ∀ (θ : Nat → Option Value) (a : Act) (w : World), Rel C S θ a w →
    ∀ Q : Exit → Act → World → Prop, (∀ e S' θ' a' w', K e S' = some x → Rel C S' θ' a' w' → a'.defers = a.defers → Q e.to a' w') → c.wp P Q a w

theorem bool?_ok (h : Rel C S θ a w) {c : Operand} {t : Bool} (hc : bool? S c = some t) : a.eval c = .bool t := by
  unfold bool? at hc
  split at hc
  · rename_i i
    split at hc
    · rename_i b hb
      cases hc
      have hlt : i < a.tmps.size := by
        rw [h.len]
        rcases Nat.lt_or_ge i S.tm.length with h1 | h1
        · exact h1
        · simp [St.slot, List.getD_eq_getElem?_getD, h1] at hb
      have hv := h.slots i _ (Array.getElem?_eq_getElem hlt)
      rw [hb] at hv
      have hv : a.tmps[i] = .bool t := hv
      simp [Act.eval, hlt, hv]
    · cases hc
  · cases hc; rfl
  · cases hc

theorem loop_ok {cal : FuncId → Option Cal} {H : Hints} {b : Code} (ih : Sound C P n m cal H b) {T : Tpl} {exits : Exits} {r : Nat × List AV} {df : List Deferred} {Q : Exit → Act → World → Prop}
    (hQ : ∀ e S' θ' a' w' k T', exits[k]? = some (e, T') → r.1 = k → abst m T' S' = some r.2 → Rel C S' θ' a' w' → a'.defers = df → Q e.to a' w') :
    ∀ (f : Nat) (d : List AV), loopN m (fun d K' => exec n m P C.G cal H b (con m T d) K') T exits f d = some r → ∀ (θ : Nat → Option Value) (a : Act) (w : World), Rel C (con m T d) θ a w → a.defers = df → Code.rounds P b Q f a w
  | 0, d, h, θ, a, w, hr, hd => by cases h
  | f + 1, d, h, θ, a, w, hr, hd => by
    rw [rounds_succ]
    refine ih _ _ _ h θ a w hr _ (fun e S' θ' a' w' hk hr' hd' => ?_)
    cases e with
    | nrm =>
      dsimp only at hk
      split at hk
      · rename_i d' hd''
        obtain ⟨η, hη⟩ := canon_ok hr' hd''
        exact loop_ok ih hQ f d' hk η a' w' hη (hd'.trans hd)
      · cases hk
    | ext i =>
      obtain ⟨k, T', h1, h2, h3⟩ := arrive_spec exits 0 r.1 r.2 hk
      exact hQ _ S' θ' a' w' k T' h2 (by omega) h3 hr' (hd'.trans hd)
    | ret =>
      obtain ⟨k, T', h1, h2, h3⟩ := arrive_spec exits 0 r.1 r.2 hk
      exact hQ _ S' θ' a' w' k T' h2 (by omega) h3 hr' (hd'.trans hd)

theorem exec_ok {cal : FuncId → Option Cal} {H : Hints} (hcal : ∀ f c, cal f = some c → SoundCal P C.G f c) (hm : P.follows .mixedOrders = true) : ∀ c : Code, Sound C P n m cal H c := by
  intro c
  induction c with
  | skip => intro R S K x h θ a w hr Q hQ; exact wp_skip (hQ .nrm S θ a w h hr rfl)
  | region id ops draw =>
    intro R S K x h θ a w hr Q hQ
    obtain ⟨S', h1, h2⟩ := runReg_ok (id := id) hcal hm hr h
    exact h2 Q (fun a' w' θ' hr' hd' => hQ .nrm S' θ' a' w' h1 hr' hd')
  | seq x y ihx ihy =>
    intro R S K r h θ a w hr Q hQ
    refine wp_seq ?_
    simp only [exec] at h
    have next : ∀ (S' : St) (θ' : Nat → Option Value) (a' : Act) (w' : World) (e : Ex), (match e with | .nrm => exec n m P C.G cal H y S' K | e => K e S') = some r → Rel C S' θ' a' w' → a'.defers = a.defers → Exit.then (y.wp P Q) Q e.to a' w' := by
      intro S' θ' a' w' e hk hr' hd'
      cases e with
      | nrm => exact ihy S' K r hk θ' a' w' hr' Q (fun e S2 θ2 a2 w2 h1 h2 h3 => hQ e S2 θ2 a2 w2 h1 h2 (h3.trans hd'))
      | ext i => exact hQ (.ext i) S' θ' a' w' hk hr' hd'
      | ret => exact hQ .ret S' θ' a' w' hk hr' hd'
    split at h
    · exact ihx S _ r h θ a w hr _ (fun e S' θ' a' w' hk hr' hd' => next S' θ' a' w' e hk hr' hd')
    · rename_i exits hex
      obtain ⟨q, h1, h2⟩ := Option.bind_eq_some_iff.1 h
      refine ihx S _ q h1 θ a w hr _ (fun e S' θ' a' w' hk hr' hd' => ?_)
      obtain ⟨k, T', h3, h4, h5⟩ := arrive_spec exits 0 q.1 q.2 hk
      obtain ⟨η, hη⟩ := canon_ok hr' h5
      exact next _ η a' w' e (leave_spec exits 0 h2 k e T' h4 h3) hη hd'
  | cond c x y ihx ihy =>
    intro R S K r h θ a w hr Q hQ
    simp only [exec] at h
    split at h
    · rename_i t ht
      refine wp_cond (bool?_ok hr ht) ?_
      cases t with
      | true => exact ihx S K r h θ a w hr Q hQ
      | false => exact ihy S K r h θ a w hr Q hQ
    · cases h
  | block id b ih =>
    intro R S K r h θ a w hr Q hQ
    refine wp_block ?_
    refine ih S _ r h θ a w hr _ (fun e S' θ' a' w' hk hr' hd' => ?_)
    cases e with
    | nrm => exact hQ .nrm S' θ' a' w' hk hr' hd'
    | ext j =>
      dsimp only at hk
      simp only [Ex.to, Exit.inBlock]
      split at hk
      · rename_i hj
        rw [if_pos (by simpa using hj)]
        exact hQ .nrm S' θ' a' w' hk hr' hd'
      · rename_i hj
        rw [if_neg (fun he => by subst he; simp at hj)]
        exact hQ (.ext j) S' θ' a' w' hk hr' hd'
    | ret => exact hQ .ret S' θ' a' w' hk hr' hd'
  | loop b ih =>
    intro R S K r h θ a w hr Q hQ
    simp only [exec] at h
    split at h
    · rename_i T exits hT
      split at h
      · rename_i d hd
        obtain ⟨q, h1, h2⟩ := Option.bind_eq_some_iff.1 h
        obtain ⟨η, hη⟩ := canon_ok hr hd
        refine wp_loop_rounds n (loop_ok ih (df := a.defers) (r := q) (fun e S' θ' a' w' k T' h3 h4 h5 h6 h7 => ?_) n d h1 η a w hη rfl)
        obtain ⟨η', hη'⟩ := canon_ok h6 h5
        exact hQ e _ η' a' w' (leave_spec exits 0 h2 k e T' h3 (by omega)) hη' h7
      · cases h
    · cases h
  | scope b ih =>
    intro R S K r h θ a w hr Q hQ
    refine wp_scope_straight ?_
    refine ih S _ r h θ a w hr _ (fun e S' θ' a' w' hk hr' hd' => ?_)
    cases e with
    | nrm => exact hQ .nrm S' θ' a' w' hk hr' hd'
    | ext j => exact hQ (.ext j) S' θ' a' w' hk hr' hd'
    | ret => exact hQ .ret S' θ' a' w' hk hr' hd'
  | label l => intro R S K x h θ a w hr Q hQ; exact wp_label (hQ .nrm S θ a w h hr rfl)
  | exit id => intro R S K x h θ a w hr Q hQ; exact wp_exit (hQ (.ext id) S θ a w h hr rfl)
  | ret => intro R S K x h θ a w hr Q hQ; exact wp_ret (hQ .ret S θ a w h hr rfl)
  | _ => intro R S K x h; cases h
end
end Go.Am
