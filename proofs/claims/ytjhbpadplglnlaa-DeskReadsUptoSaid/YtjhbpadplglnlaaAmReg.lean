/-
  AM: regions, in the text's order and in any order.
-/
import Derived.Test.YtjhbpadplglnlaaAmAop
set_option linter.unusedVariables false
set_option linter.unusedSimpArgs false
namespace Go.Am
open Go.RowKit

/-- A run that notes what it reads (slot i: 2i, object d: 2d+1) and what it writes. -/
def Pg.runL (n : Nat) {R : Type} : Pg → List Nat → List Nat → St → (List Nat → List Nat → St → Option R) → Option R
  | .done, rs, ws, S, K => K rs ws S
  | .fail, _, _, _, _ => none
  | .slot i k, rs, ws, S, K => (k (S.slot i)).runL n ((2 * i) :: rs) ws S K
  | .obj d k, rs, ws, S, K => (k (S.obj d)).runL n ((2 * d + 1) :: rs) ws S K
  | .setSlot i v k, rs, ws, S, K => k.runL n rs ((2 * i) :: ws) (S.setSlot i v) K
  | .setObj d o k, rs, ws, S, K => k.runL n rs ((2 * d + 1) :: ws) (S.setObj d o) K
  | .chk b k, rs, ws, S, K => brO b (k.runL n rs ws S K) none
  | .call c x k, rs, ws, S, K => (c.F n x).bind fun r => (k r).runL n rs ws S K

def gslot (ops : List Oper) (g : Nat) : Option Nat := (ops[g]?).bind (·.dst)

def gop (P : Program) (glob : Nat → Option AV) (cal : FuncId → Option Cal) (ops : List Oper) (o : Oper) : Pg :=
  match o.guard with
  | none => aop P glob cal o
  | some (g, want) => match gslot ops g with
    | some t => .slot t fun v => match v with
      | .bool b => match b, want with
        | true, true => aop P glob cal o
        | false, false => aop P glob cal o
        | true, false => put o (.tup [])
        | false, true => put o (.tup [])
      | .tup [] => put o (.tup [])
      | _ => .fail
    | none => .fail

def isGuard (ops : List Oper) (i : Nat) : Bool := ops.any fun o => match o.guard with | some (g, _) => Nat.beq g i | none => false

/-- What a later operation asks for is told apart here. -/
def split {R : Type} (ops : List Oper) (i : Nat) (o : Oper) (S : St) (K : St → Option R) : Option R :=
  match isGuard ops i, o.dst with
  | true, some d => match S.slot d with
    | .bool b => brO b (K (S.setSlot d (.bool true))) (K (S.setSlot d (.bool false)))
    | _ => K S
  | _, _ => K S

def runOps (n : Nat) (P : Program) (glob : Nat → Option AV) (cal : FuncId → Option Cal) (ops : List Oper) {R : Type} : Nat → List Oper → List (List Nat × List Nat) → St → (List (List Nat × List Nat) → St → Option R) → Option R
  | _, [], lg, S, K => K lg S
  | i, o :: os, lg, S, K => (gop P glob cal ops o).runL n [] [] S fun rs ws S' => split ops i o S' fun S'' => runOps n P glob cal ops (i + 1) os ((rs, ws) :: lg) S'' K

def meets (xs ys : List Nat) : Bool := xs.any fun x => ys.any fun y => Nat.beq x y
def clash (x y : List Nat × List Nat) : Bool := meets x.2 y.1 || (meets x.2 y.2 || meets y.2 x.1)

/-- What must come ahead of each. -/
def maskOf (acc : List Nat) (es : List Edge) : Nat := es.foldr (fun e m => match Region.binds .any e with | true => (2 ^ e.on ||| acc.getD e.on 0) ||| m | false => m) 0
def masks : List Oper → List Nat → List Nat
  | [], acc => acc
  | o :: os, acc => masks os (acc ++ [maskOf acc o.after.toList])

def orderedAt (ms : List Nat) (x : List Nat × List Nat) (j m : Nat) : Nat → List (List Nat × List Nat) → Bool
  | _, [] => true
  | i, y :: ys => (match Nat.blt i j with | true => (match clash y x with | true => m.testBit i | false => true) | false => true) && orderedAt ms x j m (i + 1) ys
def orderedFrom (ms : List Nat) (all : List (List Nat × List Nat)) : Nat → List (List Nat × List Nat) → Bool
  | _, [] => true
  | j, x :: xs => orderedAt ms x j (ms.getD j 0) 0 all && orderedFrom ms all (j + 1) xs
def backB : Nat → List Oper → Bool
  | _, [] => true
  | j, o :: os => o.after.toList.all (fun e => match Region.binds .any e with | true => Nat.blt e.on j | false => true) && backB (j + 1) os
def ordered (ops : List Oper) (lg : List (List Nat × List Nat)) : Bool := backB 0 ops && orderedFrom (masks ops []) lg 0 lg

def runReg (n : Nat) (P : Program) (glob : Nat → Option AV) (cal : FuncId → Option Cal) (ops : List Oper) (draw : Bool) {R : Type} (S : St) (K : St → Option R) : Option R :=
  runOps n P glob cal ops 0 ops [] S fun lg S' => match draw with
    | false => K S'
    | true => match ordered ops lg.reverse with
      | true => K S'
      | false => none

/-! What it says. -/
def St.val (S : St) (p : Nat) : AV × Option Ob := if p % 2 = 0 then (S.slot (p / 2), none) else (.undef, S.obj (p / 2))

theorem val_slot (S : St) (i : Nat) : S.val (2 * i) = (S.slot i, none) := by simp [St.val]
theorem val_obj (S : St) (d : Nat) : S.val (2 * d + 1) = (.undef, S.obj d) := by
  have h1 : (2 * d + 1) % 2 = 1 := by omega
  have h2 : (2 * d + 1) / 2 = d := by omega
  simp [St.val, h1, h2]
theorem place (p : Nat) : (∃ i, p = 2 * i) ∨ ∃ d, p = 2 * d + 1 := by
  rcases Nat.mod_two_eq_zero_or_one p with h | h
  · exact .inl ⟨p / 2, by omega⟩
  · exact .inr ⟨p / 2, by omega⟩

def Loc (n : Nat) (p : Pg) (S S' : St) (R W : List Nat) : Prop :=
  S'.tm.length = S.tm.length ∧ (∀ q, q ∉ W → S'.val q = S.val q) ∧
  ∀ T : St, T.tm.length = S.tm.length → (∀ q ∈ R, T.val q = S.val q) → ∃ T', p.exe n T = some T' ∧ T'.tm.length = T.tm.length ∧ (∀ q ∈ W, T'.val q = S'.val q) ∧ ∀ q, q ∉ W → T'.val q = T.val q

theorem val_setSlot {S : St} {i : Nat} {v : AV} {q : Nat} (h : q ≠ 2 * i) : (S.setSlot i v).val q = S.val q := by
  rcases place q with ⟨j, rfl⟩ | ⟨d, rfl⟩
  · rw [val_slot, val_slot, slot_setSlot_other _ _ _ _ (by omega)]
  · rw [val_obj, val_obj, obj_setSlot]
theorem val_setSlot_same {S T : St} {i : Nat} {v : AV} (h : T.tm.length = S.tm.length) : (T.setSlot i v).val (2 * i) = (S.setSlot i v).val (2 * i) := by
  rw [val_slot, val_slot]
  by_cases hi : i < S.tm.length
  · rw [slot_setSlot_same _ _ _ hi, slot_setSlot_same _ _ _ (by rw [h]; exact hi)]
  · have h1 : S.tm.length ≤ i := by omega
    have h2 : T.tm.length ≤ i := by omega
    simp [St.slot, St.setSlot, List.getD_eq_getElem?_getD, h1, h2]
theorem val_setObj {S : St} {d : Nat} {o : Ob} {q : Nat} (h : q ≠ 2 * d + 1) : (S.setObj d o).val q = S.val q := by
  rcases place q with ⟨j, rfl⟩ | ⟨e, rfl⟩
  · rw [val_slot, val_slot]; rfl
  · rw [val_obj, val_obj, obj_setObj_other _ _ _ _ (by omega)]
theorem val_setObj_same {S T : St} {d : Nat} {o : Ob} : (T.setObj d o).val (2 * d + 1) = (S.setObj d o).val (2 * d + 1) := by
  rw [val_obj, val_obj, obj_setObj_same, obj_setObj_same]
theorem len_setSlot (S : St) (i : Nat) (v : AV) : (S.setSlot i v).tm.length = S.tm.length := by simp [St.setSlot]

theorem runL_spec {n : Nat} {R : Type} : ∀ (p : Pg) (rs ws : List Nat) (S : St) (K : List Nat → List Nat → St → Option R) (x : R), p.runL n rs ws S K = some x →
    ∃ rs' ws' S', K (rs' ++ rs) (ws' ++ ws) S' = some x ∧ Loc n p S S' rs' ws'
  | .done, rs, ws, S, K, x, h => ⟨[], [], S, h, rfl, fun _ _ => rfl, fun T hl _ => ⟨T, rfl, rfl, by simp, fun _ _ => rfl⟩⟩
  | .fail, rs, ws, S, K, x, h => by cases h
  | .slot i k, rs, ws, S, K, x, h => by
    obtain ⟨rs', ws', S', hk, hl, hf, hc⟩ := runL_spec (k (S.slot i)) _ _ S K x h
    refine ⟨rs' ++ [2 * i], ws', S', by simpa using hk, hl, hf, fun T hT hR => ?_⟩
    have e : T.slot i = S.slot i := by
      have := hR (2 * i) (by simp)
      rw [val_slot, val_slot] at this
      exact (Prod.mk.inj this).1
    obtain ⟨T', h1, h2⟩ := hc T hT (fun q hq => hR q (by simp [hq]))
    exact ⟨T', by show (k (T.slot i)).exe n T = _; rw [e]; exact h1, h2⟩
  | .obj d k, rs, ws, S, K, x, h => by
    obtain ⟨rs', ws', S', hk, hl, hf, hc⟩ := runL_spec (k (S.obj d)) _ _ S K x h
    refine ⟨rs' ++ [2 * d + 1], ws', S', by simpa using hk, hl, hf, fun T hT hR => ?_⟩
    have e : T.obj d = S.obj d := by
      have := hR (2 * d + 1) (by simp)
      rw [val_obj, val_obj] at this
      exact (Prod.mk.inj this).2
    obtain ⟨T', h1, h2⟩ := hc T hT (fun q hq => hR q (by simp [hq]))
    exact ⟨T', by show (k (T.obj d)).exe n T = _; rw [e]; exact h1, h2⟩
  | .setSlot i v k, rs, ws, S, K, x, h => by
    obtain ⟨rs', ws', S', hk, hl, hf, hc⟩ := runL_spec k _ _ (S.setSlot i v) K x h
    rw [len_setSlot] at hl
    refine ⟨rs', ws' ++ [2 * i], S', by simpa using hk, hl, fun q hq => ?_, fun T hT hR => ?_⟩
    · simp only [List.mem_append, List.mem_singleton, not_or] at hq
      rw [hf q hq.1, val_setSlot hq.2]
    · obtain ⟨T', h1, h2, h3, h4⟩ := hc (T.setSlot i v) (by rw [len_setSlot, len_setSlot]; exact hT) (fun q hq => by
        by_cases hqi : q = 2 * i
        · subst hqi; exact val_setSlot_same hT
        · rw [val_setSlot hqi, val_setSlot hqi, hR q hq])
      refine ⟨T', h1, by rw [h2, len_setSlot], fun q hq => ?_, fun q hq => ?_⟩
      · by_cases hw : q ∈ ws'
        · exact h3 q hw
        · simp only [List.mem_append, hw, List.mem_singleton, false_or] at hq
          subst hq
          rw [h4 _ hw, hf _ hw]
          exact val_setSlot_same hT
      · simp only [List.mem_append, List.mem_singleton, not_or] at hq
        rw [h4 q hq.1, val_setSlot hq.2]
  | .setObj d o k, rs, ws, S, K, x, h => by
    obtain ⟨rs', ws', S', hk, hl, hf, hc⟩ := runL_spec k _ _ (S.setObj d o) K x h
    refine ⟨rs', ws' ++ [2 * d + 1], S', by simpa using hk, hl, fun q hq => ?_, fun T hT hR => ?_⟩
    · simp only [List.mem_append, List.mem_singleton, not_or] at hq
      rw [hf q hq.1, val_setObj hq.2]
    · obtain ⟨T', h1, h2, h3, h4⟩ := hc (T.setObj d o) hT (fun q hq => by
        by_cases hqi : q = 2 * d + 1
        · subst hqi; exact val_setObj_same
        · rw [val_setObj hqi, val_setObj hqi, hR q hq])
      refine ⟨T', h1, h2, fun q hq => ?_, fun q hq => ?_⟩
      · by_cases hw : q ∈ ws'
        · exact h3 q hw
        · simp only [List.mem_append, hw, List.mem_singleton, false_or] at hq
          subst hq
          rw [h4 _ hw, hf _ hw]
          exact val_setObj_same
      · simp only [List.mem_append, List.mem_singleton, not_or] at hq
        rw [h4 q hq.1, val_setObj hq.2]
  | .chk b k, rs, ws, S, K, x, h => by
    cases b with
    | false => cases h
    | true =>
      obtain ⟨rs', ws', S', hk, hl, hf, hc⟩ := runL_spec k _ _ S K x h
      exact ⟨rs', ws', S', hk, hl, hf, hc⟩
  | .call c y k, rs, ws, S, K, x, h => by
    simp only [Pg.runL] at h
    cases hF : c.F n y with
    | none => rw [hF] at h; cases h
    | some r =>
      rw [hF] at h
      obtain ⟨rs', ws', S', hk, hl, hf, hc⟩ := runL_spec (k r) _ _ S K x h
      refine ⟨rs', ws', S', hk, hl, hf, fun T hT hR => ?_⟩
      obtain ⟨T', h1, h2⟩ := hc T hT hR
      exact ⟨T', by simp only [Pg.exe, Pg.run, hF, Option.bind_some]; exact h1, h2⟩

theorem setSlot_self (S : St) (d : Nat) : S.setSlot d (S.slot d) = S := by
  obtain ⟨tm, ob⟩ := S
  simp only [St.setSlot, St.slot, St.mk.injEq, and_true]
  apply List.ext_getElem?
  intro i
  by_cases h : d = i
  · subst h
    by_cases hi : d < tm.length
    · simp [hi]
    · simp [Nat.le_of_not_lt hi]
  · rw [List.getElem?_set_ne h]

theorem split_spec {R : Type} {ops : List Oper} {i : Nat} {o : Oper} {S : St} {K : St → Option R} {x : R} (h : split ops i o S K = some x) : K S = some x := by
  unfold split at h
  split at h
  · rename_i d _ hd
    split at h
    · rename_i b hb
      cases b with
      | true => rw [← hb, setSlot_self] at h; exact h
      | false => simp only [brO] at h; rw [← hb, setSlot_self] at h; exact h
    · exact h
  · exact h

theorem runOps_spec {n : Nat} {P : Program} {glob : Nat → Option AV} {cal : FuncId → Option Cal} {ops : List Oper} {R : Type} : ∀ (os : List Oper) (i : Nat) (lg : List (List Nat × List Nat)) (S : St) (K : List (List Nat × List Nat) → St → Option R) (x : R),
    runOps n P glob cal ops i os lg S K = some x → ∃ (Ss : Nat → St) (lgs : List (List Nat × List Nat)), K (lgs.reverse ++ lg) (Ss os.length) = some x ∧ lgs.length = os.length ∧ Ss 0 = S ∧
      ∀ k o, os[k]? = some o → ∃ R W, lgs[k]? = some (R, W) ∧ Loc n (gop P glob cal ops o) (Ss k) (Ss (k + 1)) R W
  | [], i, lg, S, K, x, h => ⟨fun _ => S, [], h, rfl, rfl, fun k o hk => by simp at hk⟩
  | o :: os, i, lg, S, K, x, h => by
    obtain ⟨rs, ws, S', h1, hloc⟩ := runL_spec _ _ _ _ _ _ h
    have h2 := split_spec h1
    obtain ⟨Ss, lgs, h3, h4, h5, h6⟩ := runOps_spec os (i + 1) _ S' K x h2
    refine ⟨fun k => match k with | 0 => S | k + 1 => Ss k, (rs, ws) :: lgs, by simpa using h3, by simp [h4], rfl, fun k o' hk => ?_⟩
    cases k with
    | zero =>
      simp only [List.getElem?_cons_zero, Option.some.injEq] at hk
      subst hk
      exact ⟨rs, ws, rfl, by simpa [h5] using hloc⟩
    | succ k =>
      simp only [List.getElem?_cons_succ] at hk
      exact h6 k o' hk

theorem Loc.self {n : Nat} {p : Pg} {S S' : St} {R W : List Nat} (h : Loc n p S S' R W) : ∃ T', p.exe n S = some T' ∧ T'.tm.length = S'.tm.length ∧ ∀ q, T'.val q = S'.val q := by
  obtain ⟨h1, h2, h3⟩ := h
  obtain ⟨T', k1, k2, k3, k4⟩ := h3 S rfl (fun _ _ => rfl)
  refine ⟨T', k1, k2.trans h1.symm, fun q => ?_⟩
  by_cases hq : q ∈ W
  · exact k3 q hq
  · rw [k4 q hq, h2 q hq]

section
variable {C : Ctx} {S S' T : St} {θ θ' : Nat → Option Value} {a : Act} {w w' : World} {n : Nat} {P : Program} {o : Oper}

theorem Rel.congr (h : Rel C S θ a w) (hl : T.tm.length = S.tm.length) (hv : ∀ q, T.val q = S.val q) : Rel C T θ a w := by
  have hs : ∀ i, T.slot i = S.slot i := fun i => by
    have := hv (2 * i)
    rw [val_slot, val_slot] at this
    exact (Prod.mk.inj this).1
  have ho : ∀ d, T.obj d = S.obj d := fun d => by
    have := hv (2 * d + 1)
    rw [val_obj, val_obj] at this
    exact (Prod.mk.inj this).2
  have hB : ∀ b, OwnB T θ b ↔ OwnB S θ b := fun b => by simp only [OwnB, ho]
  have hk : okOf C w T θ = okOf C w S θ := by funext b; simp only [okOf, hB]
  refine ⟨by rw [hl]; exact h.len, fun i v hi => ?_, fun d o hd => ?_, fun d hd => ?_, fun d d' o o' v v' b h1 h2 => ?_, h.os, h.tape, h.output, h.size, h.frame, fun g t hg => ?_, h.base⟩
  · rw [hs, hk]; exact h.slots i v hi
  · rw [hk]; rw [ho] at hd; exact h.objs d o hd
  · rw [ho] at hd; exact h.fresh d hd
  · rw [ho] at h1 h2; exact h.sep d d' o o' v v' b h1 h2
  · rw [hk]; exact h.globs g t hg

theorem skip_ok (hh : (put o (.tup [])).exe n S = some S') (h : Rel C S θ a w) : Rel C S' θ (a.put o.dst undef) w :=
  put_ok' hh h ⟨#[], rfl, rfl⟩

/-- One operation with its guard. -/
theorem gop_ok {cal : FuncId → Option Cal} (hcal : ∀ f c, cal f = some c → SoundCal P C.G f c) {ops : Array Oper} (h : Rel C S θ a w) (hh : (gop P C.G cal ops.toList o).exe n S = some S') (K : Act → World → Prop) (Q : Exit → Act → World → Prop)
    (hK : ∀ a' w' θ', Rel C S' θ' a' w' → a'.defers = a.defers → K a' w') :
    (Region.wanted o (yielded ops a.tmps) = true ∧ o.wp P a w K Q) ∨ (Region.wanted o (yielded ops a.tmps) = false ∧ K (a.put o.dst undef) w) := by
  unfold gop at hh
  unfold Region.wanted
  split at hh
  · rename_i hg
    rw [hg]
    exact .inl ⟨rfl, aop_ok hcal h hh K Q hK⟩
  · rename_i g want hg
    rw [hg]
    split at hh
    · rename_i t ht
      have hh := exe_slot hh
      have hy : yielded ops a.tmps g = match a.tmps[t]? with | some (.bool b) => some b | _ => none := by
        unfold yielded gslot at *
        rw [Array.getElem?_toList] at ht
        rw [ht]
        rfl
      dsimp only at hh ⊢
      split at hh
      · rename_i b hb
        have hlt : t < a.tmps.size := by
          rw [h.len]
          rcases Nat.lt_or_ge t S.tm.length with h1 | h1
          · exact h1
          · simp [St.slot, List.getD_eq_getElem?_getD, h1] at hb
        have hv := h.slots t _ (Array.getElem?_eq_getElem hlt)
        rw [hb] at hv
        have hv : a.tmps[t] = .bool b := hv
        rw [Array.getElem?_eq_getElem hlt, hv] at hy
        dsimp only at hy
        rw [hy]
        cases b <;> cases want
        · exact .inl ⟨rfl, aop_ok hcal h hh K Q hK⟩
        · exact .inr ⟨rfl, hK _ _ θ (skip_ok hh h) (put_defers _ _ _)⟩
        · exact .inr ⟨rfl, hK _ _ θ (skip_ok hh h) (put_defers _ _ _)⟩
        · exact .inl ⟨rfl, aop_ok hcal h hh K Q hK⟩
      · rename_i hb
        have : yielded ops a.tmps g = none := by
          rw [hy]
          cases ht' : a.tmps[t]? with
          | none => rfl
          | some v =>
            have hv := h.slots t v ht'
            rw [hb] at hv
            obtain ⟨us, rfl, _⟩ := hv
            rfl
        rw [this]
        exact .inr ⟨by cases want <;> rfl, hK _ _ θ (skip_ok hh h) (put_defers _ _ _)⟩
      · exact (exe_fail hh).elim
    · exact (exe_fail hh).elim

theorem gop_wpOp {cal : FuncId → Option Cal} (hcal : ∀ f c, cal f = some c → SoundCal P C.G f c) {ops : Array Oper} {i : Nat} (hi : ops[i]? = some o) (h : Rel C S θ a w) (hh : (gop P C.G cal ops.toList o).exe n S = some S') (K : Act → World → Prop) (Q : Exit → Act → World → Prop)
    (hK : ∀ a' w' θ', Rel C S' θ' a' w' → a'.defers = a.defers → K a' w') : wpOp P ops Q i K a w := by
  unfold wpOp
  rw [hi]
  dsimp only
  rcases gop_ok hcal h hh K Q hK with ⟨h1, h2⟩ | ⟨h1, h2⟩
  · rw [if_pos h1]; exact .inl h2
  · rw [if_neg (by simp [h1])]; exact h2

/-! Any order. -/
theorem getD_append_left {l r : List Nat} {i : Nat} (h : i < l.length) : (l ++ r).getD i 0 = l.getD i 0 := by
  simp [List.getD_eq_getElem?_getD, List.getElem?_append_left h]

theorem maskOf_bit {acc : List Nat} {b : Nat → Prop} (hacc : ∀ k i, b k → (acc.getD k 0).testBit i = true → b i) : ∀ (es : List Edge), (∀ e ∈ es, Region.binds .any e = true → b e.on) → ∀ i, (maskOf acc es).testBit i = true → b i
  | [], _, i, h => by simp [maskOf] at h
  | e :: es, he, i, h => by
    have ih := maskOf_bit hacc es (fun e' h' => he e' (by simp [h'])) i
    simp only [maskOf, List.foldr_cons] at h
    split at h
    · rename_i hb
      have hon := he e (by simp) hb
      simp only [Nat.testBit_or, Bool.or_eq_true, Nat.testBit_two_pow, decide_eq_true_eq] at h
      rcases h with (h | h) | h
      · exact h ▸ hon
      · exact hacc _ _ hon h
      · exact ih h
    · exact ih h

theorem masks_spec {b : Nat → Prop} : ∀ (os : List Oper) (acc : List Nat), (∀ (k : Nat) (o : Oper), os[k]? = some o → b (acc.length + k) → ∀ e ∈ o.after, Region.binds .any e = true → b e.on) →
    (∀ k i, b k → (acc.getD k 0).testBit i = true → b i) → ∀ k i, b k → ((masks os acc).getD k 0).testBit i = true → b i
  | [], acc, _, hacc => hacc
  | o :: os, acc, hos, hacc => by
    refine masks_spec os (acc ++ [maskOf acc o.after.toList]) (fun k o' hk hb => ?_) (fun k i hk hi => ?_)
    · refine hos (k + 1) o' hk ?_
      simpa [Nat.add_assoc, Nat.add_comm 1 k] using hb
    · rcases Nat.lt_trichotomy k acc.length with h | h | h
      · rw [getD_append_left h] at hi
        exact hacc k i hk hi
      · subst h
        simp only [List.getD_eq_getElem?_getD, List.getElem?_concat_length, Option.getD_some] at hi
        exact maskOf_bit hacc _ (fun e he hb => hos 0 o rfl hk e (by simpa using he) hb) i hi
      · simp [List.getD_eq_getElem?_getD, List.getElem?_append_right (Nat.le_of_lt h), show ¬ (k - acc.length = 0) by omega] at hi

theorem meets_false {xs ys : List Nat} (h : meets xs ys = false) {q : Nat} (h1 : q ∈ xs) (h2 : q ∈ ys) : False := by
  simp only [meets, List.any_eq_false] at h
  have := h q h1
  simp only [List.any_eq_true, not_exists, not_and, Nat.beq_eq] at this
  exact this q h2 rfl

theorem orderedAt_spec {ms : List Nat} {x : List Nat × List Nat} {j m : Nat} : ∀ (ys : List (List Nat × List Nat)) (i : Nat), orderedAt ms x j m i ys = true → ∀ k y, ys[k]? = some y → i + k < j → clash y x = true → m.testBit (i + k) = true
  | [], i, _, k, y, hk, _, _ => by simp at hk
  | z :: ys, i, h, k, y, hk, hlt, hc => by
    simp only [orderedAt, Bool.and_eq_true] at h
    cases k with
    | zero =>
      simp only [List.getElem?_cons_zero, Option.some.injEq] at hk
      subst hk
      have h1 : Nat.blt i j = true := by simpa using hlt
      have h2 := h.1
      rw [h1, hc] at h2
      simpa using h2
    | succ k =>
      have := orderedAt_spec ys (i + 1) h.2 k y hk (by omega) hc
      rwa [show i + 1 + k = i + (k + 1) by omega] at this

theorem orderedFrom_spec {ms : List Nat} {all : List (List Nat × List Nat)} : ∀ (xs : List (List Nat × List Nat)) (j : Nat), orderedFrom ms all j xs = true → ∀ k x, xs[k]? = some x → ∀ i y, all[i]? = some y → i < j + k → clash y x = true → (ms.getD (j + k) 0).testBit i = true
  | [], j, _, k, x, hk => by simp at hk
  | z :: xs, j, h, k, x, hk => by
    simp only [orderedFrom, Bool.and_eq_true] at h
    cases k with
    | zero =>
      simp only [List.getElem?_cons_zero, Option.some.injEq] at hk
      subst hk
      intro i y hi hlt hc
      have := orderedAt_spec all 0 h.1 i y hi (by simpa using hlt) hc
      simpa using this
    | succ k =>
      intro i y hi hlt hc
      have := orderedFrom_spec xs (j + 1) h.2 k x hk i y hi (by omega) hc
      rwa [show j + 1 + k = j + (k + 1) by omega] at this

theorem backB_spec : ∀ (os : List Oper) (j : Nat), backB j os = true → ∀ (k : Nat) (o : Oper), os[k]? = some o → ∀ e ∈ o.after, Region.binds .any e = true → e.on < j + k
  | [], j, _, k, o, hk => by simp at hk
  | z :: os, j, h, k, o, hk => by
    simp only [backB, Bool.and_eq_true] at h
    cases k with
    | zero =>
      simp only [List.getElem?_cons_zero, Option.some.injEq] at hk
      subst hk
      intro e he hb
      have := List.all_eq_true.1 h.1 e (by simpa using he)
      rw [hb] at this
      simpa using this
    | succ k =>
      intro e he hb
      have := backB_spec os (j + 1) h.2 k o hk e he hb
      omega

theorem least {p : Nat → Prop} : ∀ n, p n → ∃ m, p m ∧ ∀ k, k < m → ¬ p k := by
  intro n
  induction n using Nat.strongRecOn with
  | _ n ih =>
    intro h
    by_cases hk : ∃ k, k < n ∧ p k
    · obtain ⟨k, h1, h2⟩ := hk
      exact ih k h1 h2
    · exact ⟨n, h, fun k h1 h2 => hk ⟨k, h1, h2⟩⟩

/-- What lies at a place when the operations of b are done. -/
def vAt (Ss : Nat → St) (W : Nat → List Nat) (b : Nat → Bool) (q : Nat) : Nat → AV × Option Ob
  | 0 => (Ss 0).val q
  | k + 1 => if b k = true ∧ q ∈ W k then (Ss (k + 1)).val q else vAt Ss W b q k

section
variable {Ss : Nat → St} {W : Nat → List Nat} {b b' : Nat → Bool} {q : Nat}
theorem vAt_all {N : Nat} (hf : ∀ k, k < N → ∀ q, q ∉ W k → (Ss (k + 1)).val q = (Ss k).val q) : ∀ k, k ≤ N → (∀ j, j < k → q ∈ W j → b j = true) → vAt Ss W b q k = (Ss k).val q
  | 0, _, _ => rfl
  | k + 1, hk, h => by
    simp only [vAt]
    split
    · rfl
    · rename_i hc
      have hq : q ∉ W k := fun hq => hc ⟨h k (by omega) hq, hq⟩
      rw [vAt_all hf k (by omega) (fun j hj => h j (by omega)), hf k (by omega) q hq]
theorem vAt_none {i : Nat} : ∀ k, i ≤ k → (∀ j, i ≤ j → j < k → q ∈ W j → b j = false) → vAt Ss W b q k = vAt Ss W b q i
  | 0, hk, _ => by rw [show i = 0 by omega]
  | k + 1, hk, h => by
    by_cases e : i = k + 1
    · rw [e]
    · simp only [vAt]
      split
      · rename_i hc
        rw [h k (by omega) (by omega) hc.2] at hc
        cases hc.1
      · exact vAt_none k (by omega) (fun j h1 h2 => h j h1 (by omega))
theorem vAt_congr : ∀ k, (∀ j, j < k → q ∈ W j → b j = b' j) → vAt Ss W b q k = vAt Ss W b' q k
  | 0, _ => rfl
  | k + 1, h => by
    simp only [vAt]
    rw [vAt_congr k (fun j hj => h j (by omega))]
    by_cases hq : q ∈ W k
    · rw [h k (by omega) hq]
    · simp [hq]
end

/-- The order does not count. -/
theorem any_ok {cal : FuncId → Option Cal} (hcal : ∀ f c, cal f = some c → SoundCal P C.G f c) {ops : Array Oper} {Q : Exit → Act → World → Prop} {Ss : Nat → St} {lgs : List (List Nat × List Nat)}
    (hlen : lgs.length = ops.size) (hord : ordered ops.toList lgs = true)
    (hp : ∀ (k : Nat) (o : Oper), ops[k]? = some o → ∃ R W, lgs[k]? = some (R, W) ∧ Loc n (gop P C.G cal ops.toList o) (Ss k) (Ss (k + 1)) R W)
    {df : List Deferred} (hQ : ∀ a' w' θ', Rel C (Ss ops.size) θ' a' w' → a'.defers = df → Q .normal a' w') :
    ∀ (fuel : Nat) (l : List Nat) (listed : Array Bool) (T : St) (θ : Nat → Option Value) (a : Act) (w : World), l.Nodup → l.length = fuel → listed.size = ops.size → (∀ j, j ∈ l ↔ j < ops.size ∧ listed.getD j true = false) →
      (∀ (j : Nat) (o : Oper), ops[j]? = some o → listed.getD j false = true → ∀ e ∈ o.after, Region.binds .any e = true → listed.getD e.on false = true) →
      T.tm.length = (Ss 0).tm.length → (∀ q, T.val q = vAt Ss (fun k => (lgs.getD k ([], [])).2) (fun j => listed.getD j false) q ops.size) →
      Rel C T θ a w → a.defers = df → wpAny P .any ops Q fuel listed a w := by
  unfold ordered at hord
  rw [Bool.and_eq_true] at hord
  obtain ⟨hback, hord⟩ := hord
  have hR : ∀ (k : Nat) (o : Oper), ops[k]? = some o → Loc n (gop P C.G cal ops.toList o) (Ss k) (Ss (k + 1)) (lgs.getD k ([], [])).1 (lgs.getD k ([], [])).2 := by
    intro k o hk
    obtain ⟨R, W, h1, h2⟩ := hp k o hk
    simpa [List.getD_eq_getElem?_getD, h1] using h2
  have hLen : ∀ k, k ≤ ops.size → (Ss k).tm.length = (Ss 0).tm.length := by
    intro k
    induction k with
    | zero => intro _; rfl
    | succ k ih =>
      intro hk
      rw [(hR k _ (Array.getElem?_eq_getElem (by omega))).1]
      exact ih (by omega)
  have hFr : ∀ k, k < ops.size → ∀ q, q ∉ (lgs.getD k ([], [])).2 → (Ss (k + 1)).val q = (Ss k).val q := fun k hk q hq => (hR k _ (Array.getElem?_eq_getElem hk)).2.1 q hq
  have getDtf : ∀ (listed : Array Bool) (j : Nat), j < listed.size → listed.getD j true = listed.getD j false := fun listed j hj => by simp [hj]
  -- what clashes is ordered
  have hcl : ∀ (listed : Array Bool), (∀ (j : Nat) (o : Oper), ops[j]? = some o → listed.getD j false = true → ∀ e ∈ o.after, Region.binds .any e = true → listed.getD e.on false = true) →
      ∀ i j, i < j → j < ops.size → clash (lgs.getD i ([], [])) (lgs.getD j ([], [])) = true → (listed.getD j false = true ∨ ∃ o, ops[j]? = some o ∧ ∀ e ∈ o.after, Region.binds .any e = true → listed.getD e.on false = true) → listed.getD i false = true := by
    intro listed hclosed i j hij hj hc hor
    have hi : i < lgs.length := by omega
    have hjl : j < lgs.length := by omega
    have hx := orderedFrom_spec lgs 0 hord j _ (List.getElem?_eq_getElem hjl) i _ (List.getElem?_eq_getElem hi) (by omega) (by simpa [List.getD_eq_getElem?_getD, hi, hjl] using hc)
    rw [Nat.zero_add] at hx
    -- closure: of the listed ones and of j itself, so far as what lies ahead of j goes
    have hb : (fun k => listed.getD k false = true ∨ k = j) i := by
      refine masks_spec (b := fun k => listed.getD k false = true ∨ k = j) ops.toList [] (fun k o hk hb e he hbd => ?_) (fun k i _ hi => by simp at hi) j i (.inr rfl) hx
      rw [Array.getElem?_toList] at hk
      simp only [List.length_nil, Nat.zero_add] at hb
      rcases hb with hb | rfl
      · exact .inl (hclosed k o hk hb e he hbd)
      · rcases hor with h1 | ⟨o', h1, h2⟩
        · exact .inl (hclosed k o hk h1 e he hbd)
        · rw [hk] at h1
          cases h1
          exact .inl (h2 e he hbd)
    rcases hb with hb | hb
    · exact hb
    · omega
  intro fuel
  induction fuel with
  | zero =>
    intro l listed T θ a w hnd hll hsz hl hclosed hTl hTv hrel hd
    have hl0 : l = [] := List.length_eq_zero_iff.1 hll
    subst hl0
    have hall : ∀ j, j < ops.size → listed.getD j false = true := fun j hj => by
      have := mt (hl j).2 (by simp)
      simp only [hj, true_and, Bool.not_eq_false] at this
      rw [getDtf listed j (by omega)] at this
      exact this
    refine ⟨?_, hQ a w θ (hrel.congr ?_ ?_) hd⟩
    · rw [List.eq_nil_iff_forall_not_mem]
      intro j hj
      obtain ⟨h1, o, ho, _⟩ := mem_ready.1 hj
      have hjlt := (Array.getElem?_eq_some_iff.1 ho).1
      have := (hl j).2 ⟨hjlt, h1⟩
      simp at this
    · rw [hLen _ (Nat.le_refl _), hTl]
    · intro q
      rw [hTv q]
      exact (vAt_all hFr _ (Nat.le_refl _) (fun j hj _ => hall j hj)).symm
  | succ fuel ih =>
    intro l listed T θ a w hnd hll hsz hl hclosed hTl hTv hrel hd
    refine ⟨fun hnil => ?_, fun i hi => ?_⟩
    · -- the first that is not listed is ready
      exfalso
      have hex : ∃ j, j < ops.size ∧ listed.getD j false = false := by
        cases l with
        | nil => simp at hll
        | cons j l =>
          obtain ⟨h1, h2⟩ := (hl j).1 (by simp)
          exact ⟨j, h1, by rw [getDtf listed j (by omega)] at h2; exact h2⟩
      obtain ⟨j₀, hj₀⟩ := hex
      obtain ⟨j, ⟨h1, h2⟩, h3⟩ := least (p := fun j => j < ops.size ∧ listed.getD j false = false) j₀ hj₀
      have : j ∈ Region.ready .any ops listed := by
        refine mem_ready.2 ⟨by rw [getDtf listed j (by omega)]; exact h2, _, Array.getElem?_eq_getElem h1, fun e he hbd => ?_⟩
        have hlt := backB_spec ops.toList 0 hback j _ (by rw [Array.getElem?_toList]; exact Array.getElem?_eq_getElem h1) e he hbd
        rw [Nat.zero_add] at hlt
        cases hon : listed.getD e.on false with
        | true => rfl
        | false => exact (h3 e.on hlt ⟨by omega, hon⟩).elim
      rw [hnil] at this
      cases this
    · obtain ⟨h1, o, ho, haf⟩ := mem_ready.1 hi
      have hilt := (Array.getElem?_eq_some_iff.1 ho).1
      have hil : i ∈ l := (hl i).2 ⟨hilt, h1⟩
      have hif : listed.getD i false = false := by rw [getDtf listed i (by omega)] at h1; exact h1
      have hloc := hR i o ho
      -- what clashes with i, ahead or behind
      have hahead : ∀ j, j < i → clash (lgs.getD j ([], [])) (lgs.getD i ([], [])) = true → listed.getD j false = true := fun j hj hc => hcl listed hclosed j i hj hilt hc (.inr ⟨o, ho, haf⟩)
      have hbehind : ∀ j, i < j → j < ops.size → clash (lgs.getD i ([], [])) (lgs.getD j ([], [])) = true → listed.getD j false = false := fun j hj hjs hc => by
        cases hb : listed.getD j false with
        | false => rfl
        | true => rw [hcl listed hclosed i j hj hjs hc (.inl hb)] at hif; cases hif
      have meet : ∀ (xs ys : List Nat) (q : Nat), q ∈ xs → q ∈ ys → meets xs ys = true := fun xs ys q h1 h2 => by
        cases hm : meets xs ys with
        | true => rfl
        | false => exact (meets_false hm h1 h2).elim
      have hagree : ∀ q ∈ (lgs.getD i ([], [])).1, T.val q = (Ss i).val q := fun q hq => by
        rw [hTv q, vAt_none (i := i) _ (by omega) (fun j hj hjs hw => ?_)]
        · refine vAt_all hFr i (by omega) (fun j hj hw => hahead j hj ?_)
          unfold clash
          rw [meet _ _ q hw hq]
          rfl
        · rcases Nat.lt_or_ge i j with h2 | h2
          · refine hbehind j h2 hjs ?_
            unfold clash
            rw [meet _ _ q hw hq]
            cases meets (lgs.getD i ([], [])).2 (lgs.getD j ([], [])).1 <;> cases meets (lgs.getD i ([], [])).2 (lgs.getD j ([], [])).2 <;> rfl
          · rw [show j = i by omega]; exact hif
      obtain ⟨T', k1, k2, k3, k4⟩ := hloc.2.2 T (by rw [hTl, hLen i (by omega)]) hagree
      refine gop_wpOp hcal ho hrel k1 _ Q (fun a' w' θ' hrel' hd' => ?_)
      have hset : ∀ j, j < ops.size → (listed.setIfInBounds i true).getD j false = if j = i then true else listed.getD j false := fun j hj => by
        by_cases e : j = i
        · subst e; simp [hsz, hj]
        · rw [getD_set_ne false (fun h => e h.symm), if_neg e]
      have hset' : ∀ j, (listed.setIfInBounds i true).getD j false = true ↔ j = i ∨ listed.getD j false = true := fun j => by
        by_cases e : j = i
        · subst e; simp [hsz, hilt]
        · rw [getD_set_ne false (fun h => e h.symm)]; simp [e]
      refine ih (l.erase i) (listed.setIfInBounds i true) T' θ' a' w' (hnd.erase i) ?_ (by simp [hsz]) (fun j => ?_) (fun j o' hj hb e he hbd => ?_) (by rw [k2, hTl]) (fun q => ?_) hrel' (hd'.trans hd)
      · rw [List.length_erase_of_mem hil, hll]; rfl
      · rw [hnd.mem_erase_iff, hl j]
        constructor
        · rintro ⟨h2, h3, h4⟩
          exact ⟨h3, by rw [getD_set_ne true (fun h => h2 h.symm)]; exact h4⟩
        · rintro ⟨h3, h4⟩
          have h2 : j ≠ i := fun e => by subst e; simp [hsz, hilt] at h4
          rw [getD_set_ne true (fun h => h2 h.symm)] at h4
          exact ⟨h2, h3, h4⟩
      · rw [hset'] at hb ⊢
        rcases hb with rfl | hb
        · rw [ho] at hj
          cases hj
          exact .inr (haf e he hbd)
        · exact .inr (hclosed j o' hj hb e he hbd)
      · by_cases hq : q ∈ (lgs.getD i ([], [])).2
        · rw [k3 q hq]
          rw [vAt_none (i := i + 1) _ (by omega) (fun j hj hjs hw => ?_)]
          · simp only [vAt]
            rw [if_pos ⟨(hset' i).2 (.inl rfl), hq⟩]
          · rw [hset j hjs, if_neg (by omega)]
            refine hbehind j (by omega) hjs ?_
            unfold clash
            rw [meet (lgs.getD i ([], [])).2 (lgs.getD j ([], [])).2 q hq hw]
            cases meets (lgs.getD i ([], [])).2 (lgs.getD j ([], [])).1 <;> rfl
        · rw [k4 q hq, hTv q]
          refine vAt_congr _ (fun j hj hw => ?_)
          rw [hset j hj]
          split
          · rename_i e
            subst e
            exact (hq hw).elim
          · rfl

theorem seq_ok {cal : FuncId → Option Cal} (hcal : ∀ f c, cal f = some c → SoundCal P C.G f c) {ops : Array Oper} {Q : Exit → Act → World → Prop} {Ss : Nat → St}
    (hp : ∀ (k : Nat) (o : Oper), ops[k]? = some o → ∃ R W, Loc n (gop P C.G cal ops.toList o) (Ss k) (Ss (k + 1)) R W)
    {df : List Deferred} (hQ : ∀ a' w' θ', Rel C (Ss ops.size) θ' a' w' → a'.defers = df → Q .normal a' w') :
    ∀ (m k : Nat) (θ : Nat → Option Value) (a : Act) (w : World), k + m = ops.size → Rel C (Ss k) θ a w → a.defers = df → wpOps P ops Q (List.range' k m) a w
  | 0, k, θ, a, w, hk, hrel, hd => by
    rw [show k = ops.size by omega] at hrel
    exact hQ a w θ hrel hd
  | m + 1, k, θ, a, w, hk, hrel, hd => by
    rw [List.range'_succ, wpOps_cons]
    have hi := Array.getElem?_eq_getElem (show k < ops.size by omega)
    obtain ⟨R, W, hloc⟩ := hp k _ hi
    obtain ⟨T', h1, h2, h3⟩ := hloc.self
    refine gop_wpOp hcal hi hrel h1 _ Q (fun a' w' θ' hrel' hd' => ?_)
    exact seq_ok hcal hp hQ m (k + 1) θ' a' w' (by omega) (hrel'.congr h2.symm (fun q => (h3 q).symm)) (hd'.trans hd)

/-- A region. -/
theorem runReg_ok {cal : FuncId → Option Cal} (hcal : ∀ f c, cal f = some c → SoundCal P C.G f c) (hm : P.follows .mixedOrders = true) {id : Nat} {ops : Array Oper} {draw : Bool} {R : Type} {K : St → Option R} {x : R} (h : Rel C S θ a w)
    (hh : runReg n P C.G cal ops.toList draw S K = some x) : ∃ S', K S' = some x ∧ ∀ Q : Exit → Act → World → Prop, (∀ a' w' θ', Rel C S' θ' a' w' → a'.defers = a.defers → Q .normal a' w') → (Code.region id ops draw).wp P Q a w := by
  obtain ⟨Ss, lgs, hk, hlen, h0, hp⟩ := runOps_spec _ _ _ _ _ _ hh
  rw [Array.length_toList] at hk hlen
  simp only [List.append_nil] at hk
  cases draw with
  | false =>
    refine ⟨_, hk, fun Q hQ => wp_region ?_⟩
    rw [List.range_eq_range']
    refine seq_ok (n := n) hcal (fun k o hko => ?_) hQ _ 0 θ a w (by omega) (h0 ▸ h) rfl
    obtain ⟨R, W, _, hl⟩ := hp k o (by rw [Array.getElem?_toList]; exact hko)
    exact ⟨R, W, hl⟩
  | true =>
    simp only [List.reverse_reverse] at hk
    split at hk
    · rename_i hord
      refine ⟨_, hk, fun Q hQ => wp_region_any hm ?_⟩
      refine any_ok hcal hlen hord (fun k o hko => hp k o (by rw [Array.getElem?_toList]; exact hko)) hQ _ (List.range ops.size) _ S θ a _ List.nodup_range (by simp) (by simp) (fun j => ?_) (fun j o _ hj => ?_) (by rw [h0]) (fun q => ?_) (h.world rfl rfl rfl rfl) rfl
      · rw [List.mem_range]
        constructor
        · intro hj; exact ⟨hj, by simp [hj]⟩
        · exact fun hj => hj.1
      · rw [show (Array.replicate ops.size false).getD j false = false by by_cases hj' : j < ops.size <;> simp [hj']] at hj
        cases hj
      · rw [vAt_none (i := 0) _ (by omega) (fun j _ hj _ => by simp [hj])]
        simp only [vAt, h0]
    · cases hk
end
end Go.Am
