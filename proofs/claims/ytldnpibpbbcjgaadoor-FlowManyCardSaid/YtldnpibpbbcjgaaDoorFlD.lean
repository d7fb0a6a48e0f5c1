/-
  A port for a new flow.
  A port for a new flow: the search.
  What comes in.
  Time goes on.
  Time goes on: the rounds.
  An entry more.
-/
import Derived.Test.YtldnpibpbbcjgaaDoorFlC
section
set_option linter.unusedVariables false
set_option linter.unusedSimpArgs false
namespace Go.Proofs.YtldnpibpbbcjgaaDoor.Am
open Go Go.Am Go.Proofs

theorem W_id {x : Int} (h : -9223372036854775808 ≤ x) (h' : x < 9223372036854775808) : IntKind.wrap .i64 x = x := by
  show (if (true && decide (x % 18446744073709551616 ≥ 9223372036854775808)) = true then x % 18446744073709551616 - 18446744073709551616 else x % 18446744073709551616) = x
  by_cases hc : x % 18446744073709551616 ≥ 9223372036854775808
  · rw [if_pos (by simpa using hc)]
    omega
  · rw [if_neg (by simpa using hc)]
    omega


theorem keq_int (a b : Int) : keq (.int .i64 a) (.int .i64 b) = (a == b) := by
  show (IntKind.i64 == IntKind.i64 && a == b) = _
  simp
def iAv (e : Int × Int) : AV := .agg [.int .i64 e.1, .int .i64 e.2, .agg []]
theorem mhas_i (q : Int) : ∀ l : List (Int × Int), mhas (.int .i64 q) (l.map iAv) = l.any (fun e => q == e.2)
  | [] => rfl
  | e :: r => by
    have ih := mhas_i q r
    show (match (match keq (.int .i64 q) (.int .i64 e.2) with | true => some (iAv e) | false => mfind (.int .i64 q) (r.map iAv)) with | some _ => true | none => false) = _
    rw [keq_int, List.any_cons]
    cases q == e.2 with
    | true => rfl
    | false => exact ih
theorem mupd_i (q : Int) : ∀ l : List (Int × Int), mupd (.int .i64 q) (.agg []) (l.map iAv) = l.map iAv
  | [] => rfl
  | e :: r => by
    have ih := mupd_i q r
    show (match keq (.int .i64 q) (.int .i64 e.2) with | true => AV.agg [.int .i64 e.1, .int .i64 q, .agg []] :: r.map iAv | false => iAv e :: mupd (.int .i64 q) (.agg []) (r.map iAv)) = _
    rw [keq_int]
    cases h : q == e.2 with
    | true =>
      have : q = e.2 := by simpa using h
      subst this
      rfl
    | false =>
      rw [ih]
      rfl
def iput (q : Int) (l : List (Int × Int)) (c : Int) : List (Int × Int) := if l.any (fun e => q == e.2) then l else l ++ [(c, q)]
theorem mput_i (q : Int) (l : List (Int × Int)) (c : Int) : mput (.int .i64 q) (.agg []) (l.map iAv) c = (iput q l c).map iAv := by
  show (match mhas (.int .i64 q) (l.map iAv) with | true => mupd (.int .i64 q) (.agg []) (l.map iAv) | false => l.map iAv ++ [AV.agg [.int .i64 c, .int .i64 q, .agg []]]) = _
  rw [mhas_i, mupd_i]
  unfold iput
  cases h : l.any (fun e => q == e.2) with
  | true => simp
  | false => simp [iAv]
theorem iput_any (q q' : Int) (l : List (Int × Int)) (c : Int) : (iput q l c).any (fun e => q' == e.2) = (q' == q || l.any (fun e => q' == e.2)) := by
  unfold iput
  split
  · rename_i h
    cases hq : q' == q with
    | false => rfl
    | true =>
      have : q' = q := by simpa using hq
      subst this
      rw [h]
      rfl
  · rw [List.any_append]
    simp [Bool.or_comm]

/-- The first free port from q on. -/
def srch (s : Tb) (p : Int) : Nat → Int → Int × Bool
  | 0, _ => (0, false)
  | n + 1, q => if q ≤ s.c.hi then (if freeB s p q then (q, true) else srch s p n (q + 1)) else (0, false)
def portOf (s : Tb) (x : Tup) : Int × Bool :=
  if x.s.v = 6 ∨ (x.sp ≥ s.c.lo ∧ x.sp ≤ s.c.hi ∧ freeB s x.p x.sp = true) then (x.sp, true) else srch s x.p 65537 s.c.lo

/-- The search, in the map's own words. -/
theorem srch_ok (s : Tb) (p : Int) (l : List (Int × Int)) (hl : ∀ q, l.any (fun e => q == e.2) = !(freeB s p q)) (hhi : s.c.hi ≤ 65535) {R : Type} (g : List AV → (List AV → Option R) → Option R) (enc : Int → List AV) (f : Int → Bool → R)
    (hg : ∀ q k, g (enc q) k = if q ≤ s.c.hi then (if l.any (fun e => q == e.2) then k (enc (IntKind.wrap .i64 (q + 1))) else some (f q true)) else some (f 0 false)) :
    ∀ (n m : Nat) (q : Int), 0 ≤ q → (s.c.hi + 1 - q).toNat < n → (s.c.hi + 1 - q).toNat < m → iter g n (enc q) = some (f (srch s p m q).1 (srch s p m q).2) := by
  intro n
  induction n with
  | zero => intro m q _ h; omega
  | succ n ih =>
    intro m q h0 h hm
    cases m with
    | zero => omega
    | succ m =>
      show g (enc q) (iter g n) = _
      rw [hg, hl]
      unfold srch
      by_cases hq : q ≤ s.c.hi
      · rw [if_pos hq, if_pos hq]
        cases hf : freeB s p q with
        | true => rfl
        | false =>
          simp only [Bool.not_false, if_true]
          have hw : IntKind.wrap .i64 (q + 1) = q + 1 := W_id (by omega) (by omega)
          rw [hw]
          exact ih m (q + 1) (by omega) (by omega) (by omega)
      · rw [if_neg hq, if_neg hq]

def encT (p : Tup × Tb) : List AV := .pt 2 (some 0) :: p.1.av :: p.2.ms
def decT (l : List AV) : Tup × Tb := (Tup.of (getE l 1), Tb.of (l.drop 2))
theorem decT_enc (p : Tup × Tb) : decT (encT p) = p := by
  obtain ⟨x, s⟩ := p
  show (Tup.of x.av, Tb.of s.ms) = _
  rw [Tb.of_ms]; rfl
/-- What the search wants. -/
structure PortOk (n : Nat) (s : Tb) : Prop where
  inv : Inv s
  len : s.es.length < n
  big : 65537 < n
  lo : 1 ≤ s.c.lo
  hi : s.c.hi ≤ 65535
open Classical in
noncomputable def outT (n : Nat) (p : Tup × Tb) : Option (List AV) := if PortOk n p.2 then some (.int .i64 (portOf p.2 p.1).1 :: .bool (portOf p.2 p.1).2 :: p.2.ms) else none
noncomputable def G29 : Fun := spec encT decT outT
theorem g29 (n : Nat) (x : Tup) (s : Tb) (h : PortOk n s) : G29 n (.pt 2 (some 0) :: x.av :: s.ms) = some (.int .i64 (portOf s x).1 :: .bool (portOf s x).2 :: s.ms) :=
  (spec_at (enc := encT) (x, s) (decT_enc _)).trans (if_pos h)

/-- As it came in, or on to the search. -/
theorem port_first (n : Nat) (x : Tup) (s : Tb) (h : PortOk n s) (K : List AV → Option (List AV))
    (hK : K [.tup s.m1, .tup s.m2, .tup s.m3, .tup s.m4, .tup [], .pt 2 (some 0), x.av] = some (.int .i64 (srch s x.p 65537 s.c.lo).1 :: .bool (srch s x.p 65537 s.c.lo).2 :: s.ms)) :
  jn
   (jn
    (brO ((AV.toInt (AV.item (AV.item x.av 1) 0)) == 6)
     (inl (some [(.tup s.m1), (.tup s.m2), (.tup s.m3), (.tup s.m4), (.tup []), (.pt 2 (some 0)), (eta s34 x.av), (.bool true)]))
     (brO (Option.isSome (some 0))
      (let v9 : AV := (AV.item (getE s.m2 (Option.getD (some 0) 0)) 0)
      let v10 : Int := (AV.toInt (AV.item v9 2))
      brO (decide ((AV.toInt (AV.item x.av 3)) ≥ v10))
       (brO (Option.isSome (some 0))
        (let v11 : Int := (AV.toInt (AV.item v9 3))
        brO (decide ((AV.toInt (AV.item x.av 3)) ≤ v11))
         (((G43 n [(.pt 2 (some 0)), (.int .i64 (AV.toInt (AV.item x.av 0))), (.int .i64 (AV.toInt (AV.item x.av 3))), (.tup s.m1), (.tup s.m2), (.tup s.m3), (.tup s.m4)])).bind fun r0 =>
         brO (Nat.beq (List.length r0) 5)
          (inl (some [(.tup (AV.toElems (getE r0 1))), (.tup (AV.toElems (getE r0 2))), (.tup (AV.toElems (getE r0 3))), (.tup (AV.toElems (getE r0 4))), (.tup []), (.pt 2 (some 0)), (eta s34 x.av), (.bool (AV.toBool (getE r0 0)))]))
          (none))
         (inl (some [(.tup s.m1), (.tup s.m2), (.tup s.m3), (.tup s.m4), (.tup []), (.pt 2 (some 0)), (eta s34 x.av), (.bool false)])))
        (none))
       (inl (some [(.tup s.m1), (.tup s.m2), (.tup s.m3), (.tup s.m4), (.tup []), (.pt 2 (some 0)), (eta s34 x.av), (.bool false)])))
      (none))) fun d1 =>
   brO (AV.toBool (getE d1 7))
    (inr (some [(.int .i64 (AV.toInt (AV.item (getE d1 6) 3))), (.bool true), (.tup (AV.toElems (getE d1 0))), (.tup (AV.toElems (getE d1 1))), (.tup (AV.toElems (getE d1 2))), (.tup (AV.toElems (getE d1 3)))]))
    (inl (some [(.tup (AV.toElems (getE d1 0))), (.tup (AV.toElems (getE d1 1))), (.tup (AV.toElems (getE d1 2))), (.tup (AV.toElems (getE d1 3))), (.tup (AV.toElems (getE d1 4))), (.pt 2 (AV.toPt (getE d1 5))), (eta s34 (getE d1 6))])))  K = some (.int .i64 (portOf s x).1 :: .bool (portOf s x).2 :: s.ms) := by
  have no : ¬ (x.s.v = 6 ∨ (x.sp ≥ s.c.lo ∧ x.sp ≤ s.c.hi ∧ freeB s x.p x.sp = true)) → K [.tup s.m1, .tup s.m2, .tup s.m3, .tup s.m4, .tup [], .pt 2 (some 0), x.av] = some (.int .i64 (portOf s x).1 :: .bool (portOf s x).2 :: s.ms) := by
    intro hn
    unfold portOf
    rw [if_neg hn]
    exact hK
  have yes : (x.s.v = 6 ∨ (x.sp ≥ s.c.lo ∧ x.sp ≤ s.c.hi ∧ freeB s x.p x.sp = true)) → portOf s x = (x.sp, true) := by
    intro hn
    unfold portOf
    rw [if_pos hn]
  by_cases h6 : x.s.v = 6
  · rw [yes (.inl h6)]
    rw [brO_t (b := AV.toInt (AV.item (AV.item x.av 1) 0) == 6) (by show (x.s.v == 6) = true; simp [h6])]
    rfl
  · rw [brO_f (b := AV.toInt (AV.item (AV.item x.av 1) 0) == 6) (by show (x.s.v == 6) = false; simpa using h6)]
    rw [brO_t (b := Option.isSome (some 0)) rfl]
    by_cases hlo : x.sp ≥ s.c.lo
    · refine (show ∀ (X Y Z : Option (Sum (List AV) (Sum (List AV) (List AV)))) (k1 : List AV → Option (Sum (List AV) (List AV))) (k2 : List AV → Option (List AV)) (b : Bool) (r : Option (List AV)), b = true → jn (jn X k1) k2 = r → jn (jn (brO b X Y) k1) k2 = r from fun X Y Z k1 k2 b r hb hr => by rw [hb]; exact hr) _ _ none _ _ _ _ (decide_eq_true hlo) ?_
      rw [brO_t (b := Option.isSome (some 0)) rfl]
      by_cases hhi : x.sp ≤ s.c.hi
      · refine (show ∀ (X Y Z : Option (Sum (List AV) (Sum (List AV) (List AV)))) (k1 : List AV → Option (Sum (List AV) (List AV))) (k2 : List AV → Option (List AV)) (b : Bool) (r : Option (List AV)), b = true → jn (jn X k1) k2 = r → jn (jn (brO b X Y) k1) k2 = r from fun X Y Z k1 k2 b r hb hr => by rw [hb]; exact hr) _ _ none _ _ _ _ (decide_eq_true hhi) ?_
        rw [show G43 n [.pt 2 (some 0), .int .i64 (AV.toInt (AV.item x.av 0)), .int .i64 (AV.toInt (AV.item x.av 3)), .tup s.m1, .tup s.m2, .tup s.m3, .tup s.m4] = some (.bool (freeB s x.p x.sp) :: s.ms) from g43 n x.p x.sp s h.inv h.len]
        cases hf : freeB s x.p x.sp with
        | true => rw [yes (.inr ⟨hlo, hhi, hf⟩)]; rfl
        | false => exact no (by rw [hf]; simp [h6])
      · refine (show ∀ (X Y Z : Option (Sum (List AV) (Sum (List AV) (List AV)))) (k1 : List AV → Option (Sum (List AV) (List AV))) (k2 : List AV → Option (List AV)) (b : Bool) (r : Option (List AV)), b = false → jn (jn Y k1) k2 = r → jn (jn (brO b X Y) k1) k2 = r from fun X Y Z k1 k2 b r hb hr => by rw [hb]; exact hr) _ _ none _ _ _ _ (decide_eq_false hhi) ?_
        exact no (by simp [h6, hhi])
    · refine (show ∀ (X Y Z : Option (Sum (List AV) (Sum (List AV) (List AV)))) (k1 : List AV → Option (Sum (List AV) (List AV))) (k2 : List AV → Option (List AV)) (b : Bool) (r : Option (List AV)), b = false → jn (jn Y k1) k2 = r → jn (jn (brO b X Y) k1) k2 = r from fun X Y Z k1 k2 b r hb hr => by rw [hb]; exact hr) _ _ none _ _ _ _ (decide_eq_false hlo) ?_
      exact no (by simp [h6]; intro h1; omega)
end Go.Proofs.YtldnpibpbbcjgaaDoor.Am
end

section
set_option linter.unusedVariables false
set_option linter.unusedSimpArgs false
namespace Go.Proofs.YtldnpibpbbcjgaaDoor.Am
open Go Go.Am Go.Proofs

theorem s29 : SoundCal Tryd.prog env 29 (mkCal D29 G29) := spec_ok (snd29 G43 s43) (fun n p r h => by
  obtain ⟨x, s⟩ := p
  have h : outT n (x, s) = some r := h
  unfold outT at h
  split at h
  case isFalse => cases h
  rename_i ho
  replace ho : PortOk n s := ho
  have hi := ho.inv
  cases h
  refine (eq29 G43 n (some 0) x.av s.m1 s.m2 s.m3 s.m4).trans ?_
  refine port_first n x s ho _ ?_
  let R : List AV := .int .i64 (srch s x.p 65537 s.c.lo).1 :: .bool (srch s x.p 65537 s.c.lo).2 :: s.ms
  let st (y : List Int × List (Int × Int) × Int) : List AV := [.tup s.m1, .tup s.m2, .tup s.m3, .tup s.m4, .tup [.mc (y.2.1.map iAv) y.2.2], .pt 2 (some 0), x.av, .mp 5 (some 0), .tup [.int .i64 0, .int .i64 s.ck, .fs .i64 y.1, .int .i64 s.ck]]
  let good (y : List Int × List (Int × Int) × Int) : Prop := ∀ q, y.2.1.any (fun e => q == e.2) = s.es.any fun e => decide (e.1 ∈ y.1) && uses s x.p q e
  have h0 : left [] s.es = s.es := by unfold left; simp
  refine iter_any st (fun y => (left y.1 s.es).length) (fun _ => R) good (fun y k hgood hk => ?_) n ([], [], 0) (by show (left [] s.es).length < n; rw [h0]; exact ho.len) (fun q => by simp)
  obtain ⟨seen, l, c⟩ := y
  dsimp only [st, ge0, ge1, ge2, ge3, ge4, ge5, ge6, ge7, ge8, tI, tB, tT, tV, tF, tM, tC, tP, tQ, Tb.m3, Int.toNat_zero]
  refine (brO_t ((Bool.and_eq_true _ _).mpr ⟨all_e hi.lt, decide_eq_true (Int.le_refl _)⟩)).trans ?_
  rw [mleft_e]
  cases hl : left seen s.es with
  | nil =>
    -- the search
    rw [brO_t (by rfl), brO_t (by rfl)]
    have hall : ∀ q, l.any (fun e => q == e.2) = !(freeB s x.p q) := by
      intro q
      rw [hgood q]
      unfold freeB
      rw [Bool.not_not, Bool.eq_iff_iff, List.any_eq_true, List.any_eq_true]
      constructor
      · rintro ⟨e, he, hu⟩
        rw [Bool.and_eq_true] at hu
        exact ⟨e, he, hu.2⟩
      · rintro ⟨e, he, hu⟩
        refine ⟨e, he, ?_⟩
        rw [Bool.and_eq_true]
        refine ⟨decide_eq_true ?_, hu⟩
        refine Classical.byContradiction (fun hn => ?_)
        have : e ∈ left seen s.es := left_mem.2 ⟨he, hn⟩
        rw [hl] at this
        cases this
    refine srch_ok s x.p l hall ho.hi _ (fun q => [.tup s.m1, .tup s.m2, .tup s.m3, .tup s.m4, .tup [.mc (l.map iAv) c], .pt 2 (some 0), .mp 5 (some 0), .int .i64 q]) (fun q b => .int .i64 q :: .bool b :: s.ms) (fun q k => ?_) n 65537 s.c.lo (by have := ho.lo; omega) (by have := ho.lo; have := ho.hi; have := ho.big; omega) (by have := ho.lo; have := ho.hi; omega)
    dsimp only [ge0, ge1, ge2, ge3, ge4, ge5, ge6, ge7, ge8, tI, tB, tT, tV, tF, tM, tC, tP, tQ]
    rw [brO_t (by rfl)]
    show brO (decide (q ≤ s.c.hi)) (brO (!(mhas (.int .i64 q) (l.map iAv))) _ _) _ = _
    rw [mhas_i]
    by_cases hq : q ≤ s.c.hi
    · rw [if_pos hq, brO_t (decide_eq_true hq)]
      cases l.any (fun e => q == e.2) <;> rfl
    · rw [if_neg hq, brO_f (decide_eq_false hq)]
      rfl
  | cons e0 l0 =>
    rw [brO_f (by rfl)]
    refine allO_some.2 ⟨by simp, fun i hlt => ?_⟩
    rw [← hl] at hlt ⊢
    rw [List.length_map] at hlt
    obtain ⟨e, he⟩ : ∃ e, (left seen s.es)[i]? = some e := ⟨_, List.getElem?_eq_getElem hlt⟩
    have hmem := List.mem_of_getElem? he
    have hes := (left_mem.1 hmem).1
    obtain ⟨f, hf, hft⟩ := hi.ptr e hes
    rw [getE_map he]
    have hlast : (seen ++ [bornOf (eAv e)]).getLastD 0 = e.1 := by simp [born_e]
    rw [hlast, mfindB_e hi.born hes]
    rw [brO_t (by simp)]
    have hg : getE s.m1 e.2.2 = f.av := m1_at hf
    have hu : ∀ q, uses s x.p q e = (f.t.s.v == 4 && (f.t.p == x.p && f.port == q)) := fun q => by unfold uses; rw [hf]
    -- on with the next round
    have hnext : ∀ l' c', (∀ q, l'.any (fun e => q == e.2) = (uses s x.p q e || l.any (fun e => q == e.2))) → k (st (seen ++ [e.1], l', c')) = some R := by
      intro l' c' hl'
      refine hk _ (left_lt hmem) (fun q => ?_)
      show l'.any _ = _
      rw [hl', hgood q, Bool.eq_iff_iff, Bool.or_eq_true, List.any_eq_true, List.any_eq_true]
      constructor
      · rintro (h1 | ⟨z, hz, hzu⟩)
        · exact ⟨e, hes, by rw [h1]; simp⟩
        · rw [Bool.and_eq_true] at hzu
          exact ⟨z, hz, by rw [hzu.2]; simp; exact .inl (of_decide_eq_true hzu.1)⟩
      · rintro ⟨z, hz, hzu⟩
        rw [Bool.and_eq_true] at hzu
        have hm := of_decide_eq_true hzu.1
        rcases List.mem_append.1 hm with hm | hm
        · exact .inr ⟨z, hz, by rw [hzu.2]; simp [hm]⟩
        · have : z = e := same_born hi.born hz hes (by simpa using hm)
          subst this
          exact .inl hzu.2
    show jn (brO (Option.isSome (some e.2.2)) (brO (AV.toInt (AV.item (AV.item (AV.item (getE s.m1 e.2.2) 0) 1) 0) == 4) (brO (Option.isSome (some e.2.2)) (inl (some [_, _, _, _, _, _, _, _, _, _, AV.bool (AV.toInt (AV.item (AV.item (getE s.m1 e.2.2) 0) 0) == x.p)])) _) _) _) _ = _
    rw [hg]
    show jn (brO (f.t.s.v == 4) (inl (some [_, _, _, _, _, _, _, _, _, _, AV.bool (f.t.p == x.p)])) _) _ = _
    cases h4 : (f.t.s.v == 4) with
    | false =>
      exact hnext l c (fun q => by rw [hu, h4]; rfl)
    | true =>
      cases hp : (f.t.p == x.p) with
      | false =>
        exact hnext l c (fun q => by rw [hu, h4, hp]; rfl)
      | true =>
        have := hnext (iput f.port l c) (mputC (.int .i64 f.port) (l.map iAv) c) (fun q => by
          rw [hu, h4, hp, iput_any]
          show (q == f.port || _) = (f.port == q || _)
          rw [Bool.beq_comm])
        refine Eq.trans ?_ this
        show k [.tup s.m1, .tup s.m2, .tup s.m3, .tup s.m4, .tup [.mc (mput (.int .i64 (AV.toInt (AV.item (getE s.m1 e.2.2) 1))) (.agg []) (l.map iAv) c) (mputC (.int .i64 (AV.toInt (AV.item (getE s.m1 e.2.2) 1))) (l.map iAv) c)], _, _, _, _] = _
        rw [hg]
        show k [.tup s.m1, .tup s.m2, .tup s.m3, .tup s.m4, .tup [.mc (mput (.int .i64 f.port) (.agg []) (l.map iAv) c) (mputC (.int .i64 f.port) (l.map iAv) c)], _, _, _, _] = _
        rw [mput_i]
        rfl)
end Go.Proofs.YtldnpibpbbcjgaaDoor.Am
end

section
set_option linter.unusedVariables false
set_option linter.unusedSimpArgs false
namespace Go.Proofs.YtldnpibpbbcjgaaDoor.Am
open Go Go.Am Go.Proofs

theorem mhas_b (k : Tup) : ∀ l : List (Int × Tup × Tup), mhas k.av (l.map bAv) = (fnd k l).isSome
  | [] => rfl
  | e :: r => by
    have ih := mhas_b k r
    show (match (match keq k.av e.2.1.av with | true => some (bAv e) | false => mfind k.av (r.map bAv)) with | some _ => true | none => false) = (if k = e.2.1 then some e.2.2 else fnd k r).isSome
    rw [keq_tup]
    by_cases h : k = e.2.1
    · simp [h]
    · simp only [h, decide_false, if_false]
      exact ih
theorem mget_b (k z : Tup) : ∀ l : List (Int × Tup × Tup), mget k.av z.av (l.map bAv) = ((fnd k l).getD z).av
  | [] => rfl
  | e :: r => by
    have ih := mget_b k z r
    show (match (match keq k.av e.2.1.av with | true => some (bAv e) | false => mfind k.av (r.map bAv)) with | some e => e.item 2 | none => z.av) = ((if k = e.2.1 then some e.2.2 else fnd k r).getD z).av
    rw [keq_tup]
    by_cases h : k = e.2.1
    · simp only [h, decide_true, if_true, Option.getD_some]
      rfl
    · simp only [h, decide_false, if_false]
      exact ih
theorem mhas_e (k : Tup) : ∀ l : List (Int × Tup × Nat), mhas k.av (l.map eAv) = (fnd k l).isSome
  | [] => rfl
  | e :: r => by
    have ih := mhas_e k r
    show (match (match keq k.av e.2.1.av with | true => some (eAv e) | false => mfind k.av (r.map eAv)) with | some _ => true | none => false) = (if k = e.2.1 then some e.2.2 else fnd k r).isSome
    rw [keq_tup]
    by_cases h : k = e.2.1
    · simp [h]
    · simp only [h, decide_false, if_false]
      exact ih
theorem mget_e (k : Tup) : ∀ l : List (Int × Tup × Nat), mget k.av (.pt 1 none) (l.map eAv) = .pt 1 (fnd k l)
  | [] => rfl
  | e :: r => by
    have ih := mget_e k r
    show (match (match keq k.av e.2.1.av with | true => some (eAv e) | false => mfind k.av (r.map eAv)) with | some e => e.item 2 | none => .pt 1 none) = .pt 1 (if k = e.2.1 then some e.2.2 else fnd k r)
    rw [keq_tup]
    by_cases h : k = e.2.1
    · simp only [h, decide_true, if_true]
      rfl
    · simp only [h, decide_false, if_false]
      exact ih

def zIP : IP := ⟨0, [0, 0, 0, 0, 0, 0, 0, 0, 0, 0, 0, 0, 0, 0, 0, 0]⟩
def zT : Tup := ⟨0, zIP, zIP, 0, 0⟩
theorem z34_eq : z34 = zT.av := rfl

def inS (s : Tb) (x : Tup) (fl : Int) : Option (Tup × Int × Tb) :=
  if judge x ≠ 0 then some (zT, judge x, s) else match fnd x s.bs with
    | none => some (zT, 175, s)
    | some own => match fnd own s.es with
      | none => none
      | some j => match goes s j fl true with
        | none => none
        | some (false, s') => some (zT, 173, s')
        | some (true, s') => some (rev own, 0, s')

def encI (p : Tup × Int × Tb) : List AV := .pt 2 (some 0) :: p.1.av :: .int .i64 p.2.1 :: p.2.2.ms
def decI (l : List AV) : Tup × Int × Tb := (Tup.of (getE l 1), (getE l 2).toInt, Tb.of (l.drop 3))
theorem decI_enc (p : Tup × Int × Tb) : decI (encI p) = p := by
  obtain ⟨x, f, s⟩ := p
  show (Tup.of x.av, f, Tb.of s.ms) = _
  rw [Tb.of_ms]; rfl
def outI (r : Option (Tup × Int × Tb)) : Option (List AV) := match r with | some (y, e, s) => some (y.av :: .int .i64 e :: s.ms) | none => none
noncomputable def G12 : Fun := spec encI decI fun _ p => outI (inS p.2.2 p.1 p.2.1)
theorem g12 (n : Nat) (x : Tup) (f : Int) (s : Tb) : G12 n (.pt 2 (some 0) :: x.av :: .int .i64 f :: s.ms) = outI (inS s x f) := spec_at (enc := encI) (x, f, s) (decI_enc _)

theorem s12 : SoundCal Tryd.prog env 12 (mkCal D12 G12) := spec_ok (snd12 G13 G24 G26 s13 s24_ s26_) (fun n p r h => by
  obtain ⟨x, fl, s⟩ := p
  refine (eq12 G13 G24 G26 n (some 0) x.av fl s.m1 s.m2 s.m3 s.m4).trans ?_
  have h : outI (inS s x fl) = some r := h
  unfold inS at h
  rw [show eta s34 x.av = x.av from rfl, g24, Option.bind_some]
  show brO (judge x != 0) _ (brO true (brO (!(mhas x.av (s.bs.map bAv))) _ (brO true (Option.bind (G26 n [.pt 2 (some 0), .pt 1 (AV.toPt (mget (eta s34 (mget x.av z34 (s.bs.map bAv))) (.pt 1 none) (s.es.map eAv))), .int .i64 fl, .bool true, .tup s.m1, .tup s.m2, .tup s.m3, .tup s.m4]) _) _)) _) = _
  by_cases hj : judge x ≠ 0
  · rw [if_pos hj] at h
    rw [brO_t (by simpa using hj)]
    exact h
  · rw [if_neg hj] at h
    rw [brO_f (by simpa using hj), brO_t rfl, mhas_b]
    cases hb : fnd x s.bs with
    | none =>
      rw [hb] at h
      rw [brO_t (b := !(Option.isSome (none : Option Tup))) rfl]
      exact h
    | some own =>
      rw [hb] at h
      dsimp only at h
      rw [brO_f (b := !(Option.isSome (some own))) rfl, brO_t (b := true) rfl]
      have hg : mget x.av z34 (s.bs.map bAv) = own.av := by rw [z34_eq, mget_b, hb]; rfl
      rw [hg, show eta s34 own.av = own.av from rfl, mget_e]
      cases he : fnd own s.es with
      | none => rw [he] at h; cases h
      | some j =>
        rw [he] at h
        dsimp only at h
        rw [show G26 n [.pt 2 (some 0), .pt 1 (AV.toPt (.pt 1 (some j))), .int .i64 fl, .bool true, .tup s.m1, .tup s.m2, .tup s.m3, .tup s.m4] = outG (goes s j fl true) from g26 n j fl true s]
        cases hgo : goes s j fl true with
        | none => rw [hgo] at h; cases h
        | some q =>
          obtain ⟨b, s'⟩ := q
          rw [hgo] at h
          cases b with
          | false => exact h
          | true =>
            show Option.bind (G13 n [eta s34 (mget x.av z34 (s.bs.map bAv))]) _ = _
            rw [hg, show eta s34 own.av = own.av from rfl, g13]
            exact h)
end Go.Proofs.YtldnpibpbbcjgaaDoor.Am
end

section
set_option linter.unusedVariables false
set_option linter.unusedSimpArgs false
namespace Go.Proofs.YtldnpibpbbcjgaaDoor.Am
open Go Go.Am Go.Proofs

def dec (f : Flw) : Flw := { f with left := IntKind.wrap .i64 (f.left - 1) }
/-- The round has come to the flow at j. -/
def hit (s : Tb) (P : Int → Bool) (j : Nat) : Bool := s.es.any fun e => P e.1 && e.2.2 == j
def gone (s : Tb) (e : Int × Tup × Nat) : Bool := match s.F[e.2.2]? with | some f => (dec f).left == 0 | none => false
def outK (s : Tb) (e : Int × Tup × Nat) : Tup := match s.F[e.2.2]? with | some f => rev (out_ s.c f) | none => zT
def aftF (s : Tb) (P : Int → Bool) : List Flw := s.F.mapIdx fun j f => if hit s P j then dec f else f
def aftE (s : Tb) (P : Int → Bool) : List (Int × Tup × Nat) := s.es.filter fun e => !(P e.1 && gone s e)
def aftB (s : Tb) (P : Int → Bool) : List (Int × Tup × Tup) := s.bs.filter fun b => !(s.es.any fun e => P e.1 && (gone s e && decide (outK s e = b.2.1)))
def aft (s : Tb) (P : Int → Bool) : Tb := { s with F := aftF s P, es := aftE s P, bs := aftB s P }
def cnt (s : Tb) (P : Int → Bool) : Nat := (s.es.filter fun e => P e.1 && gone s e).length

structure InvT (s : Tb) : Prop extends Inv s where
  ptrs : (s.es.map fun e => e.2.2).Nodup
  keys : (s.es.map fun e => e.2.1).Nodup
  bkeys : (s.bs.map fun e => e.2.1).Nodup

theorem inj_map {α γ : Type} {f : α → γ} {l : List α} (hn : (l.map f).Nodup) {x y : α} (hx : x ∈ l) (hy : y ∈ l) (h : f x = f y) : x = y := by
  induction l with
  | nil => cases hx
  | cons z r ih =>
    rw [List.map_cons, List.nodup_cons] at hn
    have hz : ∀ w, w ∈ r → f w ≠ f z := fun w hw hh => hn.1 (hh ▸ List.mem_map.2 ⟨w, hw, rfl⟩)
    rcases List.mem_cons.1 hx with hx | hx
    · rcases List.mem_cons.1 hy with hy | hy
      · rw [hx, hy]
      · exact (hz y hy (by rw [← h, hx])).elim
    · rcases List.mem_cons.1 hy with hy | hy
      · exact (hz x hx (by rw [h, hy])).elim
      · exact ih hn.2 hx hy

theorem del_filter {β : Type} {k : Tup} : ∀ {l : List (Int × Tup × β)}, (l.map fun e => e.2.1).Nodup → del k l = l.filter fun e => !(decide (k = e.2.1))
  | [], _ => rfl
  | e :: r, hn => by
    rw [List.map_cons, List.nodup_cons] at hn
    show (if k = e.2.1 then r else e :: del k r) = _
    rw [del_filter hn.2, List.filter_cons]
    by_cases h : k = e.2.1
    · rw [if_pos h]
      simp only [h, decide_true, Bool.not_true]
      symm
      refine List.filter_eq_self.2 (fun x hx => ?_)
      have : e.2.1 ≠ x.2.1 := fun hh => hn.1 (hh ▸ List.mem_map.2 ⟨x, hx, rfl⟩)
      simpa using this
    · rw [if_neg h]
      simp [h]

section
variable {s : Tb} {P : Int → Bool} {e : Int × Tup × Nat}

theorem hit_false (hi : InvT s) (he : e ∈ s.es) (hP : P e.1 = false) : hit s P e.2.2 = false := by
  unfold hit
  rw [List.any_eq_false]
  intro x hx h
  rw [Bool.and_eq_true] at h
  have : x = e := inj_map hi.ptrs hx he (by simpa using h.2)
  rw [this, hP] at h
  cases h.1

theorem aftF_at (hi : InvT s) (he : e ∈ s.es) (hP : P e.1 = false) {f : Flw} (hf : s.F[e.2.2]? = some f) : (aftF s P)[e.2.2]? = some f := by
  unfold aftF
  rw [List.getElem?_mapIdx, hf]
  simp [hit_false hi he hP]

theorem hit_or (hi : InvT s) (he : e ∈ s.es) (j : Nat) : hit s (fun b => P b || b == e.1) j = (hit s P j || e.2.2 == j) := by
  unfold hit
  rw [Bool.eq_iff_iff, Bool.or_eq_true, List.any_eq_true, List.any_eq_true]
  constructor
  · rintro ⟨x, hx, h⟩
    rw [Bool.and_eq_true, Bool.or_eq_true] at h
    rcases h.1 with h1 | h1
    · exact .inl ⟨x, hx, by rw [h1, h.2]; rfl⟩
    · have : x = e := same_born hi.born hx he (by simpa using h1)
      subst this
      exact .inr h.2
  · rintro (⟨x, hx, h⟩ | h)
    · rw [Bool.and_eq_true] at h
      exact ⟨x, hx, by show ((P x.1 || x.1 == e.1) && x.2.2 == j) = true; rw [h.1, h.2]; rfl⟩
    · exact ⟨e, he, by rw [h]; simp⟩

theorem aftF_step (hi : InvT s) (he : e ∈ s.es) (hP : P e.1 = false) {f : Flw} (hf : s.F[e.2.2]? = some f) : (aftF s P).set e.2.2 (dec f) = aftF s (fun b => P b || b == e.1) := by
  refine List.ext_getElem? (fun j => ?_)
  unfold aftF
  rw [List.getElem?_set, List.getElem?_mapIdx, List.getElem?_mapIdx]
  have hh := hit_or (P := P) hi he
  by_cases hj : e.2.2 = j
  · subst hj
    rw [if_pos rfl, hh, hf]
    have : e.2.2 < s.F.length := (List.getElem?_eq_some_iff.1 hf).1
    simp [this]
  · rw [if_neg hj, hh]
    have : (e.2.2 == j) = false := by simpa using hj
    rw [this, Bool.or_false]

theorem aftE_step (hi : InvT s) (he : e ∈ s.es) (hP : P e.1 = false) : aftE s (fun b => P b || b == e.1) = if gone s e = true then del e.2.1 (aftE s P) else aftE s P := by
  have hn : ((aftE s P).map fun e => e.2.1).Nodup := (List.filter_sublist.map _).nodup hi.keys
  cases hg : gone s e with
  | true =>
    rw [if_pos rfl, del_filter hn]
    unfold aftE
    rw [List.filter_filter]
    refine List.filter_congr (fun x hx => ?_)
    by_cases hxe : x = e
    · subst hxe
      simp [hg]
    · have h1 : (x.1 == e.1) = false := by
        simp
        exact fun h => hxe (same_born hi.born hx he h)
      have h2 : ¬ e.2.1 = x.2.1 := fun h => hxe (inj_map hi.keys hx he h.symm)
      simp [h1, h2]
  | false =>
    rw [if_neg (by simp)]
    unfold aftE
    refine List.filter_congr (fun x hx => ?_)
    by_cases hxe : x = e
    · subst hxe
      simp [hg]
    · have h1 : (x.1 == e.1) = false := by
        simp
        exact fun h => hxe (same_born hi.born hx he h)
      simp [h1]

theorem any_or {f : Int × Tup × Nat → Bool} (hi : InvT s) (he : e ∈ s.es) : (s.es.any fun x => (P x.1 || x.1 == e.1) && f x) = ((s.es.any fun x => P x.1 && f x) || f e) := by
  rw [Bool.eq_iff_iff, Bool.or_eq_true, List.any_eq_true, List.any_eq_true]
  constructor
  · rintro ⟨x, hx, h⟩
    rw [Bool.and_eq_true, Bool.or_eq_true] at h
    rcases h.1 with h1 | h1
    · exact .inl ⟨x, hx, by rw [h1, h.2]; rfl⟩
    · have : x = e := same_born hi.born hx he (by simpa using h1)
      subst this
      exact .inr h.2
  · rintro (⟨x, hx, h⟩ | h)
    · rw [Bool.and_eq_true] at h
      exact ⟨x, hx, by rw [h.1, h.2]; rfl⟩
    · exact ⟨e, he, by rw [h]; simp⟩

theorem aftB_step (hi : InvT s) (he : e ∈ s.es) : aftB s (fun b => P b || b == e.1) = if gone s e = true then del (outK s e) (aftB s P) else aftB s P := by
  have hn : ((aftB s P).map fun e => e.2.1).Nodup := (List.filter_sublist.map _).nodup hi.bkeys
  have key : ∀ b : Int × Tup × Tup, (s.es.any fun x => (P x.1 || x.1 == e.1) && (gone s x && decide (outK s x = b.2.1))) = ((s.es.any fun x => P x.1 && (gone s x && decide (outK s x = b.2.1))) || (gone s e && decide (outK s e = b.2.1))) := fun b => any_or hi he
  cases hg : gone s e with
  | true =>
    rw [if_pos rfl, del_filter hn]
    unfold aftB
    rw [List.filter_filter]
    refine List.filter_congr (fun b _ => ?_)
    rw [key, hg, Bool.true_and, Bool.not_or, Bool.and_comm]
  | false =>
    rw [if_neg (by simp)]
    unfold aftB
    refine List.filter_congr (fun b _ => ?_)
    rw [key, hg]
    simp
end
end Go.Proofs.YtldnpibpbbcjgaaDoor.Am
end

section
set_option linter.unusedVariables false
set_option linter.unusedSimpArgs false
namespace Go.Proofs.YtldnpibpbbcjgaaDoor.Am
open Go Go.Am Go.Proofs

def Pn (seen : List Int) : Int → Bool := fun b => decide (b ∈ seen)
theorem Pn_snoc (seen : List Int) (b : Int) : Pn (seen ++ [b]) = fun x => Pn seen x || x == b := by
  funext x
  unfold Pn
  rw [Bool.eq_iff_iff]
  simp

section
variable {s : Tb} {P Q : Int → Bool} {e : Int × Tup × Nat}
theorem any_congr {α : Type} {f g : α → Bool} : ∀ {l : List α}, (∀ x ∈ l, f x = g x) → l.any f = l.any g
  | [], _ => rfl
  | x :: r, h => by rw [List.any_cons, List.any_cons, h x (by simp), any_congr (fun y hy => h y (by simp [hy]))]
theorem aft_congr (h : ∀ e ∈ s.es, P e.1 = Q e.1) : aft s P = aft s Q ∧ cnt s P = cnt s Q := by
  have h1 : ∀ f : Int × Tup × Nat → Bool, (s.es.any fun e => P e.1 && f e) = s.es.any fun e => Q e.1 && f e := fun f => any_congr (fun x hx => by rw [h x hx])
  have hF : aftF s P = aftF s Q := by
    unfold aftF hit
    congr 1
    funext j f
    rw [h1]
  have hE : aftE s P = aftE s Q := List.filter_congr (fun x hx => by rw [h x hx])
  have hB : aftB s P = aftB s Q := List.filter_congr (fun x hx => by rw [h1])
  exact ⟨by unfold aft; rw [hF, hE, hB], by unfold cnt; rw [List.filter_congr (fun x hx => by rw [h x hx])]⟩
theorem aft_none : aft s (Pn []) = s ∧ cnt s (Pn []) = 0 := by
  have hp : ∀ b, Pn [] b = false := fun b => by simp [Pn]
  have h1 : ∀ f : Int × Tup × Nat → Bool, (s.es.any fun e => Pn [] e.1 && f e) = false := fun f => by
    rw [List.any_eq_false]
    intro x _
    simp [hp]
  constructor
  · unfold aft aftF aftE aftB hit
    simp only [h1, hp]
    have hm : ∀ l : List Flw, List.mapIdx (fun (j : Nat) (f : Flw) => f) l = l := fun l => List.ext_getElem? (fun j => by rw [List.getElem?_mapIdx]; simp)
    cases s
    simp [hm]
  · unfold cnt
    simp [hp]
theorem cnt_step (hi : InvT s) (he : e ∈ s.es) (hP : P e.1 = false) : cnt s (fun b => P b || b == e.1) = cnt s P + (if gone s e = true then 1 else 0) := by
  unfold cnt
  have : ∀ l : List (Int × Tup × Nat), (l.map fun e => e.1).Nodup → e ∈ l → (l.filter fun x => (P x.1 || x.1 == e.1) && gone s x).length = (l.filter fun x => P x.1 && gone s x).length + (if gone s e = true then 1 else 0) := by
    intro l
    induction l with
    | nil => intro _ h; cases h
    | cons y r ih =>
      intro hn h
      rw [List.map_cons, List.nodup_cons] at hn
      rw [List.filter_cons, List.filter_cons]
      rcases List.mem_cons.1 h with rfl | h
      · have hr : (r.filter fun x => (P x.1 || x.1 == e.1) && gone s x) = r.filter fun x => P x.1 && gone s x := List.filter_congr (fun x hx => by
          have : x.1 ≠ e.1 := fun hh => hn.1 (hh ▸ List.mem_map.2 ⟨x, hx, rfl⟩)
          rw [beq_eq_false_iff_ne.2 this, Bool.or_false])
        rw [hr, hP]
        cases gone s e <;> simp
      · have hy : (y.1 == e.1) = false := by
          exact beq_eq_false_iff_ne.2 (fun hh => hn.1 (hh ▸ List.mem_map.2 ⟨e, h, rfl⟩))
        rw [hy, Bool.or_false]
        have := ih hn.2 h
        cases P y.1 && gone s y
        · simpa using this
        · simp only [if_true, List.length_cons, this]
          omega
  exact this _ hi.born he
theorem cnt_le : cnt s P ≤ s.es.length := List.length_filter_le _ _
end

def tickS (s : Tb) : Tb := aft s fun _ => true
structure TickOk (n : Nat) (s : Tb) : Prop where
  inv : InvT s
  len : s.es.length < n
  sm : s.es.length < 4611686018427387904

def encS (s : Tb) : List AV := .pt 2 (some 0) :: s.ms
def decS (l : List AV) : Tb := Tb.of (l.drop 1)
open Classical in
noncomputable def outS (n : Nat) (s : Tb) : Option (List AV) := if TickOk n s then some (.int .i64 (cnt s fun _ => true : Nat) :: (tickS s).ms) else none
noncomputable def G18 : Fun := spec encS decS outS
theorem g18 (n : Nat) (s : Tb) (h : TickOk n s) : G18 n (.pt 2 (some 0) :: s.ms) = some (.int .i64 (cnt s fun _ => true : Nat) :: (tickS s).ms) :=
  (spec_at (enc := encS) s (Tb.of_ms s)).trans (if_pos h)

theorem s18 : SoundCal Tryd.prog env 18 (mkCal D18 G18) := spec_ok (snd18 G37 s37) (fun n s r h => by
  unfold outS at h
  split at h
  case isFalse => cases h
  rename_i ho
  have hi := ho.inv
  cases h
  refine (eq18 G37 n (some 0) s.m1 s.m2 s.m3 s.m4).trans ?_
  rw [brO_t (b := Option.isSome (some 0)) rfl, brO_t (b := Option.isSome _) rfl]
  let st (seen : List Int) : List AV := [.tup (aft s (Pn seen)).m1, .tup s.m2, .tup (aft s (Pn seen)).m3, .tup (aft s (Pn seen)).m4, .pt 2 (some 0), .int .i64 (cnt s (Pn seen) : Nat), .tup [.int .i64 0, .int .i64 s.ck, .fs .i64 seen, .int .i64 s.ck]]
  let rs : Sum (List AV) (List AV) := .inl [.tup (tickS s).m1, .tup s.m2, .tup (tickS s).m3, .tup (tickS s).m4, .int .i64 (cnt s fun _ => true : Nat)]
  have fin : ∀ X : Option (Sum (List AV) (List AV)), X = some rs → jn X (fun d4 => some [.int .i64 (AV.toInt (getE d4 4)), .tup (AV.toElems (getE d4 0)), .tup (AV.toElems (getE d4 1)), .tup (AV.toElems (getE d4 2)), .tup (AV.toElems (getE d4 3))]) = some (.int .i64 (cnt s fun _ => true : Nat) :: (tickS s).ms) := by
    intro X hX
    rw [hX]
    rfl
  refine fin _ ?_
  have h0 : left [] s.es = s.es := by unfold left; simp
  have hst : st [] = [.tup s.m1, .tup s.m2, .tup s.m3, .tup s.m4, .pt 2 (some 0), .int .i64 0, .tup [.int .i64 0, .int .i64 s.ck, .fs .i64 [], .int .i64 s.ck]] := by
    show [AV.tup (aft s (Pn [])).m1, .tup s.m2, .tup (aft s (Pn [])).m3, .tup (aft s (Pn [])).m4, .pt 2 (some 0), .int .i64 (cnt s (Pn []) : Nat), _] = _
    rw [aft_none.1, aft_none.2]
    rfl
  refine Eq.trans (congrArg (iter _ n) hst.symm) ?_
  refine iter_any st (fun seen => (left seen s.es).length) (fun _ => rs) (fun _ => True) (fun seen k _ hk => ?_) n [] (by rw [h0]; exact ho.len) trivial
  dsimp only [st, ge0, ge1, ge2, ge3, ge4, ge5, ge6, ge7, ge8, tI, tB, tT, tV, tF, tM, tC, tP, tQ, Tb.m3, Int.toNat_zero]
  have hlt : ∀ e ∈ (aft s (Pn seen)).es, e.1 < s.ck := fun e he => hi.lt e (List.mem_filter.1 he).1
  refine (brO_t ((Bool.and_eq_true _ _).mpr ⟨all_e hlt, decide_eq_true (Int.le_refl _)⟩)).trans ?_
  rw [mleft_e]
  have hleft : left seen (aft s (Pn seen)).es = left seen s.es := by
    show (s.es.filter _).filter _ = s.es.filter _
    rw [List.filter_filter]
    refine List.filter_congr (fun x _ => ?_)
    show ((!(seen.any fun b => x.1 == b)) && !(Pn seen x.1 && gone s x)) = _
    have : (seen.any fun b => x.1 == b) = Pn seen x.1 := by
      unfold Pn
      rw [Bool.eq_iff_iff]
      simp
    rw [this]
    cases Pn seen x.1 <;> simp
  rw [hleft]
  cases hl : left seen s.es with
  | nil =>
    have hall : ∀ e ∈ s.es, Pn seen e.1 = (fun _ => true) e.1 := by
      intro e he
      refine Classical.byContradiction (fun hn => ?_)
      have : e ∈ left seen s.es := left_mem.2 ⟨he, fun hm => hn (decide_eq_true hm)⟩
      rw [hl] at this
      cases this
    rw [brO_t (by rfl)]
    show some (Sum.inl [AV.tup (aft s (Pn seen)).m1, .tup s.m2, .tup (aft s (Pn seen)).m3, .tup (aft s (Pn seen)).m4, .int .i64 (cnt s (Pn seen) : Nat)]) = some rs
    rw [(aft_congr (Q := fun _ => true) hall).1, (aft_congr (Q := fun _ => true) hall).2]
    rfl
  | cons e0 l0 =>
    rw [brO_f (by rfl)]
    refine allO_some.2 ⟨by simp, fun i hlt' => ?_⟩
    rw [← hl] at hlt' ⊢
    rw [List.length_map] at hlt'
    obtain ⟨e, he⟩ : ∃ e, (left seen s.es)[i]? = some e := ⟨_, List.getElem?_eq_getElem hlt'⟩
    have hmem := List.mem_of_getElem? he
    have hes := (left_mem.1 hmem).1
    have hP : Pn seen e.1 = false := by unfold Pn; exact decide_eq_false (left_mem.1 hmem).2
    obtain ⟨f, hf, hft⟩ := hi.ptr e hes
    rw [getE_map he]
    have hlast : (seen ++ [bornOf (eAv e)]).getLastD 0 = e.1 := by simp [born_e]
    have hbn : ((aft s (Pn seen)).es.map fun e => e.1).Nodup := (List.filter_sublist.map _).nodup hi.born
    have hes' : e ∈ (aft s (Pn seen)).es := List.mem_filter.2 ⟨hes, by rw [hP]; rfl⟩
    rw [hlast, mfindB_e hbn hes']
    rw [brO_t (by simp)]
    have hg : getE (aft s (Pn seen)).m1 e.2.2 = f.av := m1_at (aftF_at hi hes hP hf)
    have hgo : gone s e = ((dec f).left == 0) := by unfold gone; rw [hf]
    have hok : outK s e = rev (out_ s.c f) := by unfold outK; rw [hf]
    have hF := aftF_step (P := Pn seen) hi hes hP hf
    have hE := aftE_step (P := Pn seen) hi hes hP
    have hB := aftB_step (P := Pn seen) hi hes
    have hC := cnt_step (P := Pn seen) hi hes hP
    rw [← Pn_snoc] at hF hE hB hC
    have hm1 : (aft s (Pn seen)).m1.set e.2.2 (dec f).av = (aft s (Pn (seen ++ [e.1]))).m1 := by
      show (List.map Flw.av (aftF s (Pn seen))).set e.2.2 (dec f).av = List.map Flw.av (aftF s (Pn (seen ++ [e.1])))
      rw [← List.map_set, hF]
    have hat : getE (aft s (Pn (seen ++ [e.1]))).m1 e.2.2 = (dec f).av := by
      refine m1_at ?_
      show (aftF s (Pn (seen ++ [e.1])))[e.2.2]? = _
      rw [← hF, List.getElem?_set]
      have := (List.getElem?_eq_some_iff.1 (aftF_at (P := Pn seen) hi hes hP hf)).1
      simp [this]
    have hset : List.set (aft s (Pn seen)).m1 e.2.2 (.agg [eta s34 (AV.item (getE (aft s (Pn seen)).m1 e.2.2) 0), .int .i64 (AV.toInt (AV.item (getE (aft s (Pn seen)).m1 e.2.2) 1)), .int .i64 (AV.toInt (AV.item (getE (aft s (Pn seen)).m1 e.2.2) 2)), .int .i64 (IntKind.wrap .i64 ((AV.toInt (AV.item (getE (aft s (Pn seen)).m1 e.2.2) 3)) - 1))]) = (aft s (Pn (seen ++ [e.1]))).m1 := by
      rw [hg]
      exact hm1
    have hnext := hk (seen ++ [e.1]) (left_lt hmem) trivial
    refine (brO_t (b := Option.isSome (AV.toPt (AV.item (Option.getD (some (eAv e)) .undef) 2))) rfl).trans ?_
    refine (brO_t (b := Option.isSome (AV.toPt (AV.item (Option.getD (some (eAv e)) .undef) 2))) rfl).trans ?_
    refine (brO_t (b := Option.isSome (AV.toPt (AV.item (Option.getD (some (eAv e)) .undef) 2))) rfl).trans ?_
    show brO ((AV.toInt (AV.item (getE (List.set (aft s (Pn seen)).m1 e.2.2 (.agg [eta s34 (AV.item (getE (aft s (Pn seen)).m1 e.2.2) 0), .int .i64 (AV.toInt (AV.item (getE (aft s (Pn seen)).m1 e.2.2) 1)), .int .i64 (AV.toInt (AV.item (getE (aft s (Pn seen)).m1 e.2.2) 2)), .int .i64 (IntKind.wrap .i64 ((AV.toInt (AV.item (getE (aft s (Pn seen)).m1 e.2.2) 3)) - 1))])) e.2.2) 3)) == 0)
      (brO true (Option.bind (G37 n [.pt 2 (some 0), eta s48 (getE (List.set (aft s (Pn seen)).m1 e.2.2 (.agg [eta s34 (AV.item (getE (aft s (Pn seen)).m1 e.2.2) 0), .int .i64 (AV.toInt (AV.item (getE (aft s (Pn seen)).m1 e.2.2) 1)), .int .i64 (AV.toInt (AV.item (getE (aft s (Pn seen)).m1 e.2.2) 2)), .int .i64 (IntKind.wrap .i64 ((AV.toInt (AV.item (getE (aft s (Pn seen)).m1 e.2.2) 3)) - 1))])) e.2.2), .tup (List.set (aft s (Pn seen)).m1 e.2.2 (.agg [eta s34 (AV.item (getE (aft s (Pn seen)).m1 e.2.2) 0), .int .i64 (AV.toInt (AV.item (getE (aft s (Pn seen)).m1 e.2.2) 1)), .int .i64 (AV.toInt (AV.item (getE (aft s (Pn seen)).m1 e.2.2) 2)), .int .i64 (IntKind.wrap .i64 ((AV.toInt (AV.item (getE (aft s (Pn seen)).m1 e.2.2) 3)) - 1))])), .tup s.m2, .tup (aft s (Pn seen)).m3, .tup (aft s (Pn seen)).m4]) fun r3 =>
        brO (Nat.beq (List.length r3) 4) (k [.tup (AV.toElems (getE r3 0)), .tup (AV.toElems (getE r3 1)), .tup (AV.toElems (getE r3 2)), .tup (AV.toElems (getE r3 3)), .pt 2 (some 0), .int .i64 (IntKind.wrap .i64 (((cnt s (Pn seen) : Nat) : Int) + 1)), .tup [.int .i64 0, .int .i64 s.ck, .fs .i64 (seen ++ [e.1]), .int .i64 s.ck]]) none) none)
      (k [.tup (List.set (aft s (Pn seen)).m1 e.2.2 (.agg [eta s34 (AV.item (getE (aft s (Pn seen)).m1 e.2.2) 0), .int .i64 (AV.toInt (AV.item (getE (aft s (Pn seen)).m1 e.2.2) 1)), .int .i64 (AV.toInt (AV.item (getE (aft s (Pn seen)).m1 e.2.2) 2)), .int .i64 (IntKind.wrap .i64 ((AV.toInt (AV.item (getE (aft s (Pn seen)).m1 e.2.2) 3)) - 1))])), .tup s.m2, .tup (aft s (Pn seen)).m3, .tup (aft s (Pn seen)).m4, .pt 2 (some 0), .int .i64 (cnt s (Pn seen) : Nat), .tup [.int .i64 0, .int .i64 s.ck, .fs .i64 (seen ++ [e.1]), .int .i64 s.ck]]) = some rs
    rw [hset, hat]
    show brO ((dec f).left == 0) _ _ = _
    rw [← hgo]
    cases hgd : gone s e with
    | true =>
      rw [hgd, if_pos rfl] at hE hB hC
      rw [brO_t rfl, brO_t (b := true) rfl]
      -- the flow ends
      let t0 : Tb := { aft s (Pn seen) with F := aftF s (Pn (seen ++ [e.1])) }
      rw [show G37 n [.pt 2 (some 0), eta s48 (dec f).av, .tup (aft s (Pn (seen ++ [e.1]))).m1, .tup s.m2, .tup (aft s (Pn seen)).m3, .tup (aft s (Pn seen)).m4] = some (endS t0 (dec f)).ms from g37 n (dec f) t0]
      have hend : endS t0 (dec f) = aft s (Pn (seen ++ [e.1])) := by
        show ({ c := s.c, F := aftF s (Pn (seen ++ [e.1])), es := del f.t (aftE s (Pn seen)), ck := s.ck, bs := del (rev (out_ s.c f)) (aftB s (Pn seen)), bk := s.bk } : Tb) = _
        rw [hft, ← hE, ← hok, ← hB]
        rfl
      rw [hend]
      show k [.tup (aft s (Pn (seen ++ [e.1]))).m1, .tup s.m2, .tup (aft s (Pn (seen ++ [e.1]))).m3, .tup (aft s (Pn (seen ++ [e.1]))).m4, .pt 2 (some 0), .int .i64 (IntKind.wrap .i64 (((cnt s (Pn seen) : Nat) : Int) + 1)), .tup [.int .i64 0, .int .i64 s.ck, .fs .i64 (seen ++ [e.1]), .int .i64 s.ck]] = _
      have hw : IntKind.wrap .i64 (((cnt s (Pn seen) : Nat) : Int) + 1) = ((cnt s (Pn (seen ++ [e.1])) : Nat) : Int) := by
        have h1 : cnt s (Pn seen) ≤ s.es.length := cnt_le
        have h2 := ho.sm
        rw [W_id (by omega) (by omega), hC]
        rfl
      rw [hw]
      exact hnext
    | false =>
      rw [hgd, if_neg (by simp)] at hE hB hC
      rw [brO_f rfl]
      have h3 : (aft s (Pn seen)).m3 = (aft s (Pn (seen ++ [e.1]))).m3 := by
        show [AV.mc ((aftE s (Pn seen)).map eAv) s.ck] = [AV.mc ((aftE s (Pn (seen ++ [e.1]))).map eAv) s.ck]
        rw [hE]
      have h4 : (aft s (Pn seen)).m4 = (aft s (Pn (seen ++ [e.1]))).m4 := by
        show [AV.mc ((aftB s (Pn seen)).map bAv) s.bk] = [AV.mc ((aftB s (Pn (seen ++ [e.1]))).map bAv) s.bk]
        rw [hB]
      rw [h3, h4]
      have hc : cnt s (Pn seen) = cnt s (Pn (seen ++ [e.1])) := by rw [hC]; rfl
      rw [hc]
      exact hnext)
end Go.Proofs.YtldnpibpbbcjgaaDoor.Am
end

section
set_option linter.unusedVariables false
set_option linter.unusedSimpArgs false
namespace Go.Proofs.YtldnpibpbbcjgaaDoor.Am
open Go Go.Am Go.Proofs

/-- An entry's place, then its value: a new key lies behind all others. -/
theorem entry_new {α : Type} {enc : α → AV} {born : α → Int} {l : List α} {k v z : AV} {c : Int} (hb : ∀ x, bornOf (enc x) = born x) (hlt : ∀ x ∈ l, born x < c) (hk : mhas k (l.map enc) = false) :
    mput k z (l.map enc) c = l.map enc ++ [AV.agg [.int .i64 c, k, z]] ∧ mputC k (l.map enc) c = c + 1 ∧ mstamp k (l.map enc) c = c ∧
      mfindB c (l.map enc ++ [AV.agg [.int .i64 c, k, z]]) = some (.agg [.int .i64 c, k, z]) ∧ mst c v (l.map enc ++ [AV.agg [.int .i64 c, k, z]]) = l.map enc ++ [AV.agg [.int .i64 c, k, v]] ∧ mget k z (l.map enc) = z := by
  have hf : mfind k (l.map enc) = none := by
    cases h : mfind k (l.map enc) with
    | none => rfl
    | some e =>
      have : mhas k (l.map enc) = true := by unfold mhas; rw [h]
      rw [hk] at this
      cases this
  refine ⟨?_, ?_, ?_, ?_, ?_, ?_⟩
  · unfold mput; rw [hk]
  · unfold mputC; rw [hk]
  · unfold mstamp; rw [hf]
  · have : ∀ m : List α, (∀ x ∈ m, born x < c) → mfindB c (m.map enc ++ [AV.agg [.int .i64 c, k, z]]) = some (.agg [.int .i64 c, k, z]) := by
      intro m
      induction m with
      | nil =>
        intro _
        show (match c == c with | true => some _ | false => none) = _
        simp
      | cons x r ih =>
        intro h
        show (match bornOf (enc x) == c with | true => some (enc x) | false => mfindB c (r.map enc ++ [AV.agg [.int .i64 c, k, z]])) = _
        have hx := h x (by simp)
        rw [hb, beq_eq_false_iff_ne.2 (by omega : born x ≠ c)]
        exact ih (fun y hy => h y (by simp [hy]))
    exact this l hlt
  · have : ∀ m : List α, (∀ x ∈ m, born x < c) → mst c v (m.map enc ++ [AV.agg [.int .i64 c, k, z]]) = m.map enc ++ [AV.agg [.int .i64 c, k, v]] := by
      intro m
      induction m with
      | nil =>
        intro _
        show (match c == c with | true => AV.agg [.int .i64 c, k, v] :: [] | false => _) = _
        simp
      | cons x r ih =>
        intro h
        show (match bornOf (enc x) == c with | true => AV.agg [(enc x).item 0, (enc x).item 1, v] :: (r.map enc ++ [AV.agg [.int .i64 c, k, z]]) | false => enc x :: mst c v (r.map enc ++ [AV.agg [.int .i64 c, k, z]])) = _
        have hx := h x (by simp)
        rw [hb, beq_eq_false_iff_ne.2 (by omega : born x ≠ c)]
        show enc x :: mst c v (r.map enc ++ [AV.agg [.int .i64 c, k, z]]) = _
        rw [ih (fun y hy => h y (by simp [hy]))]
        rfl
    exact this l hlt
  · unfold mget; rw [hf]

def addE (l : List (Int × Tup × Nat)) (c : Int) (k : Tup) (j : Nat) : List (Int × Tup × Nat) := l ++ [(c, k, j)]
def addB (l : List (Int × Tup × Tup)) (c : Int) (k v : Tup) : List (Int × Tup × Tup) := l ++ [(c, k, v)]
theorem addE_av (l : List (Int × Tup × Nat)) (c : Int) (k : Tup) (j : Nat) : (addE l c k j).map eAv = l.map eAv ++ [AV.agg [.int .i64 c, k.av, .pt 1 (some j)]] := by
  unfold addE; rw [List.map_append]; rfl
theorem addB_av (l : List (Int × Tup × Tup)) (c : Int) (k v : Tup) : (addB l c k v).map bAv = l.map bAv ++ [AV.agg [.int .i64 c, k.av, v.av]] := by
  unfold addB; rw [List.map_append]; rfl

/-! A new flow. -/
def new0 (x : Tup) (fl : Int) : Flw := ⟨x, 0, if x.p = 6 then getI [0, 0, 0, 1, 0, 0] (seg fl) else 7, 0⟩
def outO (n : Nat) (s : Tb) (x : Tup) (fl : Int) : Option (Tup × Int × Tb) :=
  if judge x ≠ 0 then some (zT, judge x, s) else match fnd x s.es with
    | some j => match s.F[j]? with
      | none => none
      | some f => match goes s j fl false with
        | none => none
        | some (false, s') => some (zT, 173, s')
        | some (true, s') => some (out_ s.c f, 0, s')
    | none =>
      let f0 := new0 x fl
      let s1 : Tb := { s with F := s.F ++ [f0] }
      let j := s.F.length
      if f0.st = 0 ∨ (isEcho x = true ∧ (x.dp ≠ 0 ∨ x.sp = 0)) then some (zT, 173, s1)
      else if (s.es.length : Int) = s.c.max then some (zT, 171, s1)
      else
        let q := portOf s1 x
        let f1 : Flw := { f0 with port := q.1 }
        if q.2 = false then some (zT, 172, setFl s1 j f1)
        else
          let f2 : Flw := { f1 with left := time s.c f1 }
          let y := out_ s.c f2
          if (fnd (rev y) s.bs).isSome then none
          else some (y, 0, { s1 with F := (s.F ++ [f2]), es := addE s.es s.ck x j, ck := s.ck + 1, bs := addB s.bs s.bk (rev y) x, bk := s.bk + 1 })
end Go.Proofs.YtldnpibpbbcjgaaDoor.Am
end
