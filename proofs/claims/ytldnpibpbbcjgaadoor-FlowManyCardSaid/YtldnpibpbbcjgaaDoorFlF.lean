/-
  The reference's prefixes: closed runs.
  The reference: bits, prefixes, classes.
-/
import Derived.Test.YtldnpibpbbcjgaaDoorFlE
import Derived.KernelRfl
section
set_option linter.unusedVariables false
namespace Go.Proofs.YtldnpibpbbcjgaaDoor.Am
open Go Go.Am Go.Proofs
noncomputable def A74 : Fun := D74.run Tryd.prog env cal74 H74
noncomputable def A75 : Fun := D75.run Tryd.prog env cal75 H75
noncomputable def A76 : Fun := D76.run Tryd.prog env cal76 H76
noncomputable def A77 : Fun := D77.run Tryd.prog env cal77 H77
noncomputable def A50 : Fun := D50.run Tryd.prog env cal50 H50
noncomputable def A79 : Fun := D79.run Tryd.prog env cal79 H79
noncomputable def A78 : Fun := D78.run Tryd.prog env (cal78 A50 A77 A79) H78
noncomputable def A81 : Fun := D81.run Tryd.prog env cal81 H81
noncomputable def A84 : Fun := D84.run Tryd.prog env cal84 H84
noncomputable def A83 : Fun := D83.run Tryd.prog env (cal83 A74 A75 A76) H83
noncomputable def A87 : Fun := D87.run Tryd.prog env cal87 H87
noncomputable def A88 : Fun := D88.run Tryd.prog env (cal88 A74) H88
def bx (t : List UInt8) (g : AV) (gap p e a : Int) : AV := .agg [.str t, g, .int .i64 gap, .int .i64 p, .int .i64 e, .int .i64 a]
theorem eq89n (n : Nat) (t : List UInt8) (gap p e a : Int) : run89 n (some 0) [bx t .nils gap p e a] = brO (decide (gap ≥ 0)) (some [.int .i64 7, .tup [bx t .nils gap p e a]]) (some [.int .i64 8, .tup [bx t .nils gap p e a]]) := by kernel_rfl
theorem eq89s (n : Nat) (t : List UInt8) (l : List Int) (gap p e a : Int) : run89 n (some 0) [bx t (.fs .i64 l) gap p e a] = brO (decide (gap ≥ 0)) (some [.int .i64 7, .tup [bx t (.fs .i64 l) gap p e a]]) (some [.int .i64 8, .tup [bx t (.fs .i64 l) gap p e a]]) := by kernel_rfl
def A89 : Fun := fun n xs => match xs with
  | [.pt 7 (some 0), .tup [.agg [.str t, .nils, .int .i64 gap, .int .i64 p, .int .i64 e, .int .i64 a]]] => brO (decide (gap ≥ 0)) (some [.int .i64 7]) (some [.int .i64 8])
  | [.pt 7 (some 0), .tup [.agg [.str t, .fs .i64 l, .int .i64 gap, .int .i64 p, .int .i64 e, .int .i64 a]]] => brO (decide (gap ≥ 0)) (some [.int .i64 7]) (some [.int .i64 8])
  | _ => none
noncomputable def A85 : Fun := D85.run Tryd.prog env (cal85 A75 A83 A87 A88 A89) H85
noncomputable def A86 : Fun := D86.run Tryd.prog env (cal86 A84 A87) H86
noncomputable def A82 : Fun := D82.run Tryd.prog env (cal82 A84 A85 A86 A87) H82
noncomputable def A73 : Fun := D73.run Tryd.prog env (cal73 A81 A82 A83) H73
noncomputable def A65 : Fun := D65.run Tryd.prog env (cal65 A73 A74 A75 A76 A77 A78) H65
theorem sA74 : SoundCal Tryd.prog env 74 (mkCal D74 A74) := snd74
theorem sA75 : SoundCal Tryd.prog env 75 (mkCal D75 A75) := snd75
theorem sA76 : SoundCal Tryd.prog env 76 (mkCal D76 A76) := snd76
theorem sA77 : SoundCal Tryd.prog env 77 (mkCal D77 A77) := snd77
theorem sA50 : SoundCal Tryd.prog env 50 (mkCal D50 A50) := snd50
theorem sA79 : SoundCal Tryd.prog env 79 (mkCal D79 A79) := snd79
theorem sA78 : SoundCal Tryd.prog env 78 (mkCal D78 A78) := snd78 A50 A77 A79 sA50 sA77 sA79
theorem sA81 : SoundCal Tryd.prog env 81 (mkCal D81 A81) := snd81
theorem sA84 : SoundCal Tryd.prog env 84 (mkCal D84 A84) := snd84
theorem sA83 : SoundCal Tryd.prog env 83 (mkCal D83 A83) := snd83 A74 A75 A76 sA74 sA75 sA76
theorem sA87 : SoundCal Tryd.prog env 87 (mkCal D87 A87) := snd87
theorem sA88 : SoundCal Tryd.prog env 88 (mkCal D88 A88) := snd88 A74 sA74
theorem sA89 : SoundCal Tryd.prog env 89 (calRo D89 A89) := monoRo_ok snd89 (fun n xs r h => by
  unfold A89 at h
  split at h
  · rename_i t gap p e a
    refine (eq89n n t gap p e a).trans ?_
    cases hd : decide (gap ≥ 0) with
    | true => rw [hd] at h; cases h; rfl
    | false => rw [hd] at h; cases h; rfl
  · rename_i t l gap p e a
    refine (eq89s n t l gap p e a).trans ?_
    cases hd : decide (gap ≥ 0) with
    | true => rw [hd] at h; cases h; rfl
    | false => rw [hd] at h; cases h; rfl
  · cases h)
theorem sA85 : SoundCal Tryd.prog env 85 (mkCal D85 A85) := snd85 A75 A83 A87 A88 A89 sA75 sA83 sA87 sA88 sA89
theorem sA86 : SoundCal Tryd.prog env 86 (mkCal D86 A86) := snd86 A84 A87 sA84 sA87
theorem sA82 : SoundCal Tryd.prog env 82 (mkCal D82 A82) := snd82 A84 A85 A86 A87 sA84 sA85 sA86 sA87
theorem sA73 : SoundCal Tryd.prog env 73 (mkCal D73 A73) := snd73 A81 A82 A83 sA81 sA82 sA83
theorem sA65 : SoundCal Tryd.prog env 65 (mkCal D65 A65) := snd65 A73 A74 A75 A76 A77 A78 sA73 sA74 sA75 sA76 sA77 sA78
end Go.Proofs.YtldnpibpbbcjgaaDoor.Am
end

section
set_option linter.unusedVariables false
set_option linter.unusedSimpArgs false
namespace Go.Proofs.YtldnpibpbbcjgaaDoor.Am
open Go Go.Am Go.Proofs

/-- Bytes. -/
def ByOk (a : List Int) : Prop := ∀ i, 0 ≤ getI a i ∧ getI a i < 256
def IPOk (x : IP) : Prop := ByOk x.a

theorem inR_ok' {x : Int} {n : Nat} (h1 : 0 ≤ x) (h2 : x < n) : inR x n = true := by unfold inR; simp; omega
def bitI (a : List Int) (i : Nat) : Int := getI a (i / 8) / 2 ^ (7 - i % 8) % 2
open Classical in
noncomputable def outBit (n : Nat) (p : IP × Nat) : Option (List AV) := if 8 < n ∧ p.2 < 128 ∧ IPOk p.1 then some [.int .i64 (bitI p.1.a p.2)] else none
noncomputable def G79 : Fun := spec (fun p : IP × Nat => [p.1.av, .int .i64 (p.2 : Nat)]) (fun l => (IP.of (getE l 0), (getE l 1).toInt.toNat)) outBit
theorem g79 {n : Nat} {x : IP} {i : Nat} (hn : 8 < n) (hi : i < 128) (hx : IPOk x) : G79 n [x.av, .int .i64 (i : Nat)] = some [.int .i64 (bitI x.a i)] :=
  (spec_at (enc := fun p : IP × Nat => [p.1.av, .int .i64 (p.2 : Nat)]) (x, i) rfl).trans (if_pos ⟨hn, hi, hx⟩)

theorem half (b : Int) (k : Nat) : b / 2 ^ k / 2 = b / 2 ^ (k + 1) := by
  rw [Int.ediv_ediv_of_nonneg (Int.le_of_lt (Int.pow_pos (by omega))), Int.pow_succ]
theorem s79 : SoundCal Tryd.prog env 79 (mkCal D79 G79) := spec_ok snd79 (fun n p r h => by
  obtain ⟨x, i⟩ := p
  unfold outBit at h
  split at h
  case isFalse => cases h
  rename_i hh
  obtain ⟨hn, hi, hx⟩ := hh
  replace hi : i < 128 := hi
  replace hx : IPOk x := hx
  cases h
  refine (eq79 n x.av (i : Nat)).trans ?_
  have e1 : IntKind.wrap .i64 (Int.tdiv ((i : Nat) : Int) 8) = ((i / 8 : Nat) : Int) := by
    rw [show Int.tdiv ((i : Nat) : Int) 8 = ((i / 8 : Nat) : Int) from rfl]
    exact W_id (by omega) (by omega)
  have e2 : Int.tmod ((i : Nat) : Int) 8 = ((i % 8 : Nat) : Int) := rfl
  simp only [e1, e2]
  rw [brO_t (inR_ok' (by omega) (by omega)), Int.toNat_natCast]
  have hb := hx (i / 8)
  show jn (iter _ n [.int .i64 (IntKind.wrap .i64 (getI x.a (i / 8))), .int .i64 ((i % 8 : Nat) : Int)]) _ = _
  rw [W_id (by omega) (by omega)]
  let st (k : Nat) : List AV := [.int .i64 (getI x.a (i / 8) / 2 ^ (k - i % 8)), .int .i64 (k : Nat)]
  have hst : st (i % 8) = [.int .i64 (getI x.a (i / 8)), .int .i64 ((i % 8 : Nat) : Int)] := by
    show [AV.int .i64 (getI x.a (i / 8) / 2 ^ (i % 8 - i % 8)), .int .i64 ((i % 8 : Nat) : Int)] = _
    rw [Nat.sub_self, Int.pow_zero, Int.ediv_one]
  refine (jn_l (d := [.int .i64 (getI x.a (i / 8) / 2 ^ (7 - i % 8))]) ?_).trans ?_
  · refine Eq.trans (congrArg (iter _ n) hst.symm) ?_
    refine iter_any st (fun k => 8 - k) (fun _ => (Sum.inl [.int .i64 (getI x.a (i / 8) / 2 ^ (7 - i % 8))] : Sum (List AV) (List AV))) (fun k => k ≤ 7 ∧ i % 8 ≤ k) (fun k K hk hK => ?_) n (i % 8) (by show 8 - i % 8 < n; omega) ⟨by omega, by omega⟩
    obtain ⟨hk7, hki⟩ := hk
    show brO (decide (((k : Nat) : Int) < 7)) (K [.int .i64 (IntKind.wrap .i64 (Int.tdiv (getI x.a (i / 8) / 2 ^ (k - i % 8)) 2)), .int .i64 (IntKind.wrap .i64 (((k : Nat) : Int) + 1))]) _ = _
    by_cases h7 : k < 7
    · rw [brO_t (decide_eq_true (by omega : ((k : Nat) : Int) < 7))]
      have h0 : 0 ≤ getI x.a (i / 8) / 2 ^ (k - i % 8) := Int.ediv_nonneg hb.1 (Int.pow_nonneg (by omega))
      have h1 : getI x.a (i / 8) / 2 ^ (k - i % 8) ≤ getI x.a (i / 8) := Int.ediv_le_self _ hb.1
      have e3 : Int.tdiv (getI x.a (i / 8) / 2 ^ (k - i % 8)) 2 = getI x.a (i / 8) / 2 ^ (k + 1 - i % 8) := by
        rw [Int.tdiv_eq_ediv_of_nonneg h0, half, show k - i % 8 + 1 = k + 1 - i % 8 by omega]
      have h2 : getI x.a (i / 8) / 2 ^ (k + 1 - i % 8) ≤ getI x.a (i / 8) := Int.ediv_le_self _ hb.1
      have h3 : 0 ≤ getI x.a (i / 8) / 2 ^ (k + 1 - i % 8) := Int.ediv_nonneg hb.1 (Int.pow_nonneg (by omega))
      rw [e3, W_id (by omega) (by omega), W_id (by omega) (by omega)]
      exact hK (k + 1) (by show 8 - (k + 1) < 8 - k; omega) ⟨by omega, by omega⟩
    · rw [brO_f (decide_eq_false (by omega : ¬ ((k : Nat) : Int) < 7))]
      have : k = 7 := by omega
      subst this
      rfl
  · show some [AV.int .i64 (Int.tmod (getI x.a (i / 8) / 2 ^ (7 - i % 8)) 2)] = _
    have h0 : 0 ≤ getI x.a (i / 8) / 2 ^ (7 - i % 8) := Int.ediv_nonneg hb.1 (Int.pow_nonneg (by omega))
    rw [Int.tmod_eq_emod_of_nonneg h0]
    rfl)

/-! Prefixes. -/
structure Pfx where
  ip : IP
  len : Nat
def Pfx.av (p : Pfx) : AV := .agg [p.ip.av, .int .i64 (p.len : Nat)]
def bitsEq (a b : List Int) : Nat → Nat → Bool
  | 0, _ => true
  | k + 1, i => bitI a i == bitI b i && bitsEq a b k (i + 1)
def hasP (p : Pfx) (x : IP) : Bool := refValid x && (p.ip.v == x.v && bitsEq p.ip.a x.a p.len 0)
structure PfxOk (p : Pfx) : Prop where
  ok : ∀ m, A78 (m + 300) [p.av] = some [.int .i64 0]
  len : p.len ≤ 128
  by_ : IPOk p.ip
open Classical in
noncomputable def outHas (n : Nat) (q : Pfx × IP) : Option (List AV) := if 300 ≤ n ∧ PfxOk q.1 ∧ IPOk q.2 then some [.bool (hasP q.1 q.2)] else none
noncomputable def G66 : Fun := spec (fun q : Pfx × IP => [q.1.av, q.2.av]) (fun l => (⟨IP.of ((getE l 0).item 0), ((getE l 0).item 1).toInt.toNat⟩, IP.of (getE l 1))) outHas
theorem g66 {n : Nat} {p : Pfx} {x : IP} (hn : 300 ≤ n) (hp : PfxOk p) (hx : IPOk x) : G66 n [p.av, x.av] = some [.bool (hasP p x)] :=
  (spec_at (enc := fun q : Pfx × IP => [q.1.av, q.2.av]) (p, x) rfl).trans (if_pos ⟨hn, hp, hx⟩)
theorem s66 : SoundCal Tryd.prog env 66 (mkCal D66 G66) := spec_ok (snd66 G50 A78 G79 s50 sA78 s79) (fun n q r h => by
  obtain ⟨p, x⟩ := q
  unfold outHas at h
  split at h
  case isFalse => cases h
  rename_i hh
  obtain ⟨hn, hp, hx⟩ := hh
  replace hp : PfxOk p := hp
  replace hx : IPOk x := hx
  cases h
  refine (eq66 G50 A78 G79 n p.av x.av).trans ?_
  have e78 : A78 n [p.av] = some [.int .i64 0] := by
    have := hp.ok (n - 300)
    rwa [show n - 300 + 300 = n by omega] at this
  rw [show eta s116 p.av = p.av from rfl, e78, Option.bind_some]
  refine (brO_t rfl).trans ?_
  rw [show eta s24 x.av = x.av from rfl, g50 (by omega), Option.bind_some]
  refine (brO_t rfl).trans ?_
  show jn (jn (brO (!(refValid x)) _ (inl (some [p.av, x.av, .bool (p.ip.v != x.v)]))) _) _ = _
  unfold hasP
  cases hv : refValid x with
  | false => rfl
  | true =>
    rw [brO_f (b := !true) rfl]
    by_cases hpv : p.ip.v = x.v
    · rw [show (p.ip.v != x.v) = false by simp [hpv], show (p.ip.v == x.v) = true by simp [hpv]]
      show jn (iter _ n [p.av, x.av, .int .i64 0]) _ = _
      let st (i : Nat) : List AV := [p.av, x.av, .int .i64 (i : Nat)]
      let rs (i : Nat) : Sum (List AV) (List AV) := match bitsEq p.ip.a x.a (p.len - i) i with | true => .inl [] | false => .inr [.bool false]
      have fin : ∀ X : Option (Sum (List AV) (List AV)), X = some (rs 0) → jn X (fun d2 => some [AV.bool true]) = some [.bool (true && (true && bitsEq p.ip.a x.a p.len 0))] := by
        intro X hX
        rw [hX]
        simp only [rs, Nat.sub_zero, Bool.true_and]
        cases bitsEq p.ip.a x.a p.len 0 <;> rfl
      refine fin _ ?_
      have hlen := hp.len
      refine iter_any st (fun i => p.len - i) rs (fun i => i ≤ p.len) (fun i k hi hk => ?_) n 0 (by show p.len - 0 < n; omega) (by omega)
      by_cases h5 : i < p.len
      · show brO (decide (((i : Nat) : Int) < ((p.len : Nat) : Int))) (Option.bind (G79 n [p.ip.av, .int .i64 (i : Nat)]) fun r6 => brO (Nat.beq (List.length r6) 1) (Option.bind (G79 n [x.av, .int .i64 (i : Nat)]) fun r7 => brO (Nat.beq (List.length r7) 1) (brO ((AV.toInt (getE r6 0)) != (AV.toInt (getE r7 0))) (inr (some [.bool false])) (k [p.av, x.av, .int .i64 (IntKind.wrap .i64 (((i : Nat) : Int) + 1))])) none) none) _ = _
        rw [brO_t (decide_eq_true (by omega : ((i : Nat) : Int) < ((p.len : Nat) : Int))), g79 (by omega) (by omega) hp.by_, Option.bind_some, brO_t (b := Nat.beq _ 1) rfl, g79 (by omega) (by omega) hx, Option.bind_some, brO_t (b := Nat.beq _ 1) rfl]
        show brO (bitI p.ip.a i != bitI x.a i) _ _ = _
        have e : p.len - i = (p.len - (i + 1)) + 1 := by omega
        by_cases hb : bitI p.ip.a i = bitI x.a i
        · rw [brO_f (by simp [hb]), W_id (by omega) (by omega)]
          refine (hk (i + 1) (by show p.len - (i + 1) < p.len - i; omega) (by omega)).trans ?_
          simp only [rs]
          rw [e]
          show _ = some (match bitI p.ip.a i == bitI x.a i && bitsEq p.ip.a x.a (p.len - (i + 1)) (i + 1) with | true => Sum.inl [] | false => .inr [AV.bool false])
          rw [show (bitI p.ip.a i == bitI x.a i) = true by simp [hb], Bool.true_and]
        · rw [brO_t (by simp [hb])]
          simp only [rs]
          rw [e]
          show _ = some (match bitI p.ip.a i == bitI x.a i && bitsEq p.ip.a x.a (p.len - (i + 1)) (i + 1) with | true => Sum.inl [] | false => .inr [AV.bool false])
          rw [show (bitI p.ip.a i == bitI x.a i) = false by simp [hb], Bool.false_and]
          rfl
      · refine (brO_f (decide_eq_false (by omega : ¬ ((i : Nat) : Int) < ((p.len : Nat) : Int)))).trans ?_
        simp only [rs]
        rw [show p.len - i = 0 by omega]
        rfl
    · rw [show (p.ip.v != x.v) = true by simp [hpv], show (p.ip.v == x.v) = false by simp [hpv]]
      rfl)
end Go.Proofs.YtldnpibpbbcjgaaDoor.Am
end
