/-
  The desk's readers: one plain step for both.
-/
import Derived.Test.YtjhbpadplglnlaaR1Eq
set_option linter.unusedVariables false
set_option linter.unusedSimpArgs false
namespace Go.Proofs.Ytjhbpadplglnlaa.Am
open Go Go.Am Go.Proofs

theorem W_id {x : Int} (h : -9223372036854775808 ≤ x) (h' : x < 9223372036854775808) : IntKind.wrap .i64 x = x := by
  show (if (true && decide (x % 18446744073709551616 ≥ 9223372036854775808)) = true then x % 18446744073709551616 - 18446744073709551616 else x % 18446744073709551616) = x
  by_cases hc : x % 18446744073709551616 ≥ 9223372036854775808
  · rw [if_pos (by simpa using hc)]
    omega
  · rw [if_neg (by simpa using hc)]
    omega

theorem U_id {x : Int} (h : 0 ≤ x) (h' : x < 256) : IntKind.wrap .u8 x = x := by
  show (if (false && decide (x % 256 ≥ 128)) = true then x % 256 - 256 else x % 256) = x
  rw [if_neg (by simp)]
  omega

theorem or_add {x y : Int} (k : Nat) (hk : k ≤ 40) (h1 : 0 ≤ x) (h2 : x < 1099511627776) (h3 : 0 ≤ y) (h4 : y < 2 ^ k) (hx : x % 2 ^ k = 0) :
    (((BitVec.ofInt 64 x ||| BitVec.ofInt 64 y).toNat : Nat) : Int) = x + y := by
  obtain ⟨a, rfl⟩ := Int.eq_ofNat_of_zero_le h1
  obtain ⟨b, rfl⟩ := Int.eq_ofNat_of_zero_le h3
  have hp : (2 : Nat) ^ k ≤ 2 ^ 40 := Nat.pow_le_pow_right (by omega) hk
  have e1 : (2 : Int) ^ k = ((2 ^ k : Nat) : Int) := by rw [Int.natCast_pow]; rfl
  rw [e1] at h4 hx
  have hb : b < 2 ^ k := by exact_mod_cast h4
  have ha : a % 2 ^ k = 0 := by exact_mod_cast hx
  have ha' : a < 1099511627776 := by omega
  have q0 : ∀ c : Nat, c < 18446744073709551616 → (BitVec.ofInt 64 (c : Int)).toNat = c := by
    intro c hc
    rw [BitVec.toNat_ofInt]
    show ((c : Int) % (18446744073709551616 : Nat)).toNat = c
    omega
  have q1 := q0 a (by omega)
  have q2 := q0 b (by omega)
  rw [BitVec.toNat_or, q1, q2]
  have : a ||| b = a + b := by
    obtain ⟨c, rfl⟩ := Nat.dvd_of_mod_eq_zero ha
    exact (Nat.two_pow_add_eq_or_of_lt hb c).symm
  rw [this]
  simp

def Bytes (bs : List Int) : Prop := ∀ x ∈ bs, 0 ≤ x ∧ x ≤ 255

theorem Bytes.get {bs : List Int} (h : Bytes bs) (i : Nat) : 0 ≤ getI bs i ∧ getI bs i ≤ 255 := by
  unfold getI
  rw [List.getD_eq_getElem?_getD]
  cases hi : bs[i]? with
  | none => simp
  | some x => simpa using h x (List.mem_of_getElem? hi)

theorem getI_td {bs : List Int} {o m i : Nat} (h : i < m) : getI (List.take m (List.drop o bs)) i = getI bs (o + i) := by
  unfold getI
  simp [List.getD_eq_getElem?_getD, List.getElem?_take, h]

theorem inR_nat {i n : Nat} (h : i < n) : inR (i : Int) n = true := by
  unfold inR
  simp
  exact h

/-- A frame's head. -/
def ftick (bs : List Int) (o : Nat) : Int := getI bs o * 16777216 + getI bs (o + 1) * 65536 + getI bs (o + 2) * 256 + getI bs (o + 3)
def flen (bs : List Int) (o : Nat) : Int := getI bs (o + 6) * 256 + getI bs (o + 7)
def capAt (bs : List Int) (o : Nat) : AV := .agg [.int .i64 (ftick bs o), .int .i64 (getI bs (o + 4)), .bool (getI bs (o + 5) == 1), .fs .u8 (List.take (flen bs o).toNat (List.drop (o + 8) bs))]

def rdStep (bs : List Int) (k : List AV → Nat → Option (Nat × List AV)) (caps : List AV) (o : Nat) : Option (Nat × List AV) :=
  if o < bs.length then
    if bs.length - o < 8 then some (1, [.fv capS [], .int .i64 204, .int .i64 o])
    else if getI bs (o + 5) > 1 then some (1, [.fv capS [], .int .i64 204, .int .i64 (o + 5 : Nat)])
    else if bs.length < o + 8 + (flen bs o).toNat then some (1, [.fv capS [], .int .i64 204, .int .i64 o])
    else k (caps ++ [capAt bs o]) (o + 8 + (flen bs o).toNat)
  else some (0, [.fv capS caps])

theorem flen_b {bs : List Int} (h : Bytes bs) (o : Nat) : 0 ≤ flen bs o ∧ flen bs o ≤ 65535 := by
  have h1 := h.get (o + 6)
  have h2 := h.get (o + 7)
  unfold flen
  omega
theorem ftick_b {bs : List Int} (h : Bytes bs) (o : Nat) : 0 ≤ ftick bs o ∧ ftick bs o ≤ 4294967295 := by
  have h0 := h.get o
  have h1 := h.get (o + 1)
  have h2 := h.get (o + 2)
  have h3 := h.get (o + 3)
  unfold ftick
  omega

theorem fits_8 : (2 : Nat) ^ min (Int.toNat 8) IntKind.i64.bits = 256 := by decide
theorem fits_16 : (2 : Nat) ^ min (Int.toNat 16) IntKind.i64.bits = 65536 := by decide
theorem fits_24 : (2 : Nat) ^ min (Int.toNat 24) IntKind.i64.bits = 16777216 := by decide
theorem dT {p : Prop} [Decidable p] (h : p) : decide p = true := decide_eq_true h
theorem dF {p : Prop} [Decidable p] (h : ¬ p) : decide p = false := decide_eq_false h
theorem brO_t {R : Type} (x y : Option R) : brO true x y = x := rfl
theorem brO_f {R : Type} (x y : Option R) : brO false x y = y := rfl
theorem bT {a b : Nat} (h : a ≤ b) : Nat.ble a b = true := Nat.ble_eq_true_of_le h

theorem st7_rd {bs : List Int} (hb : Bytes bs) (hL : bs.length ≤ 1048576) {caps : List AV} (hc : caps.length ≤ 1048576) {o : Nat} (ho : o ≤ bs.length) (n : Nat) (k : Knt) :
    st7 n k bs caps o = rdStep bs (fun caps o => k [.fs .u8 bs, .fv capS caps, .int .i64 o]) caps o := by
  rw [step7]
  unfold rdStep
  simp only [Int.ofNat_eq_natCast, fits_8, fits_16, fits_24]
  by_cases h1 : o < bs.length
  · have e1 : IntKind.wrap .i64 ((bs.length : Int) - o) = ((bs.length - o : Nat) : Int) := by
      rw [W_id (by omega) (by omega)]; omega
    rw [if_pos h1]
    simp only [dT (show (o : Int) < (bs.length : Int) by omega), brO_t, e1]
    by_cases h2 : bs.length - o < 8
    · rw [if_pos h2]
      simp only [dT (show ((bs.length - o : Nat) : Int) < 8 by omega), brO_t]
      rfl
    · rw [if_neg h2]
      simp only [dF (show ¬ ((bs.length - o : Nat) : Int) < 8 by omega), brO_f]
      have e2 : IntKind.wrap .i64 ((o : Int) + 8) = ((o + 8 : Nat) : Int) := by
        rw [W_id (by omega) (by omega)]; omega
      have e3 : IntKind.wrap .i64 ((o : Int) + 5) = ((o + 5 : Nat) : Int) := by
        rw [W_id (by omega) (by omega)]; omega
      have l8 : (List.take 8 (List.drop o bs)).length = 8 := by simp; omega
      have g0 := hb.get o
      have g1 := hb.get (o + 1)
      have g2 := hb.get (o + 2)
      have g3 := hb.get (o + 3)
      have g4 := hb.get (o + 4)
      have g5 := hb.get (o + 5)
      have g6 := hb.get (o + 6)
      have g7 := hb.get (o + 7)
      have t0 : getI (List.take 8 (List.drop o bs)) 0 = getI bs o := getI_td (by omega)
      have t1 : getI (List.take 8 (List.drop o bs)) 1 = getI bs (o + 1) := getI_td (by omega)
      have t2 : getI (List.take 8 (List.drop o bs)) 2 = getI bs (o + 2) := getI_td (by omega)
      have t3 : getI (List.take 8 (List.drop o bs)) 3 = getI bs (o + 3) := getI_td (by omega)
      have t4 : getI (List.take 8 (List.drop o bs)) 4 = getI bs (o + 4) := getI_td (by omega)
      have t5 : getI (List.take 8 (List.drop o bs)) 5 = getI bs (o + 5) := getI_td (by omega)
      have t6 : getI (List.take 8 (List.drop o bs)) 6 = getI bs (o + 6) := getI_td (by omega)
      have t7 : getI (List.take 8 (List.drop o bs)) 7 = getI bs (o + 7) := getI_td (by omega)
      simp only [e2, e3, Int.toNat_natCast, Nat.add_sub_cancel_left, l8, t0, t1, t2, t3, t4, t5, t6, t7, show inR 0 8 = true from rfl, show inR 1 8 = true from rfl, show inR 2 8 = true from rfl, show inR 3 8 = true from rfl, show inR 4 8 = true from rfl, show inR 5 8 = true from rfl, show inR 6 8 = true from rfl, show inR 7 8 = true from rfl]
      simp only [dT (show (0 : Int) ≤ o by omega), dT (show (o : Int) ≤ ((o + 8 : Nat) : Int) by omega), dT (show ((o + 8 : Nat) : Int) ≤ (bs.length : Int) by omega), dT (show (bs.length : Int) ≤ (bs.length : Int) by omega), Bool.true_and, brO_t]
      by_cases h3 : getI bs (o + 5) > 1
      · rw [if_pos h3]
        simp only [dT h3, brO_t]
        rfl
      · rw [if_neg h3]
        simp only [dF h3, brO_t, brO_f]
        have f1 : IntKind.wrap .i64 (IntKind.wrap .i64 (IntKind.wrap .i64 (getI bs (o + 6)) * ((256 : Nat) : Int)) + IntKind.wrap .i64 (getI bs (o + 7))) = flen bs o := by
          unfold flen
          rw [W_id (x := getI bs (o + 6)) (by omega) (by omega), W_id (x := getI bs (o + 7)) (by omega) (by omega), W_id (x := getI bs (o + 6) * ((256 : Nat) : Int)) (by omega) (by omega), W_id (by omega) (by omega)]
          omega
        have hf := flen_b hb o
        have e4 : IntKind.wrap .i64 (((bs.length - o : Nat) : Int) - 8) = ((bs.length - o - 8 : Nat) : Int) := by
          rw [W_id (by omega) (by omega)]; omega
        have e5 : IntKind.wrap .i64 (((o + 8 : Nat) : Int) + flen bs o) = ((o + 8 + (flen bs o).toNat : Nat) : Int) := by
          rw [W_id (by omega) (by omega)]; omega
        simp only [f1, e4, e5]
        by_cases h4 : bs.length < o + 8 + (flen bs o).toNat
        · rw [if_pos h4]
          simp only [dT (show ((bs.length - o - 8 : Nat) : Int) < flen bs o by omega), brO_t]
          rfl
        · rw [if_neg h4]
          simp only [dF (show ¬ ((bs.length - o - 8 : Nat) : Int) < flen bs o by omega), brO_f]
          have f2 : IntKind.wrap .i64 (IntKind.wrap .i64 (IntKind.wrap .i64 (IntKind.wrap .i64 (IntKind.wrap .i64 (getI bs o) * ((16777216 : Nat) : Int)) + IntKind.wrap .i64 (IntKind.wrap .i64 (getI bs (o + 1)) * ((65536 : Nat) : Int))) + IntKind.wrap .i64 (IntKind.wrap .i64 (getI bs (o + 2)) * ((256 : Nat) : Int))) + IntKind.wrap .i64 (getI bs (o + 3))) = ftick bs o := by
            unfold ftick
            rw [W_id (x := getI bs o) (by omega) (by omega), W_id (x := getI bs (o + 1)) (by omega) (by omega), W_id (x := getI bs (o + 2)) (by omega) (by omega), W_id (x := getI bs (o + 3)) (by omega) (by omega),
              W_id (x := getI bs o * ((16777216 : Nat) : Int)) (by omega) (by omega), W_id (x := getI bs (o + 1) * ((65536 : Nat) : Int)) (by omega) (by omega), W_id (x := getI bs (o + 2) * ((256 : Nat) : Int)) (by omega) (by omega)]
            rw [W_id (x := getI bs o * ((16777216 : Nat) : Int) + getI bs (o + 1) * ((65536 : Nat) : Int)) (by omega) (by omega)]
            rw [W_id (x := getI bs o * ((16777216 : Nat) : Int) + getI bs (o + 1) * ((65536 : Nat) : Int) + getI bs (o + 2) * ((256 : Nat) : Int)) (by omega) (by omega)]
            rw [W_id (by omega) (by omega)]
            omega
          have f3 : IntKind.wrap .i64 (getI bs (o + 4)) = getI bs (o + 4) := W_id (by omega) (by omega)
          simp only [f2, f3, Int.toNat_natCast, Nat.add_sub_cancel_left, List.length_singleton]
          have l9 : (List.take ((o + 8 + (flen bs o).toNat) - (o + 8)) (List.drop (o + 8) bs)).length ≤ 1048576 := by simp; omega
          have e6 : o + 8 + (flen bs o).toNat - (o + 8) = (flen bs o).toNat := by omega
          simp only [e6] at l9 ⊢
          simp only [dT (show (0 : Int) ≤ ((o + 8 : Nat) : Int) by omega), dT (show ((o + 8 : Nat) : Int) ≤ ((o + 8 + (flen bs o).toNat : Nat) : Int) by omega), dT (show ((o + 8 + (flen bs o).toNat : Nat) : Int) ≤ (bs.length : Int) by omega), bT (show (0 + (List.take (flen bs o).toNat (List.drop (o + 8) bs)).length) * 1 ≤ 140737488355328 by omega), bT (show (caps.length + 1) * 48 ≤ 140737488355328 by omega), Bool.true_and, brO_t]
          rfl
  · rw [if_neg h1]
    simp only [dF (show ¬ (o : Int) < (bs.length : Int) by omega), brO_f]
    rfl
end Go.Proofs.Ytjhbpadplglnlaa.Am
