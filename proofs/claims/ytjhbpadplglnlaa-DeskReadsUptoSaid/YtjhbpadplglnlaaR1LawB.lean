/-
  The desk's own reader: the same plain step.
-/
import Derived.Test.YtjhbpadplglnlaaR1LawA
import Derived.Test.YtjhbpadplglnlaaR1Clone
set_option linter.unusedVariables false
set_option linter.unusedSimpArgs false
namespace Go.Proofs.Ytjhbpadplglnlaa.Am
open Go Go.Am Go.Proofs

theorem F15_ok {xs : List Int} (h : xs.length ≤ 140737488355328) (n : Nat) : F15 n [.fs .u8 xs] = some [.fs .u8 xs] := by
  unfold F15
  simp only [bT h]

theorem st6_rd {bs : List Int} (hb : Bytes bs) (hL : bs.length ≤ 1048576) {caps : List AV} (hc : caps.length ≤ 1048576) {o : Nat} (ho : o ≤ bs.length) (n : Nat) (k : Knt) :
    st6 F15 n k bs caps o = rdStep bs (fun caps o => k [.fs .u8 bs, .fv capS caps, .int .i64 o]) caps o := by
  rw [step6]
  unfold rdStep
  have tl : List.take (bs.length - o) (List.drop o bs) = List.drop o bs := List.take_of_length_le (by simp)
  simp only [Int.ofNat_eq_natCast, fits_8, fits_16, fits_24, Int.toNat_natCast, tl]
  by_cases h1 : o < bs.length
  · rw [if_pos h1]
    have l8 : (List.drop o bs).length = bs.length - o := by simp
    simp only [dT (show (o : Int) < (bs.length : Int) by omega), brO_t, l8]
    simp only [dT (show (0 : Int) ≤ o by omega), dT (show (o : Int) ≤ (bs.length : Int) by omega), dT (show (bs.length : Int) ≤ (bs.length : Int) by omega), Bool.true_and, brO_t]
    by_cases h2 : bs.length - o < 8
    · rw [if_pos h2]
      simp only [dT (show ((bs.length - o : Nat) : Int) < 8 by omega), brO_t]
      rfl
    · rw [if_neg h2]
      simp only [dF (show ¬ ((bs.length - o : Nat) : Int) < 8 by omega), brO_f]
      have g0 := hb.get o
      have g1 := hb.get (o + 1)
      have g2 := hb.get (o + 2)
      have g3 := hb.get (o + 3)
      have g4 := hb.get (o + 4)
      have g5 := hb.get (o + 5)
      have g6 := hb.get (o + 6)
      have g7 := hb.get (o + 7)
      have td : ∀ i, getI (List.drop o bs) i = getI bs (o + i) := fun i => by unfold getI; simp [List.getD_eq_getElem?_getD]
      have i0 : inR 0 (bs.length - o) = true := inR_nat (i := 0) (by omega)
      have i1 : inR 1 (bs.length - o) = true := inR_nat (i := 1) (by omega)
      have i2 : inR 2 (bs.length - o) = true := inR_nat (i := 2) (by omega)
      have i3 : inR 3 (bs.length - o) = true := inR_nat (i := 3) (by omega)
      have i4 : inR 4 (bs.length - o) = true := inR_nat (i := 4) (by omega)
      have i5 : inR 5 (bs.length - o) = true := inR_nat (i := 5) (by omega)
      have i6 : inR 6 (bs.length - o) = true := inR_nat (i := 6) (by omega)
      have i7 : inR 7 (bs.length - o) = true := inR_nat (i := 7) (by omega)
      have e3 : IntKind.wrap .i64 ((o : Int) + 5) = ((o + 5 : Nat) : Int) := by
        rw [W_id (by omega) (by omega)]; omega
      simp only [td, i0, i1, i2, i3, i4, i5, i6, i7, brO_t, e3, Nat.add_zero]
      by_cases h3 : getI bs (o + 5) > 1
      · rw [if_pos h3]
        simp only [dT h3, brO_t]
        rfl
      · rw [if_neg h3]
        simp only [dF h3, brO_t, brO_f]
        have hf := flen_b hb o
        have f0 : IntKind.wrap .i64 (getI bs (o + 6)) = getI bs (o + 6) := W_id (by omega) (by omega)
        have f0' : IntKind.wrap .i64 (getI bs (o + 7)) = getI bs (o + 7) := W_id (by omega) (by omega)
        have f1 : IntKind.wrap .i64 ((BitVec.toNat (BitVec.ofInt 64 (IntKind.wrap .i64 (getI bs (o + 6) * ((256 : Nat) : Int))) ||| BitVec.ofInt 64 (getI bs (o + 7))) : Nat) : Int) = flen bs o := by
          rw [W_id (x := getI bs (o + 6) * ((256 : Nat) : Int)) (by omega) (by omega)]
          rw [or_add 8 (by omega) (by omega) (by omega) (by omega) (by omega) (by omega)]
          rw [W_id (by omega) (by omega)]
          unfold flen
          omega
        have e5 : IntKind.wrap .i64 (8 + flen bs o) = ((8 + (flen bs o).toNat : Nat) : Int) := by
          rw [W_id (by omega) (by omega)]; omega
        simp only [f0, f0', f1, e5]
        by_cases h4 : bs.length < o + 8 + (flen bs o).toNat
        · rw [if_pos h4]
          simp only [dT (show ((bs.length - o : Nat) : Int) < ((8 + (flen bs o).toNat : Nat) : Int) by omega), brO_t]
          rfl
        · rw [if_neg h4]
          simp only [dF (show ¬ ((bs.length - o : Nat) : Int) < ((8 + (flen bs o).toNat : Nat) : Int) by omega), brO_f]
          have w0 : IntKind.wrap .i64 (getI bs o) = getI bs o := W_id (by omega) (by omega)
          have w1 : IntKind.wrap .i64 (getI bs (o + 1)) = getI bs (o + 1) := W_id (by omega) (by omega)
          have w2 : IntKind.wrap .i64 (getI bs (o + 2)) = getI bs (o + 2) := W_id (by omega) (by omega)
          have w3 : IntKind.wrap .i64 (getI bs (o + 3)) = getI bs (o + 3) := W_id (by omega) (by omega)
          have w4 : IntKind.wrap .i64 (getI bs (o + 4)) = getI bs (o + 4) := W_id (by omega) (by omega)
          have m0 : IntKind.wrap .i64 (getI bs o * ((16777216 : Nat) : Int)) = getI bs o * 16777216 := by rw [W_id (by omega) (by omega)]; omega
          have m1 : IntKind.wrap .i64 (getI bs (o + 1) * ((65536 : Nat) : Int)) = getI bs (o + 1) * 65536 := by rw [W_id (by omega) (by omega)]; omega
          have m2 : IntKind.wrap .i64 (getI bs (o + 2) * ((256 : Nat) : Int)) = getI bs (o + 2) * 256 := by rw [W_id (by omega) (by omega)]; omega
          have a1 : ((BitVec.toNat (BitVec.ofInt 64 (getI bs o * 16777216) ||| BitVec.ofInt 64 (getI bs (o + 1) * 65536)) : Nat) : Int) = getI bs o * 16777216 + getI bs (o + 1) * 65536 := or_add 24 (by omega) (by omega) (by omega) (by omega) (by omega) (by omega)
          have b1 : IntKind.wrap .i64 (getI bs o * 16777216 + getI bs (o + 1) * 65536) = getI bs o * 16777216 + getI bs (o + 1) * 65536 := W_id (by omega) (by omega)
          have a2 : ((BitVec.toNat (BitVec.ofInt 64 (getI bs o * 16777216 + getI bs (o + 1) * 65536) ||| BitVec.ofInt 64 (getI bs (o + 2) * 256)) : Nat) : Int) = getI bs o * 16777216 + getI bs (o + 1) * 65536 + getI bs (o + 2) * 256 := or_add 16 (by omega) (by omega) (by omega) (by omega) (by omega) (by omega)
          have b2 : IntKind.wrap .i64 (getI bs o * 16777216 + getI bs (o + 1) * 65536 + getI bs (o + 2) * 256) = getI bs o * 16777216 + getI bs (o + 1) * 65536 + getI bs (o + 2) * 256 := W_id (by omega) (by omega)
          have a3 : ((BitVec.toNat (BitVec.ofInt 64 (getI bs o * 16777216 + getI bs (o + 1) * 65536 + getI bs (o + 2) * 256) ||| BitVec.ofInt 64 (getI bs (o + 3))) : Nat) : Int) = ftick bs o := by
            rw [or_add 8 (by omega) (by omega) (by omega) (by omega) (by omega) (by omega)]
            rfl
          have ht := ftick_b hb o
          have b3 : IntKind.wrap .i64 (ftick bs o) = ftick bs o := W_id (by omega) (by omega)
          have e6 : 8 + (flen bs o).toNat - 8 = (flen bs o).toNat := by omega
          have e7 : IntKind.wrap .i64 ((o : Int) + ((8 + (flen bs o).toNat : Nat) : Int)) = ((o + 8 + (flen bs o).toNat : Nat) : Int) := by
            rw [W_id (by omega) (by omega)]; omega
          have e8 : List.drop 8 (List.drop o bs) = List.drop (o + 8) bs := by rw [List.drop_drop]
          simp only [w0, w1, w2, w3, w4, m0, m1, m2, a1, b1, a2, b2, a3, b3, Int.toNat_natCast, e6, e7, e8, List.length_singleton]
          simp only [dT (show (8 : Int) ≤ ((8 + (flen bs o).toNat : Nat) : Int) by omega), dT (show ((8 + (flen bs o).toNat : Nat) : Int) ≤ ((bs.length - o : Nat) : Int) by omega), dT (show ((bs.length - o : Nat) : Int) ≤ ((bs.length - o : Nat) : Int) by omega), Bool.true_and, brO_t]
          have l9 : (List.take (flen bs o).toNat (List.drop (o + 8) bs)).length ≤ 140737488355328 := by simp; omega
          rw [F15_ok l9]
          simp only [Option.bind_some, bT (show (caps.length + 1) * 48 ≤ 140737488355328 by omega), brO_t]
          rfl
  · rw [if_neg h1]
    simp only [dF (show ¬ (o : Int) < (bs.length : Int) by omega), brO_f]
    rfl
end Go.Proofs.Ytjhbpadplglnlaa.Am
