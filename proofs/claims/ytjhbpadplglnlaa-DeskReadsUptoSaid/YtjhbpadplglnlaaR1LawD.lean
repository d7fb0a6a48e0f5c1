/-
  DeskReads: the plain law.
-/
import Derived.Test.YtjhbpadplglnlaaR1LawC
set_option linter.unusedVariables false
set_option linter.unusedSimpArgs false
namespace Go.Proofs.Ytjhbpadplglnlaa.Am
open Go Go.Am Go.Proofs

def magic : List Int := [87, 69, 73, 82, 67, 65, 80, 49]
def magicU : List UInt8 := [87, 69, 73, 82, 67, 65, 80, 49]

/-- How a reader ends. -/
def Ends (bs : List Int) (r : Option (List AV)) (caps : List AV) (no off : Int) : Prop := r = some [.fv capS caps, .int .i64 no, .int .i64 off]
def EndsOk (bs : List Int) (caps : List AV) (no : Int) : Prop := caps.length ≤ bs.length ∧ (no = 0 → (∀ c ∈ caps, GoodC c) ∧ (encA caps).length ≤ bs.length ∧ bs.map toU8 = (magic ++ encA caps).map toU8)

theorem encA_len : ∀ (cs : List AV), cs.length ≤ (encA cs).length
  | [] => Nat.le_refl _
  | c :: r => by
    have := encA_len r
    have := encC_len c
    simp only [encA, List.length_append, List.length_cons]
    omega

theorem readers {bs : List Int} (hb : Bytes bs) (hL : bs.length ≤ 1048576) {n : Nat} (hn : bs.length < n) : ∃ caps no off, Ends bs (run6 F15 n bs) caps no off ∧ Ends bs (run7 n bs) caps no off ∧ EndsOk bs caps no := by
  by_cases h8 : bs.length < 8
  · refine ⟨[], 204, 0, ?_, ?_, Nat.zero_le _, fun h => by cases h⟩
    · unfold Ends
      rw [eq6]
      simp only [Int.ofNat_eq_natCast, dT (show (bs.length : Int) < 8 by omega), brO_t]
      rfl
    · unfold Ends
      rw [eq7]
      simp only [Int.ofNat_eq_natCast, dT (show (bs.length : Int) < 8 by omega), brO_t]
      rfl
  · by_cases hmag : (List.map toU8 (List.take 8 (List.drop 0 bs)) == magicU) = true
    · have r6 := lp6_rd hb hL n n [] 8 (by omega) (by simp)
      have r7 := lp7_rd hb hL n n [] 8 (by omega) (by simp)
      have e6 : run6 F15 n bs = (rd bs n [] 8).bind fun r0 => brO (Nat.beq r0.fst 0) (some [.fv capS (AV.toElems (List.headD r0.snd .undef)), .int .i64 0, .int .i64 0])
          (brO (Nat.beq r0.fst 1) (some [.fv capS (AV.toElems (List.headD r0.snd .undef)), .int .i64 (AV.toInt (List.headD (List.tail r0.snd) .undef)), .int .i64 (AV.toInt (List.headD (List.tail (List.tail r0.snd)) .undef))]) none) := by
        rw [eq6]
        simp only [Int.ofNat_eq_natCast, dF (show ¬ (bs.length : Int) < 8 by omega), dT (show (8 : Int) ≤ bs.length by omega), dT (show (bs.length : Int) ≤ bs.length by omega), Bool.true_and, brO_f, brO_t]
        rw [show (List.map toU8 (List.take 8 (List.drop 0 bs)) == [87, 69, 73, 82, 67, 65, 80, 49]) = true from hmag]
        simp only [Bool.not_true, brO_f]
        rw [← r6]
        rfl
      have e7 : run7 n bs = (rd bs n [] 8).bind fun r0 => brO (Nat.beq r0.fst 0) (some [.fv capS (AV.toElems (List.headD r0.snd .undef)), .int .i64 0, .int .i64 0])
          (brO (Nat.beq r0.fst 1) (some [.fv capS (AV.toElems (List.headD r0.snd .undef)), .int .i64 (AV.toInt (List.headD (List.tail r0.snd) .undef)), .int .i64 (AV.toInt (List.headD (List.tail (List.tail r0.snd)) .undef))]) none) := by
        rw [eq7]
        simp only [Int.ofNat_eq_natCast, dF (show ¬ (bs.length : Int) < 8 by omega), dT (show (8 : Int) ≤ bs.length by omega), dT (show (bs.length : Int) ≤ bs.length by omega), Bool.true_and, brO_f, brO_t]
        rw [show (List.map toU8 (List.take 8 (List.drop 0 bs)) == [87, 69, 73, 82, 67, 65, 80, 49]) = true from hmag]
        simp only [Bool.not_true, brO_f]
        rw [← r7]
        rfl
      rcases rd_res hb n [] 8 (by omega) (by omega) with ⟨x, hx⟩ | ⟨cs, h1, h2, h3⟩
      · refine ⟨[], 204, x, ?_, ?_, Nat.zero_le _, fun h => by cases h⟩
        · unfold Ends; rw [e6, hx]; rfl
        · unfold Ends; rw [e7, hx]; rfl
      · have hlen : (encA cs).length = bs.length - 8 := by rw [← h3, List.length_drop]
        refine ⟨cs, 0, 0, ?_, ?_, ?_, fun _ => ⟨h2, by omega, ?_⟩⟩
        · unfold Ends; rw [e6, h1]; rfl
        · unfold Ends; rw [e7, h1]; rfl
        · have := encA_len cs
          omega
        · rw [List.map_append, ← h3]
          have hm := beq_iff_eq.1 hmag
          rw [List.drop_zero] at hm
          conv => lhs; rw [← List.take_append_drop 8 bs, List.map_append, hm]
          rfl
    · have hmag : (List.map toU8 (List.take 8 (List.drop 0 bs)) == magicU) = false := by simpa using hmag
      refine ⟨[], 204, 0, ?_, ?_, Nat.zero_le _, fun h => by cases h⟩
      · unfold Ends
        rw [eq6]
        simp only [Int.ofNat_eq_natCast, dF (show ¬ (bs.length : Int) < 8 by omega), dT (show (8 : Int) ≤ bs.length by omega), dT (show (bs.length : Int) ≤ bs.length by omega), Bool.true_and, brO_f, brO_t]
        rw [show (List.map toU8 (List.take 8 (List.drop 0 bs)) == [87, 69, 73, 82, 67, 65, 80, 49]) = false from hmag]
        rfl
      · unfold Ends
        rw [eq7]
        simp only [Int.ofNat_eq_natCast, dF (show ¬ (bs.length : Int) < 8 by omega), dT (show (8 : Int) ≤ bs.length by omega), dT (show (bs.length : Int) ≤ bs.length by omega), Bool.true_and, brO_f, brO_t]
        rw [show (List.map toU8 (List.take 8 (List.drop 0 bs)) == [87, 69, 73, 82, 67, 65, 80, 49]) = false from hmag]
        rfl

noncomputable def G6 : Fun := D6.run Try.prog glob0 (cal6 F15) H6
noncomputable def G7 : Fun := D7.run Try.prog glob0 cal7 H7
noncomputable def G8 : Fun := D8.run Try.prog glob0 cal7 H8
noncomputable def G9 : Fun := D9.run Try.prog glob0 cal7 H9

theorem law3 {bs : List Int} (hb : Bytes bs) (hL : bs.length ≤ 1048576) {n : Nat} (hn : bs.length < n) : run3 G6 G7 G8 G9 n bs = some [.bool true] := by
  obtain ⟨caps, no, off, h6, h7, hc, hok⟩ := readers hb hL hn
  have h6 : G6 n [.fs .u8 bs] = some [.fv capS caps, .int .i64 no, .int .i64 off] := h6
  have h7 : G7 n [.fs .u8 bs] = some [.fv capS caps, .int .i64 no, .int .i64 off] := h7
  have h8 : G8 n [.fv capS caps, .fv capS caps] = some [.bool true] := run8_same (by omega) (by omega)
  rw [eq3]
  have el : (bs ++ [(109 : Int), 97, 114, 107]).length = bs.length + 4 := by simp
  have et : List.take (bs.length - 0) (List.drop 0 (bs ++ [(109 : Int), 97, 114, 107])) = bs := by simp
  simp only [Int.ofNat_eq_natCast, Int.toNat_natCast, el, et]
  rw [bT (show (0 + bs.length) * 1 ≤ 140737488355328 by omega), bT (show (bs.length + 4) * 1 ≤ 140737488355328 by omega), bT (show 0 + (bs.length - 0) ≤ bs.length + 4 by omega)]
  simp only [brO_t, dT (show (0 : Int) ≤ (bs.length : Int) by omega), dT (show ((0 : Nat) : Int) ≤ (bs.length : Int) by omega), dT (show (bs.length : Int) ≤ ((bs.length + 4 : Nat) : Int) by omega), dT (show ((bs.length + 4 : Nat) : Int) ≤ ((bs.length + 4 : Nat) : Int) by omega), Bool.true_and]
  rw [h6]
  simp only [Option.bind_some]
  rw [h7]
  simp only [Option.bind_some, List.tail_cons, List.headD_cons, AV.toInt, AV.toElems, bne_self_eq_false, brO_f]
  rw [show (G8 n [.fv (.agg [.int .i64, .int .i64, .bool, .fs .u8]) caps, .fv (.agg [.int .i64, .int .i64, .bool, .fs .u8]) caps]) = _ from h8]
  simp only [Option.bind_some, List.headD_cons, AV.toBool, Bool.not_true, brO_f]
  rw [bT (show (List.map toU8 bs).length + 4 ≤ 140737488355328 by rw [List.length_map]; omega), brO_t]
  rw [show (List.map toU8 (bs ++ [(109 : Int), 97, 114, 107]) == List.map toU8 bs ++ [109, 97, 114, 107]) = true by rw [List.map_append]; exact beq_self_eq_true _]
  simp only [Bool.not_true, brO_f]
  by_cases h0 : no = 0
  · subst h0
    obtain ⟨k1, k2, k3⟩ := hok rfl
    have h9 : G9 n [.fv capS caps] = some [.fs .u8 (magic ++ encA caps), .int .i64 0] := run9_ok (by omega) k1 (by omega) (by omega)
    simp only [bne_self_eq_false, brO_f]
    rw [show (G9 n [.fv (.agg [.int .i64, .int .i64, .bool, .fs .u8]) caps]) = _ from h9]
    simp only [Option.bind_some, List.tail_cons, List.headD_cons, AV.toInt, AV.toInts, beq_self_eq_true, brO_t, k3]
  · have : (no != 0) = true := by simpa using h0
    rw [this, brO_t]
end Go.Proofs.Ytjhbpadplglnlaa.Am
