/-
  The desk's readers and writer, loop and all: plain laws.
-/
import Derived.Test.YtjhbpadplglnlaaR1LawB
set_option linter.unusedVariables false
set_option linter.unusedSimpArgs false
namespace Go.Proofs.Ytjhbpadplglnlaa.Am
open Go Go.Am Go.Proofs

def rd (bs : List Int) : Nat → List AV → Nat → Option (Nat × List AV)
  | 0, _, _ => none
  | f + 1, caps, o => rdStep bs (rd bs f) caps o

theorem rdStep_congr {bs : List Int} {k k' : List AV → Nat → Option (Nat × List AV)} {caps : List AV} {o : Nat}
    (h : o + 8 + (flen bs o).toNat ≤ bs.length → k (caps ++ [capAt bs o]) (o + 8 + (flen bs o).toNat) = k' (caps ++ [capAt bs o]) (o + 8 + (flen bs o).toNat)) : rdStep bs k caps o = rdStep bs k' caps o := by
  unfold rdStep
  split
  · split
    · rfl
    · split
      · rfl
      · split
        · rfl
        · exact h (by omega)
  · rfl

theorem lp7_succ (n f : Nat) (bs : List Int) (caps : List AV) (off : Int) : lp7 n (f + 1) [.fs .u8 bs, .fv capS caps, .int .i64 off] = st7 n (lp7 n f) bs caps off := by kernel_rfl
theorem lp6_succ (F15 : Fun) (n f : Nat) (bs : List Int) (caps : List AV) (off : Int) : lp6 F15 n (f + 1) [.fs .u8 bs, .fv capS caps, .int .i64 off] = st6 F15 n (lp6 F15 n f) bs caps off := by kernel_rfl
theorem lp8_succ (n f : Nat) (xs ys : List AV) (i : Int) : lp8 n (f + 1) [.fv capS xs, .fv capS ys, .int .i64 i] = st8 n (lp8 n f) xs ys i := by kernel_rfl
theorem lp9_succ (n f : Nat) (out : List Int) (xs : List AV) (len i : Int) : lp9 n (f + 1) [.fs .u8 out, .fv capS xs, .int .i64 len, .int .i64 i] = st9 n (lp9 n f) out xs len i := by kernel_rfl

theorem lp7_rd {bs : List Int} (hb : Bytes bs) (hL : bs.length ≤ 1048576) (n : Nat) : ∀ (f : Nat) (caps : List AV) (o : Nat), o ≤ bs.length → caps.length ≤ o → lp7 n f [.fs .u8 bs, .fv capS caps, .int .i64 o] = rd bs f caps o
  | 0, caps, o, ho, hc => rfl
  | f + 1, caps, o, ho, hc => by
    rw [lp7_succ, st7_rd hb hL (by omega) ho]
    exact rdStep_congr (fun h => lp7_rd hb hL n f _ _ h (by simp; omega))

theorem lp6_rd {bs : List Int} (hb : Bytes bs) (hL : bs.length ≤ 1048576) (n : Nat) : ∀ (f : Nat) (caps : List AV) (o : Nat), o ≤ bs.length → caps.length ≤ o → lp6 F15 n f [.fs .u8 bs, .fv capS caps, .int .i64 o] = rd bs f caps o
  | 0, caps, o, ho, hc => rfl
  | f + 1, caps, o, ho, hc => by
    rw [lp6_succ, st6_rd hb hL (by omega) ho]
    exact rdStep_congr (fun h => lp6_rd hb hL n f _ _ h (by simp; omega))

/-- What the writer makes of one. -/
def encC (c : AV) : List Int :=
  [IntKind.wrap .u8 ((c.item 0).toInt.fdiv 16777216), IntKind.wrap .u8 ((c.item 0).toInt.fdiv 65536), IntKind.wrap .u8 ((c.item 0).toInt.fdiv 256), IntKind.wrap .u8 (c.item 0).toInt, IntKind.wrap .u8 (c.item 1).toInt,
    (if (c.item 2).toBool then 1 else 0), IntKind.wrap .u8 (((c.item 3).toInts.length : Int).fdiv 256), IntKind.wrap .u8 ((c.item 3).toInts.length : Int)] ++ (c.item 3).toInts
def encA : List AV → List Int
  | [] => []
  | c :: r => encC c ++ encA r

def GoodC (c : AV) : Prop := 0 ≤ (c.item 0).toInt ∧ (c.item 0).toInt ≤ 4294967295 ∧ 0 ≤ (c.item 1).toInt ∧ (c.item 1).toInt ≤ 255 ∧ (c.item 3).toInts.length ≤ 65535

theorem U_mod (x : Int) : IntKind.wrap .u8 x = x % 256 := by
  show (if (false && decide (x % 256 ≥ 128)) = true then x % 256 - 256 else x % 256) = x % 256
  rw [if_neg (by simp)]

theorem drop_get {bs : List Int} {o : Nat} (h : o < bs.length) : List.drop o bs = getI bs o :: List.drop (o + 1) bs := by
  rw [List.drop_eq_getElem_cons h]
  unfold getI
  simp [List.getD_eq_getElem?_getD, h]

theorem enc_capAt {bs : List Int} (hb : Bytes bs) {o : Nat} (h : o + 8 + (flen bs o).toNat ≤ bs.length) (h5 : ¬ getI bs (o + 5) > 1) : List.drop o bs = encC (capAt bs o) ++ List.drop (o + 8 + (flen bs o).toNat) bs := by
  have g0 := hb.get o
  have g1 := hb.get (o + 1)
  have g2 := hb.get (o + 2)
  have g3 := hb.get (o + 3)
  have g4 := hb.get (o + 4)
  have g5 := hb.get (o + 5)
  have g6 := hb.get (o + 6)
  have g7 := hb.get (o + 7)
  have hf := flen_b hb o
  have hd : List.drop o bs = [getI bs o, getI bs (o + 1), getI bs (o + 2), getI bs (o + 3), getI bs (o + 4), getI bs (o + 5), getI bs (o + 6), getI bs (o + 7)] ++ List.drop (o + 8) bs := by
    rw [drop_get (o := o) (by omega), drop_get (o := o + 1) (by omega), drop_get (o := o + 2) (by omega), drop_get (o := o + 3) (by omega), drop_get (o := o + 4) (by omega), drop_get (o := o + 5) (by omega), drop_get (o := o + 6) (by omega), drop_get (o := o + 7) (by omega)]
    rfl
  have hl : ((List.take (flen bs o).toNat (List.drop (o + 8) bs)).length : Int) = flen bs o := by
    rw [List.length_take, List.length_drop, Nat.min_eq_left (by omega)]
    omega
  have he : encC (capAt bs o) = [getI bs o, getI bs (o + 1), getI bs (o + 2), getI bs (o + 3), getI bs (o + 4), getI bs (o + 5), getI bs (o + 6), getI bs (o + 7)] ++ List.take (flen bs o).toNat (List.drop (o + 8) bs) := by
    show [IntKind.wrap .u8 ((ftick bs o).fdiv 16777216), IntKind.wrap .u8 ((ftick bs o).fdiv 65536), IntKind.wrap .u8 ((ftick bs o).fdiv 256), IntKind.wrap .u8 (ftick bs o), IntKind.wrap .u8 (getI bs (o + 4)),
      (if (getI bs (o + 5) == 1) = true then (1 : Int) else 0), IntKind.wrap .u8 (((List.take (flen bs o).toNat (List.drop (o + 8) bs)).length : Int).fdiv 256), IntKind.wrap .u8 ((List.take (flen bs o).toNat (List.drop (o + 8) bs)).length : Int)] ++ List.take (flen bs o).toNat (List.drop (o + 8) bs) = _
    rw [hl]
    have q5 : (if (getI bs (o + 5) == 1) = true then (1 : Int) else 0) = getI bs (o + 5) := by
      by_cases h1 : getI bs (o + 5) = 1
      · simp [h1]
      · have : getI bs (o + 5) = 0 := by omega
        simp [this]
    rw [q5]
    simp only [U_mod, Int.fdiv_eq_ediv_of_nonneg _ (show (0 : Int) ≤ 16777216 by omega), Int.fdiv_eq_ediv_of_nonneg _ (show (0 : Int) ≤ 65536 by omega), Int.fdiv_eq_ediv_of_nonneg _ (show (0 : Int) ≤ 256 by omega)]
    unfold ftick flen
    congr 1
    congr 1
    · omega
    congr 1
    · omega
    congr 1
    · omega
    congr 1
    · omega
    congr 1
    · omega
    congr 1
    congr 1
    · omega
    congr 1
    · omega
  rw [hd, he, List.append_assoc]
  congr 1
  have := List.take_append_drop (flen bs o).toNat (List.drop (o + 8) bs)
  rw [List.drop_drop] at this
  exact this.symm

theorem capAt_good {bs : List Int} (hb : Bytes bs) (o : Nat) : GoodC (capAt bs o) := by
  have ht := ftick_b hb o
  have h4 := hb.get (o + 4)
  have hf := flen_b hb o
  refine ⟨ht.1, ht.2, h4.1, h4.2, ?_⟩
  show (List.take (flen bs o).toNat (List.drop (o + 8) bs)).length ≤ 65535
  rw [List.length_take]
  omega

/-- How the readers end. -/
theorem rd_res {bs : List Int} (hb : Bytes bs) : ∀ (f : Nat) (caps : List AV) (o : Nat), o ≤ bs.length → bs.length - o < f →
    (∃ x : Int, rd bs f caps o = some (1, [.fv capS [], .int .i64 204, .int .i64 x])) ∨
    ∃ cs, rd bs f caps o = some (0, [.fv capS (caps ++ cs)]) ∧ (∀ c ∈ cs, GoodC c) ∧ List.drop o bs = encA cs
  | 0, caps, o, ho, hf => by omega
  | f + 1, caps, o, ho, hf => by
    show (∃ x : Int, rdStep bs (rd bs f) caps o = _) ∨ _
    have hr : rd bs (f + 1) caps o = rdStep bs (rd bs f) caps o := rfl
    rw [hr]
    unfold rdStep
    split
    · split
      · exact .inl ⟨_, rfl⟩
      · split
        · exact .inl ⟨_, rfl⟩
        · split
          · exact .inl ⟨_, rfl⟩
          · rename_i h5 h6
            have hlen : o + 8 + (flen bs o).toNat ≤ bs.length := by omega
            rcases rd_res hb f (caps ++ [capAt bs o]) (o + 8 + (flen bs o).toNat) hlen (by omega) with ⟨x, hx⟩ | ⟨cs, h1, h2, h3⟩
            · exact .inl ⟨x, hx⟩
            · refine .inr ⟨capAt bs o :: cs, by rw [h1, List.append_assoc]; rfl, fun c hc => ?_, ?_⟩
              · rcases List.mem_cons.1 hc with rfl | hc
                · exact capAt_good hb o
                · exact h2 c hc
              · rw [enc_capAt hb hlen h5, h3]
                rfl
    · refine .inr ⟨[], by simp, by simp, ?_⟩
      rw [List.drop_of_length_le (by omega)]
      rfl

/-! The writer. -/
theorem encC_len (c : AV) : (encC c).length = 8 + (c.item 3).toInts.length := by
  unfold encC
  rw [List.length_append]
  rfl

theorem st9_wr {xs : List AV} {i : Nat} (hi : i < xs.length) (hx : xs.length ≤ 1048576) (hg : GoodC (getE xs i)) {out : List Int} (ho : out.length ≤ 1099511627776) (n : Nat) (k : Knt) :
    st9 n k out xs xs.length i = k [.fs .u8 (out ++ encC (getE xs i)), .fv capS xs, .int .i64 xs.length, .int .i64 (i + 1 : Nat)] := by
  rw [step9]
  obtain ⟨h1, h2, h3, h4, h5⟩ := hg
  have e1 : IntKind.wrap .i64 ((i : Int) + 1) = ((i + 1 : Nat) : Int) := by
    rw [W_id (by omega) (by omega)]; omega
  simp only [Int.ofNat_eq_natCast, fits_8, fits_16, fits_24, Int.toNat_natCast, e1]
  simp only [dT (show (i : Int) < (xs.length : Int) by omega), inR_nat hi, dF (show ¬ AV.toInt (AV.item (getE xs i) 0) < 0 by omega), dF (show ¬ AV.toInt (AV.item (getE xs i) 0) > 4294967295 by omega),
    dF (show ¬ AV.toInt (AV.item (getE xs i) 1) < 0 by omega), dF (show ¬ AV.toInt (AV.item (getE xs i) 1) > 255 by omega), dF (show ¬ ((AV.toInts (AV.item (getE xs i) 3)).length : Int) > 65535 by omega), brO_t, brO_f]
  have k1 : ∀ l : List Int, l.length = 8 → Nat.ble ((out.length + l.length) * 1) 140737488355328 = true := fun l hl => bT (by rw [hl]; omega)
  have k2 : ∀ l : List Int, l.length = 8 → Nat.ble (((out ++ l).length + (AV.toInts (AV.item (getE xs i) 3)).length) * 1) 140737488355328 = true := fun l hl => bT (by rw [List.length_append, hl]; omega)
  cases hb : AV.toBool (AV.item (getE xs i) 2) with
  | true =>
    rw [brO_t, k1 _ rfl, k2 _ rfl]
    simp only [brO_t, List.append_assoc]
    unfold encC
    rw [hb]
    rfl
  | false =>
    rw [brO_f, k1 _ rfl, k2 _ rfl]
    simp only [brO_t, List.append_assoc]
    unfold encC
    rw [hb]
    rfl

theorem getE_cons {xs : List AV} {i : Nat} (h : i < xs.length) : List.drop i xs = getE xs i :: List.drop (i + 1) xs := by
  rw [List.drop_eq_getElem_cons h]
  unfold getE
  simp [List.getD_eq_getElem?_getD, h]

theorem lp9_wr {xs : List AV} (hx : xs.length ≤ 1048576) (hg : ∀ c ∈ xs, GoodC c) (n : Nat) : ∀ (f : Nat) (out : List Int) (i : Nat), i ≤ xs.length → xs.length - i < f → out.length + (encA (List.drop i xs)).length ≤ 1099511627776 →
    lp9 n f [.fs .u8 out, .fv capS xs, .int .i64 xs.length, .int .i64 i] = some (0, [.fs .u8 (out ++ encA (List.drop i xs))])
  | 0, out, i, hi, hf, hl => by omega
  | f + 1, out, i, hi, hf, hl => by
    rw [lp9_succ]
    by_cases h : i < xs.length
    · have hd := getE_cons h
      have hm : getE xs i ∈ xs := by
        have : getE xs i ∈ List.drop i xs := by rw [hd]; simp
        exact List.mem_of_mem_drop this
      rw [hd] at hl ⊢
      simp only [encA, List.length_append] at hl
      rw [st9_wr h hx (hg _ hm) (by omega)]
      rw [lp9_wr hx hg n f _ (i + 1) (by omega) (by omega) (by rw [List.length_append]; omega)]
      simp only [encA, List.append_assoc]
    · rw [step9]
      simp only [Int.ofNat_eq_natCast, dF (show ¬ (i : Int) < (xs.length : Int) by omega), brO_f]
      rw [List.drop_of_length_le (by omega)]
      simp [encA]

theorem run9_ok {xs : List AV} (hx : xs.length ≤ 1048576) (hg : ∀ c ∈ xs, GoodC c) (hl : (encA xs).length ≤ 1048576) {n : Nat} (hn : xs.length < n) :
    run9 n xs = some [.fs .u8 ([87, 69, 73, 82, 67, 65, 80, 49] ++ encA xs), .int .i64 0] := by
  rw [eq9]
  have := lp9_wr hx hg n n [87, 69, 73, 82, 67, 65, 80, 49] 0 (by omega) (by omega) (by simpa using by omega)
  simp only [List.drop_zero] at this
  simp only [Int.ofNat_eq_natCast]
  rw [show (lp9 n n [.fs .u8 [87, 69, 73, 82, 67, 65, 80, 49], .fv (.agg [.int .i64, .int .i64, .bool, .fs .u8]) xs, .int .i64 (xs.length : Int), .int .i64 0]) = _ from this]
  rfl

/-! Two lists that are one. -/
theorem st8_same {xs : List AV} {i : Nat} (hi : i < xs.length) (hx : xs.length ≤ 1048576) (n : Nat) (k : Knt) : st8 n k xs xs i = k [.fv capS xs, .fv capS xs, .int .i64 (i + 1 : Nat)] := by
  rw [step8]
  have e1 : IntKind.wrap .i64 ((i : Int) + 1) = ((i + 1 : Nat) : Int) := by
    rw [W_id (by omega) (by omega)]; omega
  simp only [Int.ofNat_eq_natCast, Int.toNat_natCast, e1, dT (show (i : Int) < (xs.length : Int) by omega), inR_nat hi, brO_t, bne_self_eq_false, brO_f, beq_self_eq_true, Bool.not_true]
  rfl

theorem lp8_same {xs : List AV} (hx : xs.length ≤ 1048576) (n : Nat) : ∀ (f i : Nat), i ≤ xs.length → xs.length - i < f → lp8 n f [.fv capS xs, .fv capS xs, .int .i64 i] = some (0, [])
  | 0, i, hi, hf => by omega
  | f + 1, i, hi, hf => by
    rw [lp8_succ]
    by_cases h : i < xs.length
    · rw [st8_same h hx, lp8_same hx n f (i + 1) (by omega) (by omega)]
    · rw [step8]
      simp only [Int.ofNat_eq_natCast, dF (show ¬ (i : Int) < (xs.length : Int) by omega), brO_f]

theorem run8_same {xs : List AV} (hx : xs.length ≤ 1048576) {n : Nat} (hn : xs.length < n) : run8 n xs xs = some [.bool true] := by
  rw [eq8]
  simp only [Int.ofNat_eq_natCast, bne_self_eq_false, brO_f]
  rw [show (lp8 n n [.fv (.agg [.int .i64, .int .i64, .bool, .fs .u8]) xs, .fv (.agg [.int .i64, .int .i64, .bool, .fs .u8]) xs, .int .i64 0]) = _ from lp8_same hx n n 0 (by omega) (by omega)]
  rfl
end Go.Proofs.Ytjhbpadplglnlaa.Am
