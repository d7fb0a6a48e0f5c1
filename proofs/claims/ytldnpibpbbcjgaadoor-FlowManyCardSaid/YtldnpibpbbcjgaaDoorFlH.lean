/-
  The program's class and the reference's agree at addresses of version 4.
  The reference's New: which configurations may be; a table of a configuration.
  A table of a configuration; it takes the first packet.
-/
import Derived.Test.YtldnpibpbbcjgaaDoorFlG
import Derived.Test.YtldnpibpbbcjgaaDoorFlE
section
set_option linter.unusedVariables false
set_option linter.unusedSimpArgs false
namespace Go.Proofs.YtldnpibpbbcjgaaDoor.Am
open Go Go.Am Go.Proofs

/-- The bits of two bytes from the i-th on. -/
def bb (p b : Int) : Nat → Nat → Bool
  | 0, _ => true
  | k + 1, i => p / 2 ^ (7 - i % 8) % 2 == b / 2 ^ (7 - i % 8) % 2 && bb p b k (i + 1)
theorem bitsEq_add (a b : List Int) : ∀ k l i, bitsEq a b (k + l) i = (bitsEq a b k i && bitsEq a b l (i + k))
  | 0, l, i => by simp [bitsEq]
  | k + 1, l, i => by
    rw [show k + 1 + l = (k + l) + 1 by omega]
    simp only [bitsEq]
    rw [bitsEq_add a b k l (i + 1), Bool.and_assoc, show i + 1 + k = i + (k + 1) by omega]
theorem bitsEq_bb (a b : List Int) (j : Nat) : ∀ k i, i + k ≤ 8 → bitsEq a b k (8 * j + i) = bb (getI a j) (getI b j) k i
  | 0, i, h => rfl
  | k + 1, i, h => by
    simp only [bitsEq, bb]
    rw [show 8 * j + i + 1 = 8 * j + (i + 1) by omega, bitsEq_bb a b j k (i + 1) (by omega)]
    unfold bitI
    rw [show (8 * j + i) / 8 = j by omega, show (8 * j + i) % 8 = i % 8 by omega]

def mB (b : Int) (k : Nat) : Int := IntKind.wrap .u8 (Int.ofNat (BitVec.toNat ((BitVec.ofInt 8 b) &&& (BitVec.ofInt 8 (IntKind.wrap .u8 (Int.fdiv 65280 (2 ^ (min k 64))))))))
theorem keep_ge {v : Int} (h : 8 ≤ v) : keep v = 8 := by
  unfold keep pos
  have h1 : decide (v > 0) = true := decide_eq_true (by omega)
  have h2 : decide (v < 8) = false := decide_eq_false (by omega)
  rw [h1]
  simp only [h2]
  rfl
theorem keep_le {v : Int} (h : v ≤ 0) : keep v = 0 := by
  unfold keep pos
  have h1 : decide (v > 0) = false := decide_eq_false (by omega)
  rw [h1]
  rfl
theorem mByte_ge {b v : Int} (h : 8 ≤ v) : mByte b v = mB b 8 := by unfold mByte mB; rw [keep_ge h]; rfl
theorem mByte_le {b v : Int} (h : v ≤ 0) : mByte b v = mB b 0 := by unfold mByte mB; rw [keep_le h]; rfl
theorem mByte_4 {b : Int} : mByte b 4 = mB b 4 := rfl
theorem mB8 : ∀ b : Fin 256, mB (b.1 : Nat) 8 = (b.1 : Nat) := by decide +kernel
theorem mB0 : ∀ b : Fin 256, mB (b.1 : Nat) 0 = 0 := by decide +kernel
theorem mB4 : ∀ b : Fin 256, (mB (b.1 : Nat) 4 == 224) = bb 224 (b.1 : Nat) 4 0 ∧ (mB (b.1 : Nat) 4 == 240) = bb 240 (b.1 : Nat) 4 0 := by decide +kernel
theorem bb0 : ∀ b : Fin 256, bb 0 (b.1 : Nat) 8 0 = (((b.1 : Nat) : Int) == 0) := by decide +kernel
theorem bb127 : ∀ b : Fin 256, bb 127 (b.1 : Nat) 8 0 = (((b.1 : Nat) : Int) == 127) := by decide +kernel
theorem bb169 : ∀ b : Fin 256, bb 169 (b.1 : Nat) 8 0 = (((b.1 : Nat) : Int) == 169) := by decide +kernel
theorem bb254 : ∀ b : Fin 256, bb 254 (b.1 : Nat) 8 0 = (((b.1 : Nat) : Int) == 254) := by decide +kernel
theorem bb255 : ∀ b : Fin 256, bb 255 (b.1 : Nat) 8 0 = (((b.1 : Nat) : Int) == 255) := by decide +kernel

section
variable {b : Int} (h : 0 ≤ b ∧ b < 256)
include h
theorem fin_of : b = ((⟨b.toNat, by omega⟩ : Fin 256).1 : Nat) := by show b = ((b.toNat : Nat) : Int); omega
theorem m8 : mB b 8 = b := by rw [fin_of h]; exact mB8 _
theorem m0 : mB b 0 = 0 := by rw [fin_of h]; exact mB0 _
theorem m4 : (mB b 4 == 224) = bb 224 b 4 0 ∧ (mB b 4 == 240) = bb 240 b 4 0 := by rw [fin_of h]; exact mB4 _
theorem b0 : bb 0 b 8 0 = (b == 0) := by rw [fin_of h]; exact bb0 _
theorem b127 : bb 127 b 8 0 = (b == 127) := by rw [fin_of h]; exact bb127 _
theorem b169 : bb 169 b 8 0 = (b == 169) := by rw [fin_of h]; exact bb169 _
theorem b254 : bb 254 b 8 0 = (b == 254) := by rw [fin_of h]; exact bb254 _
theorem b255 : bb 255 b 8 0 = (b == 255) := by rw [fin_of h]; exact bb255 _
end

theorem bits8 (a b : List Int) : bitsEq a b 8 0 = bb (getI a 0) (getI b 0) 8 0 := bitsEq_bb a b 0 8 0 (by omega)
theorem bits4 (a b : List Int) : bitsEq a b 4 0 = bb (getI a 0) (getI b 0) 4 0 := bitsEq_bb a b 0 4 0 (by omega)
theorem bits16 (a b : List Int) : bitsEq a b 16 0 = (bb (getI a 0) (getI b 0) 8 0 && bb (getI a 1) (getI b 1) 8 0) := by
  rw [show 16 = 8 + 8 from rfl, bitsEq_add, bits8, show (0 : Nat) + 8 = 8 * 1 + 0 from rfl, bitsEq_bb a b 1 8 0 (by omega)]
theorem bits32 (a b : List Int) : bitsEq a b 32 0 = (bb (getI a 0) (getI b 0) 8 0 && (bb (getI a 1) (getI b 1) 8 0 && (bb (getI a 2) (getI b 2) 8 0 && bb (getI a 3) (getI b 3) 8 0))) := by
  rw [show 32 = 8 + (8 + (8 + 8)) from rfl, bitsEq_add, bits8, bitsEq_add, bitsEq_add, show (0 : Nat) + 8 = 8 * 1 + 0 from rfl, bitsEq_bb a b 1 8 0 (by omega), show 8 * 1 + 0 + 8 = 8 * 2 + 0 from rfl, bitsEq_bb a b 2 8 0 (by omega), show 8 * 2 + 0 + 8 = 8 * 3 + 0 from rfl, bitsEq_bb a b 3 8 0 (by omega)]

/-- An address of version 4, by its bytes. -/
structure Four (x : IP) (a b c d : Int) : Prop where
  v : x.v = 4
  ea : x.a = [a, b, c, d, 0, 0, 0, 0, 0, 0, 0, 0, 0, 0, 0, 0]
  ha : 0 ≤ a ∧ a < 256
  hb : 0 ≤ b ∧ b < 256
  hc : 0 ≤ c ∧ c < 256
  hd : 0 ≤ d ∧ d < 256
theorem four_of {x : IP} (h4 : x.v = 4) (hl : x.a.length = 16) (hb : ByOk x.a) (hv : refValid x = true) : ∃ a b c d, Four x a b c d := by
  unfold refValid at hv
  rw [if_pos h4, zeroFrom_iff] at hv
  obtain ⟨v, l⟩ := x
  simp only at *
  match l, hl with
  | [a, b, c, d, e4, e5, e6, e7, e8, e9, e10, e11, e12, e13, e14, e15], _ =>
    have z : ∀ j, j < 16 → 4 ≤ j → getI [a, b, c, d, e4, e5, e6, e7, e8, e9, e10, e11, e12, e13, e14, e15] j = 0 := hv
    have z4 : e4 = 0 := z 4 (by omega) (by omega)
    have z5 : e5 = 0 := z 5 (by omega) (by omega)
    have z6 : e6 = 0 := z 6 (by omega) (by omega)
    have z7 : e7 = 0 := z 7 (by omega) (by omega)
    have z8 : e8 = 0 := z 8 (by omega) (by omega)
    have z9 : e9 = 0 := z 9 (by omega) (by omega)
    have z10 : e10 = 0 := z 10 (by omega) (by omega)
    have z11 : e11 = 0 := z 11 (by omega) (by omega)
    have z12 : e12 = 0 := z 12 (by omega) (by omega)
    have z13 : e13 = 0 := z 13 (by omega) (by omega)
    have z14 : e14 = 0 := z 14 (by omega) (by omega)
    have z15 : e15 = 0 := z 15 (by omega) (by omega)
    subst z4 z5 z6 z7 z8 z9 z10 z11 z12 z13 z14 z15
    exact ⟨_, _, _, _, ⟨h4, rfl, hb 0, hb 1, hb 2, hb 3⟩⟩

section
variable {x : IP} {a b c d : Int} (f : Four x a b c d)
include f
theorem four_ref : refValid x = true := by
  unfold refValid
  rw [if_pos f.v, f.ea, zeroFrom_iff]
  intro j h1 h2
  have : ∀ j : Fin 16, 4 ≤ j.1 → getI [a, b, c, d, 0, 0, 0, 0, 0, 0, 0, 0, 0, 0, 0, 0] j.1 = 0 := by
    intro ⟨j, hj⟩ h
    match j, hj, h with
    | 4, _, _ => rfl | 5, _, _ => rfl | 6, _, _ => rfl | 7, _, _ => rfl | 8, _, _ => rfl | 9, _, _ => rfl | 10, _, _ => rfl | 11, _, _ => rfl | 12, _, _ => rfl | 13, _, _ => rfl | 14, _, _ => rfl | 15, _, _ => rfl
    | n + 16, hj, _ => exact absurd hj (by omega)
  exact this ⟨j, h1⟩ h2
theorem four_valid : valid x = true := by
  unfold valid size
  rw [f.v, f.ea]
  rfl
theorem four_has (i : Nat) (p : Pfx) (hp : pfx i = p) : hasP (pfx i) x = (p.ip.v == 4 && bitsEq p.ip.a x.a p.len 0) := by
  unfold hasP
  rw [hp, four_ref f, f.v]
  rfl
theorem four_msk (bits : Int) : mskTo x.a bits 16 = [mByte a (bits - 0), mByte b (bits - 8), mByte c (bits - 16), mByte d (bits - 24), mByte 0 (bits - 32), mByte 0 (bits - 40), mByte 0 (bits - 48), mByte 0 (bits - 56), mByte 0 (bits - 64), mByte 0 (bits - 72), mByte 0 (bits - 80), mByte 0 (bits - 88), mByte 0 (bits - 96), mByte 0 (bits - 104), mByte 0 (bits - 112), mByte 0 (bits - 120)] := by
  unfold mskTo
  rw [f.ea]
  rfl
theorem four_net6 {i : Nat} (h : netV i = 6) : netHas x i = false := by
  unfold netHas
  rw [h, f.v]
  rfl
theorem four_pfx6 {i : Nat} (h : (pfx i).ip.v = 6) : hasP (pfx i) x = false := by
  rw [four_has f i _ rfl, h]
  rfl
theorem four0 : netHas x 0 = hasP (pfx 0) x := by
  rw [four_has f 0 _ rfl]
  show ((4 : Int) == x.v && mskTo x.a 32 16 == [0, 0, 0, 0, 0, 0, 0, 0, 0, 0, 0, 0, 0, 0, 0, 0]) = ((4 : Int) == 4 && bitsEq [0, 0, 0, 0, 0, 0, 0, 0, 0, 0, 0, 0, 0, 0, 0, 0] x.a 32 0)
  rw [f.v, four_msk f, bits32, f.ea]
  simp only [mByte_ge (show (8 : Int) ≤ 32 - 0 by decide), mByte_ge (show (8 : Int) ≤ 32 - 8 by decide), mByte_ge (show (8 : Int) ≤ 32 - 16 by decide), mByte_ge (show (8 : Int) ≤ 32 - 24 by decide), m8 f.ha, m8 f.hb, m8 f.hc, m8 f.hd]
  show ((4 : Int) == 4 && ([a, b, c, d, 0, 0, 0, 0, 0, 0, 0, 0, 0, 0, 0, 0] == [(0 : Int), 0, 0, 0, 0, 0, 0, 0, 0, 0, 0, 0, 0, 0, 0, 0])) = ((4 : Int) == 4 && (bb 0 a 8 0 && (bb 0 b 8 0 && (bb 0 c 8 0 && bb 0 d 8 0))))
  rw [b0 f.ha, b0 f.hb, b0 f.hc, b0 f.hd]
  simp
theorem four8 : netHas x 8 = hasP (pfx 8) x := by
  rw [four_has f 8 _ rfl]
  show ((4 : Int) == x.v && mskTo x.a 32 16 == [255, 255, 255, 255, 0, 0, 0, 0, 0, 0, 0, 0, 0, 0, 0, 0]) = ((4 : Int) == 4 && bitsEq [255, 255, 255, 255, 0, 0, 0, 0, 0, 0, 0, 0, 0, 0, 0, 0] x.a 32 0)
  rw [f.v, four_msk f, bits32, f.ea]
  simp only [mByte_ge (show (8 : Int) ≤ 32 - 0 by decide), mByte_ge (show (8 : Int) ≤ 32 - 8 by decide), mByte_ge (show (8 : Int) ≤ 32 - 16 by decide), mByte_ge (show (8 : Int) ≤ 32 - 24 by decide), m8 f.ha, m8 f.hb, m8 f.hc, m8 f.hd]
  show ((4 : Int) == 4 && ([a, b, c, d, 0, 0, 0, 0, 0, 0, 0, 0, 0, 0, 0, 0] == [(255 : Int), 255, 255, 255, 0, 0, 0, 0, 0, 0, 0, 0, 0, 0, 0, 0])) = ((4 : Int) == 4 && (bb 255 a 8 0 && (bb 255 b 8 0 && (bb 255 c 8 0 && bb 255 d 8 0))))
  rw [b255 f.ha, b255 f.hb, b255 f.hc, b255 f.hd]
  simp
theorem four_8 (i : Nat) (p : Int) (hn : netV i = 4) (hB : netB i = 8) (hA : netA i = [p, 0, 0, 0, 0, 0, 0, 0, 0, 0, 0, 0, 0, 0, 0, 0]) (hp : pfx i = ⟨⟨4, [p, 0, 0, 0, 0, 0, 0, 0, 0, 0, 0, 0, 0, 0, 0, 0]⟩, 8⟩) (hb : bb p a 8 0 = (a == p)) : netHas x i = hasP (pfx i) x := by
  rw [four_has f i _ hp]
  unfold netHas
  rw [hn, hB, hA, f.v, four_msk f, bits8, f.ea]
  simp only [mByte_ge (show (8 : Int) ≤ 8 - 0 by decide), mByte_le (show (8 : Int) - 8 ≤ 0 by decide), mByte_le (show (8 : Int) - 16 ≤ 0 by decide), mByte_le (show (8 : Int) - 24 ≤ 0 by decide), m8 f.ha, m0 f.hb, m0 f.hc, m0 f.hd]
  show ((4 : Int) == 4 && ([a, 0, 0, 0, 0, 0, 0, 0, 0, 0, 0, 0, 0, 0, 0, 0] == [p, 0, 0, 0, 0, 0, 0, 0, 0, 0, 0, 0, 0, 0, 0, 0])) = ((4 : Int) == 4 && bb p a 8 0)
  rw [hb]
  simp
theorem four_4 (i : Nat) (p : Int) (hn : netV i = 4) (hB : netB i = 4) (hA : netA i = [p, 0, 0, 0, 0, 0, 0, 0, 0, 0, 0, 0, 0, 0, 0, 0]) (hp : pfx i = ⟨⟨4, [p, 0, 0, 0, 0, 0, 0, 0, 0, 0, 0, 0, 0, 0, 0, 0]⟩, 4⟩) (hb : (mB a 4 == p) = bb p a 4 0) : netHas x i = hasP (pfx i) x := by
  rw [four_has f i _ hp]
  unfold netHas
  rw [hn, hB, hA, f.v, four_msk f, bits4, f.ea]
  simp only [mByte_le (show (4 : Int) - 8 ≤ 0 by decide), mByte_le (show (4 : Int) - 16 ≤ 0 by decide), mByte_le (show (4 : Int) - 24 ≤ 0 by decide), m0 f.hb, m0 f.hc, m0 f.hd]
  show ((4 : Int) == 4 && ([mB a 4, 0, 0, 0, 0, 0, 0, 0, 0, 0, 0, 0, 0, 0, 0, 0] == [p, 0, 0, 0, 0, 0, 0, 0, 0, 0, 0, 0, 0, 0, 0, 0])) = ((4 : Int) == 4 && bb p a 4 0)
  rw [← hb]
  simp
theorem four6 : netHas x 6 = hasP (pfx 6) x := by
  rw [four_has f 6 _ rfl]
  show ((4 : Int) == x.v && mskTo x.a 16 16 == [169, 254, 0, 0, 0, 0, 0, 0, 0, 0, 0, 0, 0, 0, 0, 0]) = ((4 : Int) == 4 && bitsEq [169, 254, 0, 0, 0, 0, 0, 0, 0, 0, 0, 0, 0, 0, 0, 0] x.a 16 0)
  rw [f.v, four_msk f, bits16, f.ea]
  simp only [mByte_ge (show (8 : Int) ≤ 16 - 0 by decide), mByte_ge (show (8 : Int) ≤ 16 - 8 by decide), mByte_le (show (16 : Int) - 16 ≤ 0 by decide), mByte_le (show (16 : Int) - 24 ≤ 0 by decide), m8 f.ha, m8 f.hb, m0 f.hc, m0 f.hd]
  show ((4 : Int) == 4 && ([a, b, 0, 0, 0, 0, 0, 0, 0, 0, 0, 0, 0, 0, 0, 0] == [(169 : Int), 254, 0, 0, 0, 0, 0, 0, 0, 0, 0, 0, 0, 0, 0, 0])) = ((4 : Int) == 4 && (bb 169 a 8 0 && bb 254 b 8 0))
  rw [b169 f.ha, b254 f.hb]
  simp
theorem four_cls : cls x = refCls x := by
  have e0 := four0 f
  have e1 := four_net6 f (i := 1) rfl
  have p1 := four_pfx6 f (i := 1) rfl
  have e2 := four_8 f 2 127 rfl rfl rfl rfl (b127 f.ha)
  have e3 := four_net6 f (i := 3) rfl
  have p3 := four_pfx6 f (i := 3) rfl
  have e4 := four_4 f 4 224 rfl rfl rfl rfl (m4 f.ha).1
  have e5 := four_net6 f (i := 5) rfl
  have p5 := four_pfx6 f (i := 5) rfl
  have e6 := four6 f
  have e7 := four_net6 f (i := 7) rfl
  have p7 := four_pfx6 f (i := 7) rfl
  have e8 := four8 f
  have e9 := four_8 f 9 0 rfl rfl rfl rfl (b0 f.ha)
  have e10 := four_4 f 10 240 rfl rfl rfl rfl (m4 f.ha).2
  have e11 := four_net6 f (i := 11) rfl
  have p11 := four_pfx6 f (i := 11) rfl
  unfold cls refCls
  rw [four_valid f, four_ref f]
  have hf : netFnd x 12 0 = (if netHas x 0 = true then some 1 else if netHas x 1 = true then some 1 else if netHas x 2 = true then some 2 else if netHas x 3 = true then some 2 else if netHas x 4 = true then some 3 else if netHas x 5 = true then some 3 else if netHas x 6 = true then some 4 else if netHas x 7 = true then some 4 else if netHas x 8 = true then some 5 else if netHas x 9 = true then some 6 else if netHas x 10 = true then some 6 else if netHas x 11 = true then some 6 else none) := rfl
  rw [hf, e0, e1, e2, e3, e4, e5, e6, e7, e8, e9, e10, e11, p1, p3, p5, p7, p11]
  by_cases q0 : hasP (pfx 0) x = true
  · rw [q0]; simp
  rw [Bool.not_eq_true] at q0
  rw [q0]
  by_cases q2 : hasP (pfx 2) x = true
  · rw [q2]; simp
  rw [Bool.not_eq_true] at q2
  rw [q2]
  by_cases q4 : hasP (pfx 4) x = true
  · rw [q4]; simp
  rw [Bool.not_eq_true] at q4
  rw [q4]
  by_cases q6 : hasP (pfx 6) x = true
  · rw [q6]; simp
  rw [Bool.not_eq_true] at q6
  rw [q6]
  by_cases q8 : hasP (pfx 8) x = true
  · rw [q8]; simp
  rw [Bool.not_eq_true] at q8
  rw [q8]
  by_cases q9 : hasP (pfx 9) x = true
  · rw [q9]; simp
  rw [Bool.not_eq_true] at q9
  rw [q9]
  cases hasP (pfx 10) x <;> simp
end
end Go.Proofs.YtldnpibpbbcjgaaDoor.Am
end

section
set_option linter.unusedVariables false
set_option linter.unusedSimpArgs false
namespace Go.Proofs.YtldnpibpbbcjgaaDoor.Am
open Go Go.Am Go.Proofs

/-- Bytes of an address, as they come in. -/
structure IPIn (x : IP) : Prop where
  len : x.a.length = 16
  by_ : ByOk x.a

def newB (c : Cfg) : Bool := !(decide (c.max < 1)) && (!(decide (c.max > 4096)) && (!(c.out.v != 4) && ((!(refCls c.out != 7) || !(refCls c.out != 4)) && (!(decide (c.lo < 1)) && (!(decide (c.lo > c.hi)) && (!(decide (c.hi > 65535)) && (ageB c.syn && (ageB c.tcp && (ageB c.fin && (ageB c.udp && ageB c.icmp))))))))))
def zCfg : Cfg := ⟨0, zIP, 0, 0, 0, 0, 0, 0, 0⟩
def refT (c : Cfg) (l : List AV) : AV := .agg [c.av, .fv s48 l]
open Classical in
noncomputable def outNw (n : Nat) (c : Cfg) : Option (List AV) := if 300 ≤ n ∧ IPOk c.out then some (if newB c = true then [refT c [], .int .i64 0] else [refT zCfg [], .int .i64 177]) else none
noncomputable def G23 : Fun := spec (fun c : Cfg => [c.av]) (fun l => Cfg.of (getE l 0)) outNw
theorem g23 {n : Nat} {c : Cfg} (hn : 300 ≤ n) (hx : IPOk c.out) : G23 n [c.av] = some (if newB c = true then [refT c [], .int .i64 0] else [refT zCfg [], .int .i64 177]) :=
  (spec_at (enc := fun c : Cfg => [c.av]) c rfl).trans (if_pos ⟨hn, hx⟩)
theorem zc_av : (AV.agg [AV.int .i64 0, z24, .int .i64 0, .int .i64 0, .int .i64 0, .int .i64 0, .int .i64 0, .int .i64 0, .int .i64 0]) = zCfg.av := rfl
@[simp] theorem r_refT (c : Cfg) (l : List AV) : eta s59 (AV.agg [c.av, .fv s48 l]) = .agg [c.av, .fv s48 l] := rfl
theorem s23 : SoundCal Tryd.prog env 23 (mkCal D23 G23) := spec_ok (snd23 G39 G40 s39 s40) (fun n c r h => by
  unfold outNw at h
  split at h
  case isFalse => cases h
  rename_i hh
  obtain ⟨hn, hx⟩ := hh
  cases h
  refine (eq23 G39 G40 n c.av).trans ?_
  have h39 : G39 n [c.out.av] = some [.int .i64 (refCls c.out)] := g39 hn hx
  unfold newB refT
  simp only [zc_av]
  by_cases b1 : c.max < 1
  · simp [h39, b1]
  by_cases b2 : c.max > 4096
  · simp [h39, b1, b2]
  by_cases b3 : c.out.v = 4
  case neg =>
    have b3' : (c.out.v != 4) = true := by simpa using b3
    simp [h39, b1, b2, b3']
  have b3' : (c.out.v != 4) = false := by simpa using b3
  have b7' : ((refCls c.out != 7) = false ∨ ((refCls c.out != 7) = true ∧ (refCls c.out != 4) = false)) ∨ ((refCls c.out != 7) = true ∧ (refCls c.out != 4) = true) := by
    cases (refCls c.out != 7) <;> cases (refCls c.out != 4) <;> simp
  rcases b7' with b7 | ⟨b8', b9'⟩
  case inr => simp [h39, b1, b2, b3', b8', b9']
  by_cases b4 : c.lo < 1
  · rcases b7 with b8 | ⟨b8, b9⟩ <;> simp [h39, b1, b2, b3', b4, *]
  by_cases b5 : c.lo > c.hi
  · rcases b7 with b8 | ⟨b8, b9⟩ <;> simp [h39, b1, b2, b3', b4, b5, *]
  by_cases b6 : c.hi > 65535
  · rcases b7 with b8 | ⟨b8, b9⟩ <;> simp [h39, b1, b2, b3', b4, b5, b6, *]
  cases a1 : ageB c.syn with
  | false => rcases b7 with b8 | ⟨b8, b9⟩ <;> simp [h39, b1, b2, b3', b4, b5, b6, *, g40, a1]
  | true =>
  cases a2 : ageB c.tcp with
  | false => rcases b7 with b8 | ⟨b8, b9⟩ <;> simp [h39, b1, b2, b3', b4, b5, b6, *, g40, a1, a2]
  | true =>
  cases a3 : ageB c.fin with
  | false => rcases b7 with b8 | ⟨b8, b9⟩ <;> simp [h39, b1, b2, b3', b4, b5, b6, *, g40, a1, a2, a3]
  | true =>
  cases a4 : ageB c.udp with
  | false => rcases b7 with b8 | ⟨b8, b9⟩ <;> simp [h39, b1, b2, b3', b4, b5, b6, *, g40, a1, a2, a3, a4]
  | true =>
  cases a5 : ageB c.icmp with
  | false => rcases b7 with b8 | ⟨b8, b9⟩ <;> simp [h39, b1, b2, b3', b4, b5, b6, *, g40, a1, a2, a3, a4, a5]
  | true => rcases b7 with b8 | ⟨b8, b9⟩ <;> simp [h39, b1, b2, b3', b4, b5, b6, *, g40, a1, a2, a3, a4, a5])
end Go.Proofs.YtldnpibpbbcjgaaDoor.Am
end

section
set_option linter.unusedVariables false
set_option linter.unusedSimpArgs false
namespace Go.Proofs.YtldnpibpbbcjgaaDoor.Am
open Go Go.Am Go.Proofs

theorem cfgOk_of {c : Cfg} (hi : IPIn c.out) (h : newB c = true) : CfgOk outB c := by
  unfold newB ageB at h
  simp at h
  obtain ⟨h1, h2, h3, h4, h5, h6, h7, h8, h9, h10, h11, h12⟩ := h
  have hv : refValid c.out = true := by
    cases hv : refValid c.out with
    | true => rfl
    | false =>
      have : refCls c.out = 0 := by unfold refCls; rw [if_pos hv]
      rw [this] at h4
      rcases h4 with h4 | h4 <;> cases h4
  obtain ⟨a, b, e, d, f⟩ := four_of h3 hi.len hi.by_ hv
  refine ⟨h1, h2, ?_, h5, h6, h7, ?_⟩
  · unfold outB
    rw [four_valid f, four_cls f, h3]
    rcases h4 with h4 | h4 <;> rw [h4] <;> rfl
  · unfold ages
    simp
    exact ⟨h8, h9, h10, h11, h12⟩
theorem cfg0Ok : CfgOk outB cfg0 := ⟨by decide, by decide, by decide +kernel, by decide, by decide, by decide, by decide⟩

def cfgOf (c : Cfg) : Cfg := if newB c = true then c else cfg0
theorem cfgOf_ok {c : Cfg} (hi : IPIn c.out) : CfgOk outB (cfgOf c) := by
  unfold cfgOf
  split
  · exact cfgOk_of hi (by assumption)
  · exact cfg0Ok

section
variable {n : Nat} {s : Tb} {c : Cfg} {x : Tup} {fl : Int}
theorem g10' : G10 n [.pt 2 (some 0), .tup s.m1, .tup s.m2, .tup s.m3, .tup s.m4] = some [.int .i64 s.es.length] := g10 n s
theorem g11' (h : Wf c s) (hc : CfgOk outB c) (hn : 65537 < n) : G11 n [.pt 2 (some 0), x.av, .int .i64 fl, .tup s.m1, .tup s.m2, .tup s.m3, .tup s.m4] = outI (goOut s x fl) := g11 n x fl s (h.outOk hc hn)
theorem g12' : G12 n [.pt 2 (some 0), x.av, .int .i64 fl, .tup s.m1, .tup s.m2, .tup s.m3, .tup s.m4] = outI (inS s x fl) := g12 n x fl s
@[simp] theorem outI_some (y : Tup) (e : Int) (s : Tb) : outI (some (y, e, s)) = some [y.av, .int .i64 e, .tup s.m1, .tup s.m2, .tup s.m3, .tup s.m4] := rfl
theorem g21' (hc : CfgOk outB c) (hn : 16 < n) : G21 outB n [c.av, .tup [], .tup [], .tup [], .tup []] = some [.pt 2 (some 0), .int .i64 0, .tup (newT c).m1, .tup (newT c).m2, .tup (newT c).m3, .tup (newT c).m4] := g21 hc hn
end

open Classical in
noncomputable def outTb (n : Nat) (c : Cfg) : Option (List AV) := if 300 ≤ n ∧ IPIn c.out then some (.pt 2 (some 0) :: (cfgOf c).av :: (newT (cfgOf c)).ms) else none
noncomputable def G8 : Fun := spec encN (fun l => Cfg.of (getE l 0)) outTb
theorem g8' {n : Nat} {c : Cfg} (hn : 300 ≤ n) (hi : IPIn c.out) : G8 n [c.av, .tup [], .tup [], .tup [], .tup []] = some [.pt 2 (some 0), (cfgOf c).av, .tup (newT (cfgOf c)).m1, .tup (newT (cfgOf c)).m2, .tup (newT (cfgOf c)).m3, .tup (newT (cfgOf c)).m4] :=
  (spec_at (enc := encN) c rfl).trans (if_pos ⟨hn, hi⟩)
theorem s8 : SoundCal Tryd.prog env 8 (mkCal D8 G8) := spec_ok (snd8 G20 (G21 outB) G23 s20 s21_ s23) (fun n c r h => by
  unfold outTb at h
  split at h
  case isFalse => cases h
  rename_i hh
  obtain ⟨hn, hi⟩ := hh
  cases h
  refine (eq8 G20 (G21 outB) G23 n c.av [] [] [] []).trans ?_
  have h23 := g23 hn (show IPOk c.out from hi.by_)
  have hok := cfgOf_ok hi
  by_cases hb : newB c = true
  · have e : cfgOf c = c := by unfold cfgOf; rw [if_pos hb]
    rw [e] at hok ⊢
    rw [if_pos hb] at h23
    simp [h23, g21' hok (by omega : 16 < n), Tb.ms]
  · have e : cfgOf c = cfg0 := by unfold cfgOf; rw [if_neg hb]
    rw [e] at hok ⊢
    rw [if_neg hb] at h23
    simp [h23, g20, g21' hok (by omega : 16 < n), Tb.ms])

/-! The first packet. -/
def s1_ : Tb := addS (newT cfg0) cfg0 (newF cfg0 askT 0 1000)
def y1_ : Tup := out_ cfg0 (newF cfg0 askT 0 1000)
theorem out1 : goOut (newT cfg0) askT 0 = some (y1_, 0, s1_) := by kernel_rfl
def s2_ : Tb := setFl s1_ 0 ((newF cfg0 askT 0 1000).go cfg0 7)
theorem in1 : inS s1_ (rev y1_) 0 = some (rev askT, 0, s2_) := by kernel_rfl
noncomputable def G9 : Fun := spec (fun _ : Unit => []) (fun _ => ()) fun n _ => if 65537 < n then some [.bool true] else none
theorem g9 {n : Nat} (hn : 65537 < n) : G9 n [] = some [.bool true] := (spec_at (enc := fun _ : Unit => []) () rfl).trans (if_pos hn)
theorem s9 : SoundCal Tryd.prog env 9 (mkCal D9 G9) := spec_ok (snd9 G10 G11 G12 G13 G17 G20 (G21 outB) s10 s11 s12 s13 s17 s20 s21_) (fun n c r h => by
  split at h
  case isFalse => cases h
  rename_i hn
  cases h
  refine (eq9 G10 G11 G12 G13 G17 G20 (G21 outB) n).trans ?_
  have h21 := g21' cfg0Ok (by omega : 16 < n)
  have h11 := g11' (x := askT) (fl := 0) (Wf.newT cfg0Ok) cfg0Ok hn
  rw [out1] at h11
  have h12 := g12' (n := n) (s := s1_) (x := rev y1_) (fl := 0)
  rw [in1] at h12
  have hl : s2_.es.length = 1 := rfl
  have hp : y1_.sp = 1000 := rfl
  simp [g20, h21, g17, h11, g13, h12, g10', keq_tup, hl, hp])
end Go.Proofs.YtldnpibpbbcjgaaDoor.Am
end
