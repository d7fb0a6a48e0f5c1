/-
  The desk's functions as pure equations. Printed by a program (wip/am/Tool.lean, r1/pr.lean).
-/
import Derived.Test.YtjhbpadplglnlaaR1Def
import Derived.KernelRfl
set_option linter.unusedVariables false
namespace Go.Proofs.Ytjhbpadplglnlaa.Am
open Go Go.Am Go.Proofs

theorem step6 (F15 : Go.Proofs.Ytjhbpadplglnlaa.Am.Fun) (n : Nat) (k : Go.Proofs.Ytjhbpadplglnlaa.Am.Knt) (bs : List Int) (caps : List Go.Am.AV) (off : Int) : st6 F15 n k bs caps off =
  brO (Decidable.decide (off < Int.ofNat (List.length bs)))
  (brO (Decidable.decide (0 ≤ off) && (Decidable.decide (off ≤ Int.ofNat (List.length bs)) && (Decidable.decide (Int.ofNat (List.length bs) ≤ Int.ofNat (List.length bs)) && Decidable.decide (Int.ofNat (List.length bs) ≤ Int.ofNat (List.length bs)))))
   (brO (Decidable.decide (Int.ofNat (List.length (List.take (Int.toNat (Int.ofNat (List.length bs)) - Int.toNat off) (List.drop (Int.toNat off) bs))) < 8))
    (some ((1, [Go.Am.AV.fv (Go.Am.Sh.agg [Go.Am.Sh.int Go.IntKind.i64, Go.Am.Sh.int Go.IntKind.i64, Go.Am.Sh.bool, Go.Am.Sh.fs Go.IntKind.u8]) [], Go.Am.AV.int Go.IntKind.i64 204, Go.Am.AV.int Go.IntKind.i64 off])))
    (brO (Go.Am.inR 5 (List.length (List.take (Int.toNat (Int.ofNat (List.length bs)) - Int.toNat off) (List.drop (Int.toNat off) bs))))
     (brO (Decidable.decide (Go.Am.getI (List.take (Int.toNat (Int.ofNat (List.length bs)) - Int.toNat off) (List.drop (Int.toNat off) bs)) 5 > 1))
      (some ((1, [Go.Am.AV.fv (Go.Am.Sh.agg [Go.Am.Sh.int Go.IntKind.i64, Go.Am.Sh.int Go.IntKind.i64, Go.Am.Sh.bool, Go.Am.Sh.fs Go.IntKind.u8]) [], Go.Am.AV.int Go.IntKind.i64 204, Go.Am.AV.int Go.IntKind.i64 (Go.IntKind.wrap Go.IntKind.i64 (off + 5))])))
      (brO (Go.Am.inR 6 (List.length (List.take (Int.toNat (Int.ofNat (List.length bs)) - Int.toNat off) (List.drop (Int.toNat off) bs))))
       (brO (Go.Am.inR 7 (List.length (List.take (Int.toNat (Int.ofNat (List.length bs)) - Int.toNat off) (List.drop (Int.toNat off) bs))))
        (brO (Decidable.decide (Int.ofNat (List.length (List.take (Int.toNat (Int.ofNat (List.length bs)) - Int.toNat off) (List.drop (Int.toNat off) bs))) < Go.IntKind.wrap Go.IntKind.i64 (8 + Go.IntKind.wrap Go.IntKind.i64 (Int.ofNat (BitVec.toNat (BitVec.ofInt 64 (Go.IntKind.wrap Go.IntKind.i64 (Go.IntKind.wrap Go.IntKind.i64 (Go.Am.getI (List.take (Int.toNat (Int.ofNat (List.length bs)) - Int.toNat off) (List.drop (Int.toNat off) bs)) 6) * Int.ofNat (2 ^ Min.min (Int.toNat 8) (Go.IntKind.bits Go.IntKind.i64)))) ||| BitVec.ofInt 64 (Go.IntKind.wrap Go.IntKind.i64 (Go.Am.getI (List.take (Int.toNat (Int.ofNat (List.length bs)) - Int.toNat off) (List.drop (Int.toNat off) bs)) 7))))))))
         (some ((1, [Go.Am.AV.fv (Go.Am.Sh.agg [Go.Am.Sh.int Go.IntKind.i64, Go.Am.Sh.int Go.IntKind.i64, Go.Am.Sh.bool, Go.Am.Sh.fs Go.IntKind.u8]) [], Go.Am.AV.int Go.IntKind.i64 204, Go.Am.AV.int Go.IntKind.i64 off])))
         (brO (Go.Am.inR 0 (List.length (List.take (Int.toNat (Int.ofNat (List.length bs)) - Int.toNat off) (List.drop (Int.toNat off) bs))))
          (brO (Go.Am.inR 1 (List.length (List.take (Int.toNat (Int.ofNat (List.length bs)) - Int.toNat off) (List.drop (Int.toNat off) bs))))
           (brO (Go.Am.inR 2 (List.length (List.take (Int.toNat (Int.ofNat (List.length bs)) - Int.toNat off) (List.drop (Int.toNat off) bs))))
            (brO (Go.Am.inR 3 (List.length (List.take (Int.toNat (Int.ofNat (List.length bs)) - Int.toNat off) (List.drop (Int.toNat off) bs))))
             (brO (Go.Am.inR 4 (List.length (List.take (Int.toNat (Int.ofNat (List.length bs)) - Int.toNat off) (List.drop (Int.toNat off) bs))))
              (brO (Go.Am.inR 5 (List.length (List.take (Int.toNat (Int.ofNat (List.length bs)) - Int.toNat off) (List.drop (Int.toNat off) bs))))
               (brO (Decidable.decide (8 ≤ Go.IntKind.wrap Go.IntKind.i64 (8 + Go.IntKind.wrap Go.IntKind.i64 (Int.ofNat (BitVec.toNat (BitVec.ofInt 64 (Go.IntKind.wrap Go.IntKind.i64 (Go.IntKind.wrap Go.IntKind.i64 (Go.Am.getI (List.take (Int.toNat (Int.ofNat (List.length bs)) - Int.toNat off) (List.drop (Int.toNat off) bs)) 6) * Int.ofNat (2 ^ Min.min (Int.toNat 8) (Go.IntKind.bits Go.IntKind.i64)))) ||| BitVec.ofInt 64 (Go.IntKind.wrap Go.IntKind.i64 (Go.Am.getI (List.take (Int.toNat (Int.ofNat (List.length bs)) - Int.toNat off) (List.drop (Int.toNat off) bs)) 7))))))) && (Decidable.decide (Go.IntKind.wrap Go.IntKind.i64 (8 + Go.IntKind.wrap Go.IntKind.i64 (Int.ofNat (BitVec.toNat (BitVec.ofInt 64 (Go.IntKind.wrap Go.IntKind.i64 (Go.IntKind.wrap Go.IntKind.i64 (Go.Am.getI (List.take (Int.toNat (Int.ofNat (List.length bs)) - Int.toNat off) (List.drop (Int.toNat off) bs)) 6) * Int.ofNat (2 ^ Min.min (Int.toNat 8) (Go.IntKind.bits Go.IntKind.i64)))) ||| BitVec.ofInt 64 (Go.IntKind.wrap Go.IntKind.i64 (Go.Am.getI (List.take (Int.toNat (Int.ofNat (List.length bs)) - Int.toNat off) (List.drop (Int.toNat off) bs)) 7)))))) ≤ Int.ofNat (List.length (List.take (Int.toNat (Int.ofNat (List.length bs)) - Int.toNat off) (List.drop (Int.toNat off) bs)))) && Decidable.decide (Int.ofNat (List.length (List.take (Int.toNat (Int.ofNat (List.length bs)) - Int.toNat off) (List.drop (Int.toNat off) bs))) ≤ Int.ofNat (List.length (List.take (Int.toNat (Int.ofNat (List.length bs)) - Int.toNat off) (List.drop (Int.toNat off) bs))))))
                ((F15 (n) ([Go.Am.AV.fs Go.IntKind.u8 (List.take (Int.toNat (Go.IntKind.wrap Go.IntKind.i64 (8 + Go.IntKind.wrap Go.IntKind.i64 (Int.ofNat (BitVec.toNat (BitVec.ofInt 64 (Go.IntKind.wrap Go.IntKind.i64 (Go.IntKind.wrap Go.IntKind.i64 (Go.Am.getI (List.take (Int.toNat (Int.ofNat (List.length bs)) - Int.toNat off) (List.drop (Int.toNat off) bs)) 6) * Int.ofNat (2 ^ Min.min (Int.toNat 8) (Go.IntKind.bits Go.IntKind.i64)))) ||| BitVec.ofInt 64 (Go.IntKind.wrap Go.IntKind.i64 (Go.Am.getI (List.take (Int.toNat (Int.ofNat (List.length bs)) - Int.toNat off) (List.drop (Int.toNat off) bs)) 7))))))) - 8) (List.drop 8 (List.take (Int.toNat (Int.ofNat (List.length bs)) - Int.toNat off) (List.drop (Int.toNat off) bs))))])).bind fun r0 =>
                 (brO (Nat.ble ((List.length caps + List.length [Go.Am.AV.agg [Go.Am.AV.int Go.IntKind.i64 (Go.IntKind.wrap Go.IntKind.i64 (Int.ofNat (BitVec.toNat (BitVec.ofInt 64 (Go.IntKind.wrap Go.IntKind.i64 (Int.ofNat (BitVec.toNat (BitVec.ofInt 64 (Go.IntKind.wrap Go.IntKind.i64 (Int.ofNat (BitVec.toNat (BitVec.ofInt 64 (Go.IntKind.wrap Go.IntKind.i64 (Go.IntKind.wrap Go.IntKind.i64 (Go.Am.getI (List.take (Int.toNat (Int.ofNat (List.length bs)) - Int.toNat off) (List.drop (Int.toNat off) bs)) 0) * Int.ofNat (2 ^ Min.min (Int.toNat 24) (Go.IntKind.bits Go.IntKind.i64)))) ||| BitVec.ofInt 64 (Go.IntKind.wrap Go.IntKind.i64 (Go.IntKind.wrap Go.IntKind.i64 (Go.Am.getI (List.take (Int.toNat (Int.ofNat (List.length bs)) - Int.toNat off) (List.drop (Int.toNat off) bs)) 1) * Int.ofNat (2 ^ Min.min (Int.toNat 16) (Go.IntKind.bits Go.IntKind.i64)))))))) ||| BitVec.ofInt 64 (Go.IntKind.wrap Go.IntKind.i64 (Go.IntKind.wrap Go.IntKind.i64 (Go.Am.getI (List.take (Int.toNat (Int.ofNat (List.length bs)) - Int.toNat off) (List.drop (Int.toNat off) bs)) 2) * Int.ofNat (2 ^ Min.min (Int.toNat 8) (Go.IntKind.bits Go.IntKind.i64)))))))) ||| BitVec.ofInt 64 (Go.IntKind.wrap Go.IntKind.i64 (Go.Am.getI (List.take (Int.toNat (Int.ofNat (List.length bs)) - Int.toNat off) (List.drop (Int.toNat off) bs)) 3)))))), Go.Am.AV.int Go.IntKind.i64 (Go.IntKind.wrap Go.IntKind.i64 (Go.Am.getI (List.take (Int.toNat (Int.ofNat (List.length bs)) - Int.toNat off) (List.drop (Int.toNat off) bs)) 4)), Go.Am.AV.bool (Go.Am.getI (List.take (Int.toNat (Int.ofNat (List.length bs)) - Int.toNat off) (List.drop (Int.toNat off) bs)) 5 == 1), Go.Am.AV.fs Go.IntKind.u8 (Go.Am.AV.toInts (List.headD r0 Go.Am.AV.undef))]]) * 48) 140737488355328)
                  (k ([Go.Am.AV.fs Go.IntKind.u8 bs, Go.Am.AV.fv (Go.Am.Sh.agg [Go.Am.Sh.int Go.IntKind.i64, Go.Am.Sh.int Go.IntKind.i64, Go.Am.Sh.bool, Go.Am.Sh.fs Go.IntKind.u8]) (caps ++ [Go.Am.AV.agg [Go.Am.AV.int Go.IntKind.i64 (Go.IntKind.wrap Go.IntKind.i64 (Int.ofNat (BitVec.toNat (BitVec.ofInt 64 (Go.IntKind.wrap Go.IntKind.i64 (Int.ofNat (BitVec.toNat (BitVec.ofInt 64 (Go.IntKind.wrap Go.IntKind.i64 (Int.ofNat (BitVec.toNat (BitVec.ofInt 64 (Go.IntKind.wrap Go.IntKind.i64 (Go.IntKind.wrap Go.IntKind.i64 (Go.Am.getI (List.take (Int.toNat (Int.ofNat (List.length bs)) - Int.toNat off) (List.drop (Int.toNat off) bs)) 0) * Int.ofNat (2 ^ Min.min (Int.toNat 24) (Go.IntKind.bits Go.IntKind.i64)))) ||| BitVec.ofInt 64 (Go.IntKind.wrap Go.IntKind.i64 (Go.IntKind.wrap Go.IntKind.i64 (Go.Am.getI (List.take (Int.toNat (Int.ofNat (List.length bs)) - Int.toNat off) (List.drop (Int.toNat off) bs)) 1) * Int.ofNat (2 ^ Min.min (Int.toNat 16) (Go.IntKind.bits Go.IntKind.i64)))))))) ||| BitVec.ofInt 64 (Go.IntKind.wrap Go.IntKind.i64 (Go.IntKind.wrap Go.IntKind.i64 (Go.Am.getI (List.take (Int.toNat (Int.ofNat (List.length bs)) - Int.toNat off) (List.drop (Int.toNat off) bs)) 2) * Int.ofNat (2 ^ Min.min (Int.toNat 8) (Go.IntKind.bits Go.IntKind.i64)))))))) ||| BitVec.ofInt 64 (Go.IntKind.wrap Go.IntKind.i64 (Go.Am.getI (List.take (Int.toNat (Int.ofNat (List.length bs)) - Int.toNat off) (List.drop (Int.toNat off) bs)) 3)))))), Go.Am.AV.int Go.IntKind.i64 (Go.IntKind.wrap Go.IntKind.i64 (Go.Am.getI (List.take (Int.toNat (Int.ofNat (List.length bs)) - Int.toNat off) (List.drop (Int.toNat off) bs)) 4)), Go.Am.AV.bool (Go.Am.getI (List.take (Int.toNat (Int.ofNat (List.length bs)) - Int.toNat off) (List.drop (Int.toNat off) bs)) 5 == 1), Go.Am.AV.fs Go.IntKind.u8 (Go.Am.AV.toInts (List.headD r0 Go.Am.AV.undef))]]), Go.Am.AV.int Go.IntKind.i64 (Go.IntKind.wrap Go.IntKind.i64 (off + Go.IntKind.wrap Go.IntKind.i64 (8 + Go.IntKind.wrap Go.IntKind.i64 (Int.ofNat (BitVec.toNat (BitVec.ofInt 64 (Go.IntKind.wrap Go.IntKind.i64 (Go.IntKind.wrap Go.IntKind.i64 (Go.Am.getI (List.take (Int.toNat (Int.ofNat (List.length bs)) - Int.toNat off) (List.drop (Int.toNat off) bs)) 6) * Int.ofNat (2 ^ Min.min (Int.toNat 8) (Go.IntKind.bits Go.IntKind.i64)))) ||| BitVec.ofInt 64 (Go.IntKind.wrap Go.IntKind.i64 (Go.Am.getI (List.take (Int.toNat (Int.ofNat (List.length bs)) - Int.toNat off) (List.drop (Int.toNat off) bs)) 7))))))))]))
                  (none)))
                (none))
               (none))
              (none))
             (none))
            (none))
           (none))
          (none)))
        (none))
       (none)))
     (none)))
   (none))
  (some ((0, [Go.Am.AV.fv (Go.Am.Sh.agg [Go.Am.Sh.int Go.IntKind.i64, Go.Am.Sh.int Go.IntKind.i64, Go.Am.Sh.bool, Go.Am.Sh.fs Go.IntKind.u8]) caps]))) := by kernel_rfl

theorem eq6 (F15 : Go.Proofs.Ytjhbpadplglnlaa.Am.Fun) (n : Nat) (bs : List Int) : run6 F15 n bs =
  brO (Decidable.decide (Int.ofNat (List.length bs) < 8))
  (some ([Go.Am.AV.fv (Go.Am.Sh.agg [Go.Am.Sh.int Go.IntKind.i64, Go.Am.Sh.int Go.IntKind.i64, Go.Am.Sh.bool, Go.Am.Sh.fs Go.IntKind.u8]) [], Go.Am.AV.int Go.IntKind.i64 204, Go.Am.AV.int Go.IntKind.i64 0]))
  (brO (Decidable.decide (8 ≤ Int.ofNat (List.length bs)) && Decidable.decide (Int.ofNat (List.length bs) ≤ Int.ofNat (List.length bs)))
   (brO (!List.map Go.Am.toU8 (List.take 8 (List.drop 0 bs)) == [87, 69, 73, 82, 67, 65, 80, 49])
    (some ([Go.Am.AV.fv (Go.Am.Sh.agg [Go.Am.Sh.int Go.IntKind.i64, Go.Am.Sh.int Go.IntKind.i64, Go.Am.Sh.bool, Go.Am.Sh.fs Go.IntKind.u8]) [], Go.Am.AV.int Go.IntKind.i64 204, Go.Am.AV.int Go.IntKind.i64 0]))
    ((lp6 F15 n n [Go.Am.AV.fs Go.IntKind.u8 bs, Go.Am.AV.fv (Go.Am.Sh.agg [Go.Am.Sh.int Go.IntKind.i64, Go.Am.Sh.int Go.IntKind.i64, Go.Am.Sh.bool, Go.Am.Sh.fs Go.IntKind.u8]) [], Go.Am.AV.int Go.IntKind.i64 8]).bind fun r0 =>
     (brO (Nat.beq r0.fst 0)
      (some ([Go.Am.AV.fv (Go.Am.Sh.agg [Go.Am.Sh.int Go.IntKind.i64, Go.Am.Sh.int Go.IntKind.i64, Go.Am.Sh.bool, Go.Am.Sh.fs Go.IntKind.u8]) (Go.Am.AV.toElems (List.headD r0.snd Go.Am.AV.undef)), Go.Am.AV.int Go.IntKind.i64 0, Go.Am.AV.int Go.IntKind.i64 0]))
      (brO (Nat.beq r0.fst 1)
       (some ([Go.Am.AV.fv (Go.Am.Sh.agg [Go.Am.Sh.int Go.IntKind.i64, Go.Am.Sh.int Go.IntKind.i64, Go.Am.Sh.bool, Go.Am.Sh.fs Go.IntKind.u8]) (Go.Am.AV.toElems (List.headD r0.snd Go.Am.AV.undef)), Go.Am.AV.int Go.IntKind.i64 (Go.Am.AV.toInt (List.headD (List.tail r0.snd) Go.Am.AV.undef)), Go.Am.AV.int Go.IntKind.i64 (Go.Am.AV.toInt (List.headD (List.tail (List.tail r0.snd)) Go.Am.AV.undef))]))
       (none)))))
   (none)) := by kernel_rfl

theorem step7 (n : Nat) (k : Go.Proofs.Ytjhbpadplglnlaa.Am.Knt) (bs : List Int) (caps : List Go.Am.AV) (off : Int) : st7 n k bs caps off =
  brO (Decidable.decide (off < Int.ofNat (List.length bs)))
  (brO (Decidable.decide (Go.IntKind.wrap Go.IntKind.i64 (Int.ofNat (List.length bs) - off) < 8))
   (some ((1, [Go.Am.AV.fv (Go.Am.Sh.agg [Go.Am.Sh.int Go.IntKind.i64, Go.Am.Sh.int Go.IntKind.i64, Go.Am.Sh.bool, Go.Am.Sh.fs Go.IntKind.u8]) [], Go.Am.AV.int Go.IntKind.i64 204, Go.Am.AV.int Go.IntKind.i64 off])))
   (brO (Decidable.decide (0 ≤ off) && (Decidable.decide (off ≤ Go.IntKind.wrap Go.IntKind.i64 (off + 8)) && (Decidable.decide (Go.IntKind.wrap Go.IntKind.i64 (off + 8) ≤ Int.ofNat (List.length bs)) && Decidable.decide (Int.ofNat (List.length bs) ≤ Int.ofNat (List.length bs)))))
    (brO (Go.Am.inR 5 (List.length (List.take (Int.toNat (Go.IntKind.wrap Go.IntKind.i64 (off + 8)) - Int.toNat off) (List.drop (Int.toNat off) bs))))
     (brO (Decidable.decide (Go.Am.getI (List.take (Int.toNat (Go.IntKind.wrap Go.IntKind.i64 (off + 8)) - Int.toNat off) (List.drop (Int.toNat off) bs)) 5 > 1))
      (some ((1, [Go.Am.AV.fv (Go.Am.Sh.agg [Go.Am.Sh.int Go.IntKind.i64, Go.Am.Sh.int Go.IntKind.i64, Go.Am.Sh.bool, Go.Am.Sh.fs Go.IntKind.u8]) [], Go.Am.AV.int Go.IntKind.i64 204, Go.Am.AV.int Go.IntKind.i64 (Go.IntKind.wrap Go.IntKind.i64 (off + 5))])))
      (brO (Go.Am.inR 6 (List.length (List.take (Int.toNat (Go.IntKind.wrap Go.IntKind.i64 (off + 8)) - Int.toNat off) (List.drop (Int.toNat off) bs))))
       (brO (Go.Am.inR 7 (List.length (List.take (Int.toNat (Go.IntKind.wrap Go.IntKind.i64 (off + 8)) - Int.toNat off) (List.drop (Int.toNat off) bs))))
        (brO (Decidable.decide (Go.IntKind.wrap Go.IntKind.i64 (Go.IntKind.wrap Go.IntKind.i64 (Int.ofNat (List.length bs) - off) - 8) < Go.IntKind.wrap Go.IntKind.i64 (Go.IntKind.wrap Go.IntKind.i64 (Go.IntKind.wrap Go.IntKind.i64 (Go.Am.getI (List.take (Int.toNat (Go.IntKind.wrap Go.IntKind.i64 (off + 8)) - Int.toNat off) (List.drop (Int.toNat off) bs)) 6) * Int.ofNat (2 ^ Min.min (Int.toNat 8) (Go.IntKind.bits Go.IntKind.i64))) + Go.IntKind.wrap Go.IntKind.i64 (Go.Am.getI (List.take (Int.toNat (Go.IntKind.wrap Go.IntKind.i64 (off + 8)) - Int.toNat off) (List.drop (Int.toNat off) bs)) 7))))
         (some ((1, [Go.Am.AV.fv (Go.Am.Sh.agg [Go.Am.Sh.int Go.IntKind.i64, Go.Am.Sh.int Go.IntKind.i64, Go.Am.Sh.bool, Go.Am.Sh.fs Go.IntKind.u8]) [], Go.Am.AV.int Go.IntKind.i64 204, Go.Am.AV.int Go.IntKind.i64 off])))
         (brO (Decidable.decide (0 ≤ Go.IntKind.wrap Go.IntKind.i64 (off + 8)) && (Decidable.decide (Go.IntKind.wrap Go.IntKind.i64 (off + 8) ≤ Go.IntKind.wrap Go.IntKind.i64 (Go.IntKind.wrap Go.IntKind.i64 (off + 8) + Go.IntKind.wrap Go.IntKind.i64 (Go.IntKind.wrap Go.IntKind.i64 (Go.IntKind.wrap Go.IntKind.i64 (Go.Am.getI (List.take (Int.toNat (Go.IntKind.wrap Go.IntKind.i64 (off + 8)) - Int.toNat off) (List.drop (Int.toNat off) bs)) 6) * Int.ofNat (2 ^ Min.min (Int.toNat 8) (Go.IntKind.bits Go.IntKind.i64))) + Go.IntKind.wrap Go.IntKind.i64 (Go.Am.getI (List.take (Int.toNat (Go.IntKind.wrap Go.IntKind.i64 (off + 8)) - Int.toNat off) (List.drop (Int.toNat off) bs)) 7)))) && (Decidable.decide (Go.IntKind.wrap Go.IntKind.i64 (Go.IntKind.wrap Go.IntKind.i64 (off + 8) + Go.IntKind.wrap Go.IntKind.i64 (Go.IntKind.wrap Go.IntKind.i64 (Go.IntKind.wrap Go.IntKind.i64 (Go.Am.getI (List.take (Int.toNat (Go.IntKind.wrap Go.IntKind.i64 (off + 8)) - Int.toNat off) (List.drop (Int.toNat off) bs)) 6) * Int.ofNat (2 ^ Min.min (Int.toNat 8) (Go.IntKind.bits Go.IntKind.i64))) + Go.IntKind.wrap Go.IntKind.i64 (Go.Am.getI (List.take (Int.toNat (Go.IntKind.wrap Go.IntKind.i64 (off + 8)) - Int.toNat off) (List.drop (Int.toNat off) bs)) 7))) ≤ Int.ofNat (List.length bs)) && Decidable.decide (Int.ofNat (List.length bs) ≤ Int.ofNat (List.length bs)))))
          (brO (Nat.ble ((0 + List.length (List.take (Int.toNat (Go.IntKind.wrap Go.IntKind.i64 (Go.IntKind.wrap Go.IntKind.i64 (off + 8) + Go.IntKind.wrap Go.IntKind.i64 (Go.IntKind.wrap Go.IntKind.i64 (Go.IntKind.wrap Go.IntKind.i64 (Go.Am.getI (List.take (Int.toNat (Go.IntKind.wrap Go.IntKind.i64 (off + 8)) - Int.toNat off) (List.drop (Int.toNat off) bs)) 6) * Int.ofNat (2 ^ Min.min (Int.toNat 8) (Go.IntKind.bits Go.IntKind.i64))) + Go.IntKind.wrap Go.IntKind.i64 (Go.Am.getI (List.take (Int.toNat (Go.IntKind.wrap Go.IntKind.i64 (off + 8)) - Int.toNat off) (List.drop (Int.toNat off) bs)) 7)))) - Int.toNat (Go.IntKind.wrap Go.IntKind.i64 (off + 8))) (List.drop (Int.toNat (Go.IntKind.wrap Go.IntKind.i64 (off + 8))) bs))) * 1) 140737488355328)
           (brO (Go.Am.inR 0 (List.length (List.take (Int.toNat (Go.IntKind.wrap Go.IntKind.i64 (off + 8)) - Int.toNat off) (List.drop (Int.toNat off) bs))))
            (brO (Go.Am.inR 1 (List.length (List.take (Int.toNat (Go.IntKind.wrap Go.IntKind.i64 (off + 8)) - Int.toNat off) (List.drop (Int.toNat off) bs))))
             (brO (Go.Am.inR 2 (List.length (List.take (Int.toNat (Go.IntKind.wrap Go.IntKind.i64 (off + 8)) - Int.toNat off) (List.drop (Int.toNat off) bs))))
              (brO (Go.Am.inR 3 (List.length (List.take (Int.toNat (Go.IntKind.wrap Go.IntKind.i64 (off + 8)) - Int.toNat off) (List.drop (Int.toNat off) bs))))
               (brO (Go.Am.inR 4 (List.length (List.take (Int.toNat (Go.IntKind.wrap Go.IntKind.i64 (off + 8)) - Int.toNat off) (List.drop (Int.toNat off) bs))))
                (brO (Go.Am.inR 5 (List.length (List.take (Int.toNat (Go.IntKind.wrap Go.IntKind.i64 (off + 8)) - Int.toNat off) (List.drop (Int.toNat off) bs))))
                 (brO (Nat.ble ((List.length caps + List.length [Go.Am.AV.agg [Go.Am.AV.int Go.IntKind.i64 (Go.IntKind.wrap Go.IntKind.i64 (Go.IntKind.wrap Go.IntKind.i64 (Go.IntKind.wrap Go.IntKind.i64 (Go.IntKind.wrap Go.IntKind.i64 (Go.IntKind.wrap Go.IntKind.i64 (Go.Am.getI (List.take (Int.toNat (Go.IntKind.wrap Go.IntKind.i64 (off + 8)) - Int.toNat off) (List.drop (Int.toNat off) bs)) 0) * Int.ofNat (2 ^ Min.min (Int.toNat 24) (Go.IntKind.bits Go.IntKind.i64))) + Go.IntKind.wrap Go.IntKind.i64 (Go.IntKind.wrap Go.IntKind.i64 (Go.Am.getI (List.take (Int.toNat (Go.IntKind.wrap Go.IntKind.i64 (off + 8)) - Int.toNat off) (List.drop (Int.toNat off) bs)) 1) * Int.ofNat (2 ^ Min.min (Int.toNat 16) (Go.IntKind.bits Go.IntKind.i64)))) + Go.IntKind.wrap Go.IntKind.i64 (Go.IntKind.wrap Go.IntKind.i64 (Go.Am.getI (List.take (Int.toNat (Go.IntKind.wrap Go.IntKind.i64 (off + 8)) - Int.toNat off) (List.drop (Int.toNat off) bs)) 2) * Int.ofNat (2 ^ Min.min (Int.toNat 8) (Go.IntKind.bits Go.IntKind.i64)))) + Go.IntKind.wrap Go.IntKind.i64 (Go.Am.getI (List.take (Int.toNat (Go.IntKind.wrap Go.IntKind.i64 (off + 8)) - Int.toNat off) (List.drop (Int.toNat off) bs)) 3))), Go.Am.AV.int Go.IntKind.i64 (Go.IntKind.wrap Go.IntKind.i64 (Go.Am.getI (List.take (Int.toNat (Go.IntKind.wrap Go.IntKind.i64 (off + 8)) - Int.toNat off) (List.drop (Int.toNat off) bs)) 4)), Go.Am.AV.bool (Go.Am.getI (List.take (Int.toNat (Go.IntKind.wrap Go.IntKind.i64 (off + 8)) - Int.toNat off) (List.drop (Int.toNat off) bs)) 5 == 1), Go.Am.AV.fs Go.IntKind.u8 (List.take (Int.toNat (Go.IntKind.wrap Go.IntKind.i64 (Go.IntKind.wrap Go.IntKind.i64 (off + 8) + Go.IntKind.wrap Go.IntKind.i64 (Go.IntKind.wrap Go.IntKind.i64 (Go.IntKind.wrap Go.IntKind.i64 (Go.Am.getI (List.take (Int.toNat (Go.IntKind.wrap Go.IntKind.i64 (off + 8)) - Int.toNat off) (List.drop (Int.toNat off) bs)) 6) * Int.ofNat (2 ^ Min.min (Int.toNat 8) (Go.IntKind.bits Go.IntKind.i64))) + Go.IntKind.wrap Go.IntKind.i64 (Go.Am.getI (List.take (Int.toNat (Go.IntKind.wrap Go.IntKind.i64 (off + 8)) - Int.toNat off) (List.drop (Int.toNat off) bs)) 7)))) - Int.toNat (Go.IntKind.wrap Go.IntKind.i64 (off + 8))) (List.drop (Int.toNat (Go.IntKind.wrap Go.IntKind.i64 (off + 8))) bs))]]) * 48) 140737488355328)
                  (k ([Go.Am.AV.fs Go.IntKind.u8 bs, Go.Am.AV.fv (Go.Am.Sh.agg [Go.Am.Sh.int Go.IntKind.i64, Go.Am.Sh.int Go.IntKind.i64, Go.Am.Sh.bool, Go.Am.Sh.fs Go.IntKind.u8]) (caps ++ [Go.Am.AV.agg [Go.Am.AV.int Go.IntKind.i64 (Go.IntKind.wrap Go.IntKind.i64 (Go.IntKind.wrap Go.IntKind.i64 (Go.IntKind.wrap Go.IntKind.i64 (Go.IntKind.wrap Go.IntKind.i64 (Go.IntKind.wrap Go.IntKind.i64 (Go.Am.getI (List.take (Int.toNat (Go.IntKind.wrap Go.IntKind.i64 (off + 8)) - Int.toNat off) (List.drop (Int.toNat off) bs)) 0) * Int.ofNat (2 ^ Min.min (Int.toNat 24) (Go.IntKind.bits Go.IntKind.i64))) + Go.IntKind.wrap Go.IntKind.i64 (Go.IntKind.wrap Go.IntKind.i64 (Go.Am.getI (List.take (Int.toNat (Go.IntKind.wrap Go.IntKind.i64 (off + 8)) - Int.toNat off) (List.drop (Int.toNat off) bs)) 1) * Int.ofNat (2 ^ Min.min (Int.toNat 16) (Go.IntKind.bits Go.IntKind.i64)))) + Go.IntKind.wrap Go.IntKind.i64 (Go.IntKind.wrap Go.IntKind.i64 (Go.Am.getI (List.take (Int.toNat (Go.IntKind.wrap Go.IntKind.i64 (off + 8)) - Int.toNat off) (List.drop (Int.toNat off) bs)) 2) * Int.ofNat (2 ^ Min.min (Int.toNat 8) (Go.IntKind.bits Go.IntKind.i64)))) + Go.IntKind.wrap Go.IntKind.i64 (Go.Am.getI (List.take (Int.toNat (Go.IntKind.wrap Go.IntKind.i64 (off + 8)) - Int.toNat off) (List.drop (Int.toNat off) bs)) 3))), Go.Am.AV.int Go.IntKind.i64 (Go.IntKind.wrap Go.IntKind.i64 (Go.Am.getI (List.take (Int.toNat (Go.IntKind.wrap Go.IntKind.i64 (off + 8)) - Int.toNat off) (List.drop (Int.toNat off) bs)) 4)), Go.Am.AV.bool (Go.Am.getI (List.take (Int.toNat (Go.IntKind.wrap Go.IntKind.i64 (off + 8)) - Int.toNat off) (List.drop (Int.toNat off) bs)) 5 == 1), Go.Am.AV.fs Go.IntKind.u8 (List.take (Int.toNat (Go.IntKind.wrap Go.IntKind.i64 (Go.IntKind.wrap Go.IntKind.i64 (off + 8) + Go.IntKind.wrap Go.IntKind.i64 (Go.IntKind.wrap Go.IntKind.i64 (Go.IntKind.wrap Go.IntKind.i64 (Go.Am.getI (List.take (Int.toNat (Go.IntKind.wrap Go.IntKind.i64 (off + 8)) - Int.toNat off) (List.drop (Int.toNat off) bs)) 6) * Int.ofNat (2 ^ Min.min (Int.toNat 8) (Go.IntKind.bits Go.IntKind.i64))) + Go.IntKind.wrap Go.IntKind.i64 (Go.Am.getI (List.take (Int.toNat (Go.IntKind.wrap Go.IntKind.i64 (off + 8)) - Int.toNat off) (List.drop (Int.toNat off) bs)) 7)))) - Int.toNat (Go.IntKind.wrap Go.IntKind.i64 (off + 8))) (List.drop (Int.toNat (Go.IntKind.wrap Go.IntKind.i64 (off + 8))) bs))]]), Go.Am.AV.int Go.IntKind.i64 (Go.IntKind.wrap Go.IntKind.i64 (Go.IntKind.wrap Go.IntKind.i64 (off + 8) + Go.IntKind.wrap Go.IntKind.i64 (Go.IntKind.wrap Go.IntKind.i64 (Go.IntKind.wrap Go.IntKind.i64 (Go.Am.getI (List.take (Int.toNat (Go.IntKind.wrap Go.IntKind.i64 (off + 8)) - Int.toNat off) (List.drop (Int.toNat off) bs)) 6) * Int.ofNat (2 ^ Min.min (Int.toNat 8) (Go.IntKind.bits Go.IntKind.i64))) + Go.IntKind.wrap Go.IntKind.i64 (Go.Am.getI (List.take (Int.toNat (Go.IntKind.wrap Go.IntKind.i64 (off + 8)) - Int.toNat off) (List.drop (Int.toNat off) bs)) 7))))]))
                  (none))
                 (none))
                (none))
               (none))
              (none))
             (none))
            (none))
           (none))
          (none)))
        (none))
       (none)))
     (none))
    (none)))
  (some ((0, [Go.Am.AV.fv (Go.Am.Sh.agg [Go.Am.Sh.int Go.IntKind.i64, Go.Am.Sh.int Go.IntKind.i64, Go.Am.Sh.bool, Go.Am.Sh.fs Go.IntKind.u8]) caps]))) := by kernel_rfl

theorem eq7 (n : Nat) (bs : List Int) : run7 n bs =
  brO (Decidable.decide (Int.ofNat (List.length bs) < 8))
  (some ([Go.Am.AV.fv (Go.Am.Sh.agg [Go.Am.Sh.int Go.IntKind.i64, Go.Am.Sh.int Go.IntKind.i64, Go.Am.Sh.bool, Go.Am.Sh.fs Go.IntKind.u8]) [], Go.Am.AV.int Go.IntKind.i64 204, Go.Am.AV.int Go.IntKind.i64 0]))
  (brO (Decidable.decide (8 ≤ Int.ofNat (List.length bs)) && Decidable.decide (Int.ofNat (List.length bs) ≤ Int.ofNat (List.length bs)))
   (brO (!List.map Go.Am.toU8 (List.take 8 (List.drop 0 bs)) == [87, 69, 73, 82, 67, 65, 80, 49])
    (some ([Go.Am.AV.fv (Go.Am.Sh.agg [Go.Am.Sh.int Go.IntKind.i64, Go.Am.Sh.int Go.IntKind.i64, Go.Am.Sh.bool, Go.Am.Sh.fs Go.IntKind.u8]) [], Go.Am.AV.int Go.IntKind.i64 204, Go.Am.AV.int Go.IntKind.i64 0]))
    ((lp7 n n [Go.Am.AV.fs Go.IntKind.u8 bs, Go.Am.AV.fv (Go.Am.Sh.agg [Go.Am.Sh.int Go.IntKind.i64, Go.Am.Sh.int Go.IntKind.i64, Go.Am.Sh.bool, Go.Am.Sh.fs Go.IntKind.u8]) [], Go.Am.AV.int Go.IntKind.i64 8]).bind fun r0 =>
     (brO (Nat.beq r0.fst 0)
      (some ([Go.Am.AV.fv (Go.Am.Sh.agg [Go.Am.Sh.int Go.IntKind.i64, Go.Am.Sh.int Go.IntKind.i64, Go.Am.Sh.bool, Go.Am.Sh.fs Go.IntKind.u8]) (Go.Am.AV.toElems (List.headD r0.snd Go.Am.AV.undef)), Go.Am.AV.int Go.IntKind.i64 0, Go.Am.AV.int Go.IntKind.i64 0]))
      (brO (Nat.beq r0.fst 1)
       (some ([Go.Am.AV.fv (Go.Am.Sh.agg [Go.Am.Sh.int Go.IntKind.i64, Go.Am.Sh.int Go.IntKind.i64, Go.Am.Sh.bool, Go.Am.Sh.fs Go.IntKind.u8]) (Go.Am.AV.toElems (List.headD r0.snd Go.Am.AV.undef)), Go.Am.AV.int Go.IntKind.i64 (Go.Am.AV.toInt (List.headD (List.tail r0.snd) Go.Am.AV.undef)), Go.Am.AV.int Go.IntKind.i64 (Go.Am.AV.toInt (List.headD (List.tail (List.tail r0.snd)) Go.Am.AV.undef))]))
       (none)))))
   (none)) := by kernel_rfl

theorem step8 (n : Nat) (k : Go.Proofs.Ytjhbpadplglnlaa.Am.Knt) (xs : List Go.Am.AV) (ys : List Go.Am.AV) (i : Int) : st8 n k xs ys i =
  brO (Decidable.decide (i < Int.ofNat (List.length xs)))
  (brO (Go.Am.inR i (List.length xs))
   (brO (Go.Am.inR i (List.length ys))
    (brO (Go.Am.AV.toInt (Go.Am.AV.item (Go.Am.getE xs (Int.toNat i)) 0) != Go.Am.AV.toInt (Go.Am.AV.item (Go.Am.getE ys (Int.toNat i)) 0))
     (some ((1, [Go.Am.AV.bool Bool.false])))
     (brO (Go.Am.inR i (List.length xs))
      (brO (Go.Am.inR i (List.length ys))
       (brO (Go.Am.AV.toInt (Go.Am.AV.item (Go.Am.getE xs (Int.toNat i)) 1) != Go.Am.AV.toInt (Go.Am.AV.item (Go.Am.getE ys (Int.toNat i)) 1))
        (some ((1, [Go.Am.AV.bool Bool.false])))
        (brO (Go.Am.inR i (List.length xs))
         (brO (Go.Am.inR i (List.length ys))
          (brO (!Go.Am.AV.toBool (Go.Am.AV.item (Go.Am.getE xs (Int.toNat i)) 2) == Go.Am.AV.toBool (Go.Am.AV.item (Go.Am.getE ys (Int.toNat i)) 2))
           (some ((1, [Go.Am.AV.bool Bool.false])))
           (brO (Go.Am.inR i (List.length xs))
            (brO (Go.Am.inR i (List.length ys))
             (brO (!List.map Go.Am.toU8 (Go.Am.AV.toInts (Go.Am.AV.item (Go.Am.getE xs (Int.toNat i)) 3)) == List.map Go.Am.toU8 (Go.Am.AV.toInts (Go.Am.AV.item (Go.Am.getE ys (Int.toNat i)) 3)))
              (some ((1, [Go.Am.AV.bool Bool.false])))
              (k ([Go.Am.AV.fv (Go.Am.Sh.agg [Go.Am.Sh.int Go.IntKind.i64, Go.Am.Sh.int Go.IntKind.i64, Go.Am.Sh.bool, Go.Am.Sh.fs Go.IntKind.u8]) xs, Go.Am.AV.fv (Go.Am.Sh.agg [Go.Am.Sh.int Go.IntKind.i64, Go.Am.Sh.int Go.IntKind.i64, Go.Am.Sh.bool, Go.Am.Sh.fs Go.IntKind.u8]) ys, Go.Am.AV.int Go.IntKind.i64 (Go.IntKind.wrap Go.IntKind.i64 (i + 1))])))
             (none))
            (none)))
          (none))
         (none)))
       (none))
      (none)))
    (none))
   (none))
  (some ((0, []))) := by kernel_rfl

theorem eq8 (n : Nat) (xs : List Go.Am.AV) (ys : List Go.Am.AV) : run8 n xs ys =
  brO (Int.ofNat (List.length xs) != Int.ofNat (List.length ys))
  (some ([Go.Am.AV.bool Bool.false]))
  ((lp8 n n [Go.Am.AV.fv (Go.Am.Sh.agg [Go.Am.Sh.int Go.IntKind.i64, Go.Am.Sh.int Go.IntKind.i64, Go.Am.Sh.bool, Go.Am.Sh.fs Go.IntKind.u8]) xs, Go.Am.AV.fv (Go.Am.Sh.agg [Go.Am.Sh.int Go.IntKind.i64, Go.Am.Sh.int Go.IntKind.i64, Go.Am.Sh.bool, Go.Am.Sh.fs Go.IntKind.u8]) ys, Go.Am.AV.int Go.IntKind.i64 0]).bind fun r0 =>
   (brO (Nat.beq r0.fst 0)
    (some ([Go.Am.AV.bool Bool.true]))
    (brO (Nat.beq r0.fst 1)
     (some ([Go.Am.AV.bool (Go.Am.AV.toBool (List.headD r0.snd Go.Am.AV.undef))]))
     (none)))) := by kernel_rfl

theorem step9 (n : Nat) (k : Go.Proofs.Ytjhbpadplglnlaa.Am.Knt) (out : List Int) (xs : List Go.Am.AV) (len : Int) (i : Int) : st9 n k out xs len i =
  brO (Decidable.decide (i < len))
  (brO (Go.Am.inR i (List.length xs))
   (brO (Decidable.decide (Go.Am.AV.toInt (Go.Am.AV.item (Go.Am.getE xs (Int.toNat i)) 0) < 0))
    (some ((1, [Go.Am.AV.fs Go.IntKind.u8 [], Go.Am.AV.int Go.IntKind.i64 1])))
    (brO (Decidable.decide (Go.Am.AV.toInt (Go.Am.AV.item (Go.Am.getE xs (Int.toNat i)) 0) > 4294967295))
     (some ((1, [Go.Am.AV.fs Go.IntKind.u8 [], Go.Am.AV.int Go.IntKind.i64 1])))
     (brO (Decidable.decide (Go.Am.AV.toInt (Go.Am.AV.item (Go.Am.getE xs (Int.toNat i)) 1) < 0))
      (some ((1, [Go.Am.AV.fs Go.IntKind.u8 [], Go.Am.AV.int Go.IntKind.i64 1])))
      (brO (Decidable.decide (Go.Am.AV.toInt (Go.Am.AV.item (Go.Am.getE xs (Int.toNat i)) 1) > 255))
       (some ((1, [Go.Am.AV.fs Go.IntKind.u8 [], Go.Am.AV.int Go.IntKind.i64 1])))
       (brO (Decidable.decide (Int.ofNat (List.length (Go.Am.AV.toInts (Go.Am.AV.item (Go.Am.getE xs (Int.toNat i)) 3))) > 65535))
        (some ((1, [Go.Am.AV.fs Go.IntKind.u8 [], Go.Am.AV.int Go.IntKind.i64 2])))
        (brO (Go.Am.AV.toBool (Go.Am.AV.item (Go.Am.getE xs (Int.toNat i)) 2))
         (brO (Nat.ble ((List.length out + List.length [Go.IntKind.wrap Go.IntKind.u8 (Int.fdiv (Go.Am.AV.toInt (Go.Am.AV.item (Go.Am.getE xs (Int.toNat i)) 0)) (Int.ofNat (2 ^ Min.min (Int.toNat 24) (Go.IntKind.bits Go.IntKind.i64)))), Go.IntKind.wrap Go.IntKind.u8 (Int.fdiv (Go.Am.AV.toInt (Go.Am.AV.item (Go.Am.getE xs (Int.toNat i)) 0)) (Int.ofNat (2 ^ Min.min (Int.toNat 16) (Go.IntKind.bits Go.IntKind.i64)))), Go.IntKind.wrap Go.IntKind.u8 (Int.fdiv (Go.Am.AV.toInt (Go.Am.AV.item (Go.Am.getE xs (Int.toNat i)) 0)) (Int.ofNat (2 ^ Min.min (Int.toNat 8) (Go.IntKind.bits Go.IntKind.i64)))), Go.IntKind.wrap Go.IntKind.u8 (Go.Am.AV.toInt (Go.Am.AV.item (Go.Am.getE xs (Int.toNat i)) 0)), Go.IntKind.wrap Go.IntKind.u8 (Go.Am.AV.toInt (Go.Am.AV.item (Go.Am.getE xs (Int.toNat i)) 1)), 1, Go.IntKind.wrap Go.IntKind.u8 (Int.fdiv (Int.ofNat (List.length (Go.Am.AV.toInts (Go.Am.AV.item (Go.Am.getE xs (Int.toNat i)) 3)))) (Int.ofNat (2 ^ Min.min (Int.toNat 8) (Go.IntKind.bits Go.IntKind.i64)))), Go.IntKind.wrap Go.IntKind.u8 (Int.ofNat (List.length (Go.Am.AV.toInts (Go.Am.AV.item (Go.Am.getE xs (Int.toNat i)) 3))))]) * 1) 140737488355328)
          (brO (Nat.ble ((List.length (out ++ [Go.IntKind.wrap Go.IntKind.u8 (Int.fdiv (Go.Am.AV.toInt (Go.Am.AV.item (Go.Am.getE xs (Int.toNat i)) 0)) (Int.ofNat (2 ^ Min.min (Int.toNat 24) (Go.IntKind.bits Go.IntKind.i64)))), Go.IntKind.wrap Go.IntKind.u8 (Int.fdiv (Go.Am.AV.toInt (Go.Am.AV.item (Go.Am.getE xs (Int.toNat i)) 0)) (Int.ofNat (2 ^ Min.min (Int.toNat 16) (Go.IntKind.bits Go.IntKind.i64)))), Go.IntKind.wrap Go.IntKind.u8 (Int.fdiv (Go.Am.AV.toInt (Go.Am.AV.item (Go.Am.getE xs (Int.toNat i)) 0)) (Int.ofNat (2 ^ Min.min (Int.toNat 8) (Go.IntKind.bits Go.IntKind.i64)))), Go.IntKind.wrap Go.IntKind.u8 (Go.Am.AV.toInt (Go.Am.AV.item (Go.Am.getE xs (Int.toNat i)) 0)), Go.IntKind.wrap Go.IntKind.u8 (Go.Am.AV.toInt (Go.Am.AV.item (Go.Am.getE xs (Int.toNat i)) 1)), 1, Go.IntKind.wrap Go.IntKind.u8 (Int.fdiv (Int.ofNat (List.length (Go.Am.AV.toInts (Go.Am.AV.item (Go.Am.getE xs (Int.toNat i)) 3)))) (Int.ofNat (2 ^ Min.min (Int.toNat 8) (Go.IntKind.bits Go.IntKind.i64)))), Go.IntKind.wrap Go.IntKind.u8 (Int.ofNat (List.length (Go.Am.AV.toInts (Go.Am.AV.item (Go.Am.getE xs (Int.toNat i)) 3))))]) + List.length (Go.Am.AV.toInts (Go.Am.AV.item (Go.Am.getE xs (Int.toNat i)) 3))) * 1) 140737488355328)
           (k ([Go.Am.AV.fs Go.IntKind.u8 (out ++ [Go.IntKind.wrap Go.IntKind.u8 (Int.fdiv (Go.Am.AV.toInt (Go.Am.AV.item (Go.Am.getE xs (Int.toNat i)) 0)) (Int.ofNat (2 ^ Min.min (Int.toNat 24) (Go.IntKind.bits Go.IntKind.i64)))), Go.IntKind.wrap Go.IntKind.u8 (Int.fdiv (Go.Am.AV.toInt (Go.Am.AV.item (Go.Am.getE xs (Int.toNat i)) 0)) (Int.ofNat (2 ^ Min.min (Int.toNat 16) (Go.IntKind.bits Go.IntKind.i64)))), Go.IntKind.wrap Go.IntKind.u8 (Int.fdiv (Go.Am.AV.toInt (Go.Am.AV.item (Go.Am.getE xs (Int.toNat i)) 0)) (Int.ofNat (2 ^ Min.min (Int.toNat 8) (Go.IntKind.bits Go.IntKind.i64)))), Go.IntKind.wrap Go.IntKind.u8 (Go.Am.AV.toInt (Go.Am.AV.item (Go.Am.getE xs (Int.toNat i)) 0)), Go.IntKind.wrap Go.IntKind.u8 (Go.Am.AV.toInt (Go.Am.AV.item (Go.Am.getE xs (Int.toNat i)) 1)), 1, Go.IntKind.wrap Go.IntKind.u8 (Int.fdiv (Int.ofNat (List.length (Go.Am.AV.toInts (Go.Am.AV.item (Go.Am.getE xs (Int.toNat i)) 3)))) (Int.ofNat (2 ^ Min.min (Int.toNat 8) (Go.IntKind.bits Go.IntKind.i64)))), Go.IntKind.wrap Go.IntKind.u8 (Int.ofNat (List.length (Go.Am.AV.toInts (Go.Am.AV.item (Go.Am.getE xs (Int.toNat i)) 3))))] ++ Go.Am.AV.toInts (Go.Am.AV.item (Go.Am.getE xs (Int.toNat i)) 3)), Go.Am.AV.fv (Go.Am.Sh.agg [Go.Am.Sh.int Go.IntKind.i64, Go.Am.Sh.int Go.IntKind.i64, Go.Am.Sh.bool, Go.Am.Sh.fs Go.IntKind.u8]) xs, Go.Am.AV.int Go.IntKind.i64 len, Go.Am.AV.int Go.IntKind.i64 (Go.IntKind.wrap Go.IntKind.i64 (i + 1))]))
           (none))
          (none))
         (brO (Nat.ble ((List.length out + List.length [Go.IntKind.wrap Go.IntKind.u8 (Int.fdiv (Go.Am.AV.toInt (Go.Am.AV.item (Go.Am.getE xs (Int.toNat i)) 0)) (Int.ofNat (2 ^ Min.min (Int.toNat 24) (Go.IntKind.bits Go.IntKind.i64)))), Go.IntKind.wrap Go.IntKind.u8 (Int.fdiv (Go.Am.AV.toInt (Go.Am.AV.item (Go.Am.getE xs (Int.toNat i)) 0)) (Int.ofNat (2 ^ Min.min (Int.toNat 16) (Go.IntKind.bits Go.IntKind.i64)))), Go.IntKind.wrap Go.IntKind.u8 (Int.fdiv (Go.Am.AV.toInt (Go.Am.AV.item (Go.Am.getE xs (Int.toNat i)) 0)) (Int.ofNat (2 ^ Min.min (Int.toNat 8) (Go.IntKind.bits Go.IntKind.i64)))), Go.IntKind.wrap Go.IntKind.u8 (Go.Am.AV.toInt (Go.Am.AV.item (Go.Am.getE xs (Int.toNat i)) 0)), Go.IntKind.wrap Go.IntKind.u8 (Go.Am.AV.toInt (Go.Am.AV.item (Go.Am.getE xs (Int.toNat i)) 1)), 0, Go.IntKind.wrap Go.IntKind.u8 (Int.fdiv (Int.ofNat (List.length (Go.Am.AV.toInts (Go.Am.AV.item (Go.Am.getE xs (Int.toNat i)) 3)))) (Int.ofNat (2 ^ Min.min (Int.toNat 8) (Go.IntKind.bits Go.IntKind.i64)))), Go.IntKind.wrap Go.IntKind.u8 (Int.ofNat (List.length (Go.Am.AV.toInts (Go.Am.AV.item (Go.Am.getE xs (Int.toNat i)) 3))))]) * 1) 140737488355328)
          (brO (Nat.ble ((List.length (out ++ [Go.IntKind.wrap Go.IntKind.u8 (Int.fdiv (Go.Am.AV.toInt (Go.Am.AV.item (Go.Am.getE xs (Int.toNat i)) 0)) (Int.ofNat (2 ^ Min.min (Int.toNat 24) (Go.IntKind.bits Go.IntKind.i64)))), Go.IntKind.wrap Go.IntKind.u8 (Int.fdiv (Go.Am.AV.toInt (Go.Am.AV.item (Go.Am.getE xs (Int.toNat i)) 0)) (Int.ofNat (2 ^ Min.min (Int.toNat 16) (Go.IntKind.bits Go.IntKind.i64)))), Go.IntKind.wrap Go.IntKind.u8 (Int.fdiv (Go.Am.AV.toInt (Go.Am.AV.item (Go.Am.getE xs (Int.toNat i)) 0)) (Int.ofNat (2 ^ Min.min (Int.toNat 8) (Go.IntKind.bits Go.IntKind.i64)))), Go.IntKind.wrap Go.IntKind.u8 (Go.Am.AV.toInt (Go.Am.AV.item (Go.Am.getE xs (Int.toNat i)) 0)), Go.IntKind.wrap Go.IntKind.u8 (Go.Am.AV.toInt (Go.Am.AV.item (Go.Am.getE xs (Int.toNat i)) 1)), 0, Go.IntKind.wrap Go.IntKind.u8 (Int.fdiv (Int.ofNat (List.length (Go.Am.AV.toInts (Go.Am.AV.item (Go.Am.getE xs (Int.toNat i)) 3)))) (Int.ofNat (2 ^ Min.min (Int.toNat 8) (Go.IntKind.bits Go.IntKind.i64)))), Go.IntKind.wrap Go.IntKind.u8 (Int.ofNat (List.length (Go.Am.AV.toInts (Go.Am.AV.item (Go.Am.getE xs (Int.toNat i)) 3))))]) + List.length (Go.Am.AV.toInts (Go.Am.AV.item (Go.Am.getE xs (Int.toNat i)) 3))) * 1) 140737488355328)
           (k ([Go.Am.AV.fs Go.IntKind.u8 (out ++ [Go.IntKind.wrap Go.IntKind.u8 (Int.fdiv (Go.Am.AV.toInt (Go.Am.AV.item (Go.Am.getE xs (Int.toNat i)) 0)) (Int.ofNat (2 ^ Min.min (Int.toNat 24) (Go.IntKind.bits Go.IntKind.i64)))), Go.IntKind.wrap Go.IntKind.u8 (Int.fdiv (Go.Am.AV.toInt (Go.Am.AV.item (Go.Am.getE xs (Int.toNat i)) 0)) (Int.ofNat (2 ^ Min.min (Int.toNat 16) (Go.IntKind.bits Go.IntKind.i64)))), Go.IntKind.wrap Go.IntKind.u8 (Int.fdiv (Go.Am.AV.toInt (Go.Am.AV.item (Go.Am.getE xs (Int.toNat i)) 0)) (Int.ofNat (2 ^ Min.min (Int.toNat 8) (Go.IntKind.bits Go.IntKind.i64)))), Go.IntKind.wrap Go.IntKind.u8 (Go.Am.AV.toInt (Go.Am.AV.item (Go.Am.getE xs (Int.toNat i)) 0)), Go.IntKind.wrap Go.IntKind.u8 (Go.Am.AV.toInt (Go.Am.AV.item (Go.Am.getE xs (Int.toNat i)) 1)), 0, Go.IntKind.wrap Go.IntKind.u8 (Int.fdiv (Int.ofNat (List.length (Go.Am.AV.toInts (Go.Am.AV.item (Go.Am.getE xs (Int.toNat i)) 3)))) (Int.ofNat (2 ^ Min.min (Int.toNat 8) (Go.IntKind.bits Go.IntKind.i64)))), Go.IntKind.wrap Go.IntKind.u8 (Int.ofNat (List.length (Go.Am.AV.toInts (Go.Am.AV.item (Go.Am.getE xs (Int.toNat i)) 3))))] ++ Go.Am.AV.toInts (Go.Am.AV.item (Go.Am.getE xs (Int.toNat i)) 3)), Go.Am.AV.fv (Go.Am.Sh.agg [Go.Am.Sh.int Go.IntKind.i64, Go.Am.Sh.int Go.IntKind.i64, Go.Am.Sh.bool, Go.Am.Sh.fs Go.IntKind.u8]) xs, Go.Am.AV.int Go.IntKind.i64 len, Go.Am.AV.int Go.IntKind.i64 (Go.IntKind.wrap Go.IntKind.i64 (i + 1))]))
           (none))
          (none))))))))
   (none))
  (some ((0, [Go.Am.AV.fs Go.IntKind.u8 out]))) := by kernel_rfl

theorem eq9 (n : Nat) (xs : List Go.Am.AV) : run9 n xs =
  (lp9 n n [Go.Am.AV.fs Go.IntKind.u8 [87, 69, 73, 82, 67, 65, 80, 49], Go.Am.AV.fv (Go.Am.Sh.agg [Go.Am.Sh.int Go.IntKind.i64, Go.Am.Sh.int Go.IntKind.i64, Go.Am.Sh.bool, Go.Am.Sh.fs Go.IntKind.u8]) xs, Go.Am.AV.int Go.IntKind.i64 (Int.ofNat (List.length xs)), Go.Am.AV.int Go.IntKind.i64 0]).bind fun r0 =>
  (brO (Nat.beq r0.fst 0)
   (some ([Go.Am.AV.fs Go.IntKind.u8 (Go.Am.AV.toInts (List.headD r0.snd Go.Am.AV.undef)), Go.Am.AV.int Go.IntKind.i64 0]))
   (brO (Nat.beq r0.fst 1)
    (some ([Go.Am.AV.fs Go.IntKind.u8 (Go.Am.AV.toInts (List.headD r0.snd Go.Am.AV.undef)), Go.Am.AV.int Go.IntKind.i64 (Go.Am.AV.toInt (List.headD (List.tail r0.snd) Go.Am.AV.undef))]))
    (none))) := by kernel_rfl

theorem eq3 (F6 : Go.Proofs.Ytjhbpadplglnlaa.Am.Fun) (F7 : Go.Proofs.Ytjhbpadplglnlaa.Am.Fun) (F8 : Go.Proofs.Ytjhbpadplglnlaa.Am.Fun) (F9 : Go.Proofs.Ytjhbpadplglnlaa.Am.Fun) (n : Nat) (bs : List Int) : run3 F6 F7 F8 F9 n bs =
  brO (Nat.ble ((0 + List.length bs) * 1) 140737488355328)
  (brO (Nat.ble ((List.length bs + 4) * 1) 140737488355328)
   (brO (Decidable.decide (Int.ofNat 0 ≤ Int.ofNat (List.length bs)) && (Decidable.decide (Int.ofNat (List.length bs) ≤ Int.ofNat (List.length (bs ++ [109, 97, 114, 107]))) && Decidable.decide (Int.ofNat (List.length (bs ++ [109, 97, 114, 107])) ≤ Int.ofNat (List.length (bs ++ [109, 97, 114, 107])))))
    (brO (Nat.ble (0 + (Int.toNat (Int.ofNat (List.length bs)) - 0)) (List.length (bs ++ [109, 97, 114, 107])))
     ((F6 (n) ([Go.Am.AV.fs Go.IntKind.u8 (List.take (Int.toNat (Int.ofNat (List.length bs)) - 0) (List.drop 0 (bs ++ [109, 97, 114, 107])))])).bind fun r0 =>
      ((F7 (n) ([Go.Am.AV.fs Go.IntKind.u8 bs])).bind fun r1 =>
       (brO (Go.Am.AV.toInt (List.headD (List.tail r0) Go.Am.AV.undef) != Go.Am.AV.toInt (List.headD (List.tail r1) Go.Am.AV.undef))
        (some ([Go.Am.AV.bool Bool.false]))
        (brO (Go.Am.AV.toInt (List.headD (List.tail (List.tail r0)) Go.Am.AV.undef) != Go.Am.AV.toInt (List.headD (List.tail (List.tail r1)) Go.Am.AV.undef))
         (some ([Go.Am.AV.bool Bool.false]))
         ((F8 (n) ([Go.Am.AV.fv (Go.Am.Sh.agg [Go.Am.Sh.int Go.IntKind.i64, Go.Am.Sh.int Go.IntKind.i64, Go.Am.Sh.bool, Go.Am.Sh.fs Go.IntKind.u8]) (Go.Am.AV.toElems (List.headD r0 Go.Am.AV.undef)), Go.Am.AV.fv (Go.Am.Sh.agg [Go.Am.Sh.int Go.IntKind.i64, Go.Am.Sh.int Go.IntKind.i64, Go.Am.Sh.bool, Go.Am.Sh.fs Go.IntKind.u8]) (Go.Am.AV.toElems (List.headD r1 Go.Am.AV.undef))])).bind fun r2 =>
          (brO (!Go.Am.AV.toBool (List.headD r2 Go.Am.AV.undef))
           (some ([Go.Am.AV.bool Bool.false]))
           (brO (Nat.ble (List.length (List.map Go.Am.toU8 bs) + 4) 140737488355328)
            (brO (!List.map Go.Am.toU8 (bs ++ [109, 97, 114, 107]) == List.map Go.Am.toU8 bs ++ [109, 97, 114, 107])
             (some ([Go.Am.AV.bool Bool.false]))
             (brO (Go.Am.AV.toInt (List.headD (List.tail r0) Go.Am.AV.undef) != 0)
              (some ([Go.Am.AV.bool Bool.true]))
              ((F9 (n) ([Go.Am.AV.fv (Go.Am.Sh.agg [Go.Am.Sh.int Go.IntKind.i64, Go.Am.Sh.int Go.IntKind.i64, Go.Am.Sh.bool, Go.Am.Sh.fs Go.IntKind.u8]) (Go.Am.AV.toElems (List.headD r0 Go.Am.AV.undef))])).bind fun r3 =>
               (brO (Go.Am.AV.toInt (List.headD (List.tail r3) Go.Am.AV.undef) == 0)
                (some ([Go.Am.AV.bool (List.map Go.Am.toU8 (Go.Am.AV.toInts (List.headD r3 Go.Am.AV.undef)) == List.map Go.Am.toU8 bs)]))
                (some ([Go.Am.AV.bool Bool.false]))))))
            (none))))))))
     (none))
    (none))
   (none))
  (none) := by kernel_rfl

end Go.Proofs.Ytjhbpadplglnlaa.Am
