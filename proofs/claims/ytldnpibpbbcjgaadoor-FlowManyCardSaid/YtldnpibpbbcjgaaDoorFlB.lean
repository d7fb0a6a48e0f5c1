/-
  The functions as pure equations. Printed by a program (wip/tool/T3.lean, pr.sh).
  The functions as pure equations. Printed by a program (wip/tool/T3.lean, pr.sh).
  The functions as pure equations. Printed by a program (wip/tool/T3.lean, pr.sh).
-/
import Derived.Test.YtldnpibpbbcjgaaDoorFlA
import Derived.KernelRfl
section
set_option linter.unusedVariables false
set_option maxRecDepth 20000
namespace Go.Proofs.YtldnpibpbbcjgaaDoor.Am
open Go Go.Am Go.Proofs

theorem eq20 (n : Nat) : run20 n =
  some [(.agg [(.int .i64 2), (.agg [(.int .i64 4), (.arr .u8 16 [192, 0, 2, 9, 0, 0, 0, 0, 0, 0, 0, 0, 0, 0, 0, 0])]), (.int .i64 1000), (.int .i64 1001), (.int .i64 2), (.int .i64 9), (.int .i64 3), (.int .i64 4), (.int .i64 1)])] := by kernel_rfl

theorem eq64 (n : Nat) (x0 : AV) : run64 n x0 =
  brO ((AV.toInt (AV.item x0 0)) == 6)
   (some [(.int .i64 128)])
   (jn
    (jn
     (brO ((AV.toInt (AV.item x0 0)) != 4)
      (inl (some [(.bool true)]))
      (inl (some [(.bool (!(keq (.arr .u8 12 (List.take 12 (List.drop 4 (AV.toInts (AV.item x0 1))))) (.arr .u8 12 [0, 0, 0, 0, 0, 0, 0, 0, 0, 0, 0, 0]))))]))) fun d0 =>
    brO (AV.toBool (getE d0 0))
     (inr (some [(.int .i64 0)]))
     (inl (some []))) fun d1 =>
   some [(.int .i64 32)]) := by kernel_rfl

theorem eq49 (F64 : Fun) (n : Nat) (x0 : AV) : run49 F64 n x0 =
  ((F64 n [(eta s24 x0)])).bind fun r0 =>
  brO (Nat.beq (List.length r0) 1)
   (some [(.bool (decide ((AV.toInt (getE r0 0)) > 0)))])
   (none) := by kernel_rfl

theorem eq63 (n : Nat) (x0 : List Int) (x1 : Int) : run63 n x0 x1 =
  jn
   (let v3 : AV := (.arr .u8 16 [0, 0, 0, 0, 0, 0, 0, 0, 0, 0, 0, 0, 0, 0, 0, 0])
   iter (fun d0 k1 =>
    brO (decide ((AV.toInt (getE d0 4)) < 16))
     (let v4 : Bool := (inR (AV.toInt (getE d0 4)) 16)
     brO (v4)
      (let v5 : Int := (IntKind.wrap .i64 ((AV.toInt (getE d0 0)) - (IntKind.wrap .i64 (8 * (AV.toInt (getE d0 4))))))
      let v6 : Int := (match Decidable.decide (v5 > 0) with | Bool.true => v5 | Bool.false => 0)
      let v7 : Int := (IntKind.wrap .u64 (match Decidable.decide (v6 < 8) with | Bool.true => v6 | Bool.false => 8))
      brO (decide (0 ≤ v7))
       (brO (v4)
        (let v8 : AV := (.arr .u8 16 (AV.toInts (getE d0 2)))
        (k1 [(.int .i64 (AV.toInt (getE d0 0))), (.arr .u8 16 (AV.toInts (getE d0 1))), v8, (.arr .u8 16 (List.set (AV.toInts (getE d0 3)) (Int.toNat (AV.toInt (getE d0 4))) (IntKind.wrap .u8 (Int.ofNat (BitVec.toNat ((BitVec.ofInt 8 (getI (AV.toInts (getE d0 1)) (Int.toNat (AV.toInt (getE d0 4))))) &&& (BitVec.ofInt 8 (IntKind.wrap .u8 (Int.fdiv 65280 (2 ^ (Min.min (Int.toNat v7) 64))))))))))), (.int .i64 (IntKind.wrap .i64 ((AV.toInt (getE d0 4)) + 1)))]))
        (none))
       (none))
      (none))
     (inl (let v9 : AV := (.arr .u8 16 (AV.toInts (getE d0 2)))
     some [v9, (.arr .u8 16 (AV.toInts (getE d0 3)))]))) n [(.int .i64 x1), (.arr .u8 16 x0), v3, v3, (.int .i64 0)]) fun d2 =>
  some [(.arr .u8 16 (AV.toInts (getE d2 1)))] := by kernel_rfl

theorem eq48 (F49 : Fun) (F63 : Fun) (n : Nat) (x0 : AV) : run48 F49 F63 n x0 =
  ((F49 n [(eta s24 x0)])).bind fun r0 =>
  brO (Nat.beq (List.length r0) 1)
   (brO (!(AV.toBool (getE r0 0)))
    (some [(.int .i64 0)])
    (jn
     (iter (fun d1 k2 =>
      brO (decide ((AV.toInt (getE d1 2)) < 12))
       (jn
        (brO (inR (AV.toInt (getE d1 2)) 12)
         (jn
          (let v7 : AV := (getE [(eta s112 (AV.item (getE d1 1) 0)), (eta s112 (AV.item (getE d1 1) 1)), (eta s112 (AV.item (getE d1 1) 2)), (eta s112 (AV.item (getE d1 1) 3)), (eta s112 (AV.item (getE d1 1) 4)), (eta s112 (AV.item (getE d1 1) 5)), (eta s112 (AV.item (getE d1 1) 6)), (eta s112 (AV.item (getE d1 1) 7)), (eta s112 (AV.item (getE d1 1) 8)), (eta s112 (AV.item (getE d1 1) 9)), (eta s112 (AV.item (getE d1 1) 10)), (eta s112 (AV.item (getE d1 1) 11))] (Int.toNat (AV.toInt (getE d1 2))))
          brO ((AV.toInt (AV.item v7 0)) == (AV.toInt (AV.item (getE d1 0) 0)))
           (((F63 n [(.arr .u8 16 (AV.toInts (AV.item (getE d1 0) 1))), (.int .i64 (AV.toInt (AV.item v7 2)))])).bind fun r3 =>
           brO (Nat.beq (List.length r3) 1)
            (inl (let v8 : AV := (eta s112 v7)
            let v9 : AV := (.agg [(eta s112 (AV.item (getE d1 1) 0)), (eta s112 (AV.item (getE d1 1) 1)), (eta s112 (AV.item (getE d1 1) 2)), (eta s112 (AV.item (getE d1 1) 3)), (eta s112 (AV.item (getE d1 1) 4)), (eta s112 (AV.item (getE d1 1) 5)), (eta s112 (AV.item (getE d1 1) 6)), (eta s112 (AV.item (getE d1 1) 7)), (eta s112 (AV.item (getE d1 1) 8)), (eta s112 (AV.item (getE d1 1) 9)), (eta s112 (AV.item (getE d1 1) 10)), (eta s112 (AV.item (getE d1 1) 11))])
            some [(eta s24 (getE d1 0)), v8, v9, (.int .i64 (AV.toInt (getE d1 2))), (.bool (keq (.arr .u8 16 (AV.toInts (getE r3 0))) (.arr .u8 16 (AV.toInts (AV.item v7 1)))))]))
            (none))
           (inl (let v10 : AV := (eta s112 v7)
           let v11 : AV := (.agg [(eta s112 (AV.item (getE d1 1) 0)), (eta s112 (AV.item (getE d1 1) 1)), (eta s112 (AV.item (getE d1 1) 2)), (eta s112 (AV.item (getE d1 1) 3)), (eta s112 (AV.item (getE d1 1) 4)), (eta s112 (AV.item (getE d1 1) 5)), (eta s112 (AV.item (getE d1 1) 6)), (eta s112 (AV.item (getE d1 1) 7)), (eta s112 (AV.item (getE d1 1) 8)), (eta s112 (AV.item (getE d1 1) 9)), (eta s112 (AV.item (getE d1 1) 10)), (eta s112 (AV.item (getE d1 1) 11))])
           some [(eta s24 (getE d1 0)), v10, v11, (.int .i64 (AV.toInt (getE d1 2))), (.bool false)]))) fun d4 =>
         brO (AV.toBool (getE d4 4))
          (inr (inr (some [(.int .i64 (AV.toInt (AV.item (getE d4 1) 3)))])))
          (inl (some [(eta s24 (getE d4 0)), (.agg [(eta s112 (AV.item (getE d4 2) 0)), (eta s112 (AV.item (getE d4 2) 1)), (eta s112 (AV.item (getE d4 2) 2)), (eta s112 (AV.item (getE d4 2) 3)), (eta s112 (AV.item (getE d4 2) 4)), (eta s112 (AV.item (getE d4 2) 5)), (eta s112 (AV.item (getE d4 2) 6)), (eta s112 (AV.item (getE d4 2) 7)), (eta s112 (AV.item (getE d4 2) 8)), (eta s112 (AV.item (getE d4 2) 9)), (eta s112 (AV.item (getE d4 2) 10)), (eta s112 (AV.item (getE d4 2) 11))]), (.int .i64 (AV.toInt (getE d4 3)))])))
         (none)) fun d5 =>
       (k2 [(eta s24 (getE d5 0)), (.agg [(eta s112 (AV.item (getE d5 1) 0)), (eta s112 (AV.item (getE d5 1) 1)), (eta s112 (AV.item (getE d5 1) 2)), (eta s112 (AV.item (getE d5 1) 3)), (eta s112 (AV.item (getE d5 1) 4)), (eta s112 (AV.item (getE d5 1) 5)), (eta s112 (AV.item (getE d5 1) 6)), (eta s112 (AV.item (getE d5 1) 7)), (eta s112 (AV.item (getE d5 1) 8)), (eta s112 (AV.item (getE d5 1) 9)), (eta s112 (AV.item (getE d5 1) 10)), (eta s112 (AV.item (getE d5 1) 11))]), (.int .i64 (IntKind.wrap .i64 ((AV.toInt (getE d5 2)) + 1)))]))
       (inl (some []))) n [(eta s24 x0), (.agg netsL), (.int .i64 0)]) fun d6 =>
    some [(.int .i64 7)]))
   (none) := by kernel_rfl

theorem eq38 (F48 : Fun) (F49 : Fun) (n : Nat) (x0 : AV) : run38 F48 F49 n x0 =
  ((F48 n [(eta s24 x0)])).bind fun r0 =>
  brO (Nat.beq (List.length r0) 1)
   (((F49 n [(eta s24 x0)])).bind fun r1 =>
   brO (Nat.beq (List.length r1) 1)
    (brO (AV.toBool (getE r1 0))
     (brO ((AV.toInt (AV.item x0 0)) == 4)
      (brO ((AV.toInt (getE r0 0)) == 7)
       (some [(.bool true)])
       (some [(.bool ((AV.toInt (getE r0 0)) == 4))]))
      (some [(.bool false)]))
     (some [(.bool false)]))
    (none))
   (none) := by kernel_rfl

theorem eq21 (F38 : Fun) (n : Nat) (x0 : AV) (m1 : List AV) (m2 : List AV) (m3 : List AV) (m4 : List AV) : run21 F38 n x0 m1 m2 m3 m4 =
  jn
   (jn
    (brO (decide ((AV.toInt (AV.item x0 0)) < 1))
     (inl (some [(.tup m1), (.tup m2), (.tup m3), (.tup m4), (eta s26 x0), (.bool true)]))
     (brO (decide ((AV.toInt (AV.item x0 0)) > 4096))
      (inl (some [(.tup m1), (.tup m2), (.tup m3), (.tup m4), (eta s26 x0), (.bool true)]))
      (((F38 n [(eta s24 (AV.item x0 1))])).bind fun r0 =>
      brO (Nat.beq (List.length r0) 1)
       (brO (!(AV.toBool (getE r0 0)))
        (inl (some [(.tup m1), (.tup m2), (.tup m3), (.tup m4), (eta s26 x0), (.bool true)]))
        (brO (decide ((AV.toInt (AV.item x0 2)) < 1))
         (inl (some [(.tup m1), (.tup m2), (.tup m3), (.tup m4), (eta s26 x0), (.bool true)]))
         (brO (decide ((AV.toInt (AV.item x0 2)) > (AV.toInt (AV.item x0 3))))
          (inl (some [(.tup m1), (.tup m2), (.tup m3), (.tup m4), (eta s26 x0), (.bool true)]))
          (inl (some [(.tup m1), (.tup m2), (.tup m3), (.tup m4), (eta s26 x0), (.bool (decide ((AV.toInt (AV.item x0 3)) > 65535)))])))))
       (none)))) fun d1 =>
   brO (AV.toBool (getE d1 5))
    (inr (some [(.pt 2 Option.none), (.int .i64 177), (.tup (AV.toElems (getE d1 0))), (.tup (AV.toElems (getE d1 1))), (.tup (AV.toElems (getE d1 2))), (.tup (AV.toElems (getE d1 3)))]))
    (inl (some [(.tup (AV.toElems (getE d1 0))), (.tup (AV.toElems (getE d1 1))), (.tup (AV.toElems (getE d1 2))), (.tup (AV.toElems (getE d1 3))), (eta s26 (getE d1 4))]))) fun d2 =>
  jn
   (iter (fun d3 k4 =>
    brO (decide ((AV.toInt (getE d3 6)) < 5))
     (jn
      (brO (inR (AV.toInt (getE d3 6)) 5)
       (jn
        (let v8 : Int := (getI (AV.toInts (getE d3 5)) (Int.toNat (AV.toInt (getE d3 6))))
        brO (decide (v8 < 1))
         (inl (let v9 : AV := (.arr .i64 5 (AV.toInts (getE d3 5)))
         some [(.tup (AV.toElems (getE d3 0))), (.tup (AV.toElems (getE d3 1))), (.tup (AV.toElems (getE d3 2))), (.tup (AV.toElems (getE d3 3))), (eta s26 (getE d3 4)), v9, (.int .i64 (AV.toInt (getE d3 6))), (.bool true)]))
         (inl (let v10 : AV := (.arr .i64 5 (AV.toInts (getE d3 5)))
         some [(.tup (AV.toElems (getE d3 0))), (.tup (AV.toElems (getE d3 1))), (.tup (AV.toElems (getE d3 2))), (.tup (AV.toElems (getE d3 3))), (eta s26 (getE d3 4)), v10, (.int .i64 (AV.toInt (getE d3 6))), (.bool (decide (v8 > 1048576)))]))) fun d5 =>
       brO (AV.toBool (getE d5 7))
        (inr (inr (some [(.pt 2 Option.none), (.int .i64 177), (.tup (AV.toElems (getE d5 0))), (.tup (AV.toElems (getE d5 1))), (.tup (AV.toElems (getE d5 2))), (.tup (AV.toElems (getE d5 3)))])))
        (inl (some [(.tup (AV.toElems (getE d5 0))), (.tup (AV.toElems (getE d5 1))), (.tup (AV.toElems (getE d5 2))), (.tup (AV.toElems (getE d5 3))), (eta s26 (getE d5 4)), (.arr .i64 5 (AV.toInts (getE d5 5))), (.int .i64 (AV.toInt (getE d5 6)))])))
       (none)) fun d6 =>
     (k4 [(.tup (AV.toElems (getE d6 0))), (.tup (AV.toElems (getE d6 1))), (.tup (AV.toElems (getE d6 2))), (.tup (AV.toElems (getE d6 3))), (eta s26 (getE d6 4)), (.arr .i64 5 (AV.toInts (getE d6 5))), (.int .i64 (IntKind.wrap .i64 ((AV.toInt (getE d6 6)) + 1)))]))
     (inl (some [(.tup (AV.toElems (getE d3 0))), (.tup (AV.toElems (getE d3 1))), (.tup (AV.toElems (getE d3 2))), (.tup (AV.toElems (getE d3 3))), (eta s26 (getE d3 4))]))) n [(.tup (AV.toElems (getE d2 0))), (.tup (AV.toElems (getE d2 1))), (.tup (AV.toElems (getE d2 2))), (.tup (AV.toElems (getE d2 3))), (eta s26 (getE d2 4)), (.arr .i64 5 [(AV.toInt (AV.item (getE d2 4) 4)), (AV.toInt (AV.item (getE d2 4) 5)), (AV.toInt (AV.item (getE d2 4) 6)), (AV.toInt (AV.item (getE d2 4) 7)), (AV.toInt (AV.item (getE d2 4) 8))]), (.int .i64 0)]) fun d7 =>
  some [(.pt 2 (Option.some (List.length (AV.toElems (getE d7 1))))), (.int .i64 0), (.tup (AV.toElems (getE d7 0))), (.tup (HAppend.hAppend (AV.toElems (getE d7 1)) [(.agg [(eta s26 (getE d7 4)), (.mp 3 (Option.some (List.length (AV.toElems (getE d7 2))))), (.mp 4 (Option.some (List.length (AV.toElems (getE d7 3)))))])])), (.tup (HAppend.hAppend (AV.toElems (getE d7 2)) [(.mc [] 0)])), (.tup (HAppend.hAppend (AV.toElems (getE d7 3)) [(.mc [] 0)]))] := by kernel_rfl

theorem eq50 (n : Nat) (x0 : AV) : run50 n x0 =
  brO ((AV.toInt (AV.item x0 0)) != 4)
   (some [(.bool ((AV.toInt (AV.item x0 0)) == 6))])
   (jn
    (iter (fun d0 k1 =>
     brO (decide ((AV.toInt (getE d0 1)) < 16))
      (brO (inR (AV.toInt (getE d0 1)) 16)
       (brO ((getI (AV.toInts (AV.item (getE d0 0) 1)) (Int.toNat (AV.toInt (getE d0 1)))) != 0)
        (inr (some [(.bool false)]))
        ((k1 [(eta s24 (getE d0 0)), (.int .i64 (IntKind.wrap .i64 ((AV.toInt (getE d0 1)) + 1)))])))
       (none))
      (inl (some []))) n [(eta s24 x0), (.int .i64 4)]) fun d2 =>
   some [(.bool true)]) := by kernel_rfl

end Go.Proofs.YtldnpibpbbcjgaaDoor.Am
end

section
set_option linter.unusedVariables false
set_option maxRecDepth 20000
namespace Go.Proofs.YtldnpibpbbcjgaaDoor.Am
open Go Go.Am Go.Proofs

theorem eq77 (n : Nat) (x0 : AV) : run77 n x0 =
  brO ((AV.toInt (AV.item x0 0)) == 4)
   (some [(.int .i64 32)])
   (some [(.int .i64 128)]) := by kernel_rfl

theorem eq79 (n : Nat) (x0 : AV) (x1 : Int) : run79 n x0 x1 =
  brO (inR (IntKind.wrap .i64 (Int.tdiv x1 8)) 16)
   (jn
    (iter (fun d0 k1 =>
     brO (decide ((AV.toInt (getE d0 1)) < 7))
      ((k1 [(.int .i64 (IntKind.wrap .i64 (Int.tdiv (AV.toInt (getE d0 0)) 2))), (.int .i64 (IntKind.wrap .i64 ((AV.toInt (getE d0 1)) + 1)))]))
      (inl (some [(.int .i64 (AV.toInt (getE d0 0)))]))) n [(.int .i64 (IntKind.wrap .i64 (getI (AV.toInts (AV.item x0 1)) (Int.toNat (IntKind.wrap .i64 (Int.tdiv x1 8)))))), (.int .i64 (Int.tmod x1 8))]) fun d2 =>
   some [(.int .i64 (Int.tmod (AV.toInt (getE d2 0)) 2))])
   (none) := by kernel_rfl

theorem eq66 (F50 : Fun) (F78 : Fun) (F79 : Fun) (n : Nat) (x0 : AV) (x1 : AV) : run66 F50 F78 F79 n x0 x1 =
  ((F78 n [(eta s116 x0)])).bind fun r0 =>
  brO (Nat.beq (List.length r0) 1)
   (((F50 n [(eta s24 x1)])).bind fun r1 =>
   brO (Nat.beq (List.length r1) 1)
    (jn
     (jn
      (brO ((AV.toInt (getE r0 0)) != 0)
       (inl (some [(eta s116 x0), (eta s24 x1), (.bool true)]))
       (brO (!(AV.toBool (getE r1 0)))
        (inl (some [(eta s116 x0), (eta s24 x1), (.bool true)]))
        (inl (some [(eta s116 x0), (eta s24 x1), (.bool ((AV.toInt (AV.item (AV.item x0 0) 0)) != (AV.toInt (AV.item x1 0))))])))) fun d2 =>
     brO (AV.toBool (getE d2 2))
      (inr (some [(.bool false)]))
      (inl (some [(eta s116 (getE d2 0)), (eta s24 (getE d2 1))]))) fun d3 =>
    jn
     (iter (fun d4 k5 =>
      let v9 : Int := (AV.toInt (AV.item (getE d4 0) 1))
      brO (decide ((AV.toInt (getE d4 2)) < v9))
       (((F79 n [(eta s24 (AV.item (getE d4 0) 0)), (.int .i64 (AV.toInt (getE d4 2)))])).bind fun r6 =>
       brO (Nat.beq (List.length r6) 1)
        (((F79 n [(eta s24 (getE d4 1)), (.int .i64 (AV.toInt (getE d4 2)))])).bind fun r7 =>
        brO (Nat.beq (List.length r7) 1)
         (brO ((AV.toInt (getE r6 0)) != (AV.toInt (getE r7 0)))
          (inr (some [(.bool false)]))
          ((k5 [(eta s116 (getE d4 0)), (eta s24 (getE d4 1)), (.int .i64 (IntKind.wrap .i64 ((AV.toInt (getE d4 2)) + 1)))])))
         (none))
        (none))
       (inl (some []))) n [(eta s116 (getE d3 0)), (eta s24 (getE d3 1)), (.int .i64 0)]) fun d8 =>
    some [(.bool true)])
    (none))
   (none) := by kernel_rfl

theorem eq51 (F65 : Fun) (F66 : Fun) (n : Nat) (x0 : List UInt8) (x1 : AV) : run51 F65 F66 n x0 x1 =
  ((F65 n [(.str x0)])).bind fun r0 =>
  brO (Nat.beq (List.length r0) 3)
   (((F66 n [(eta s116 (getE r0 0)), (eta s24 x1)])).bind fun r1 =>
   brO (Nat.beq (List.length r1) 1)
    (some [(.bool (AV.toBool (getE r1 0)))])
    (none))
   (none) := by kernel_rfl

theorem eq39 (F50 : Fun) (F51 : Fun) (n : Nat) (x0 : AV) : run39 F50 F51 n x0 =
  ((F50 n [(eta s24 x0)])).bind fun r0 =>
  brO (Nat.beq (List.length r0) 1)
   (jn
    (brO (!(AV.toBool (getE r0 0)))
     (inr (some [(.int .i64 0)]))
     (jn
      (((F51 n [(.str [48, 46, 48, 46, 48, 46, 48, 47, 51, 50]), (eta s24 x0)])).bind fun r1 =>
      brO (Nat.beq (List.length r1) 1)
       (brO (AV.toBool (getE r1 0))
        (inl (some [(eta s24 x0), (.bool true)]))
        (((F51 n [(.str [58, 58, 47, 49, 50, 56]), (eta s24 x0)])).bind fun r2 =>
        brO (Nat.beq (List.length r2) 1)
         (inl (some [(eta s24 x0), (.bool (AV.toBool (getE r2 0)))]))
         (none)))
       (none)) fun d3 =>
     brO (AV.toBool (getE d3 1))
      (inr (some [(.int .i64 1)]))
      (jn
       (((F51 n [(.str [49, 50, 55, 46, 48, 46, 48, 46, 48, 47, 56]), (eta s24 (getE d3 0))])).bind fun r4 =>
       brO (Nat.beq (List.length r4) 1)
        (brO (AV.toBool (getE r4 0))
         (inl (some [(eta s24 (getE d3 0)), (.bool true)]))
         (((F51 n [(.str [58, 58, 49, 47, 49, 50, 56]), (eta s24 (getE d3 0))])).bind fun r5 =>
         brO (Nat.beq (List.length r5) 1)
          (inl (some [(eta s24 (getE d3 0)), (.bool (AV.toBool (getE r5 0)))]))
          (none)))
        (none)) fun d6 =>
      brO (AV.toBool (getE d6 1))
       (inr (some [(.int .i64 2)]))
       (jn
        (((F51 n [(.str [50, 50, 52, 46, 48, 46, 48, 46, 48, 47, 52]), (eta s24 (getE d6 0))])).bind fun r7 =>
        brO (Nat.beq (List.length r7) 1)
         (brO (AV.toBool (getE r7 0))
          (inl (some [(eta s24 (getE d6 0)), (.bool true)]))
          (((F51 n [(.str [102, 102, 48, 48, 58, 58, 47, 56]), (eta s24 (getE d6 0))])).bind fun r8 =>
          brO (Nat.beq (List.length r8) 1)
           (inl (some [(eta s24 (getE d6 0)), (.bool (AV.toBool (getE r8 0)))]))
           (none)))
         (none)) fun d9 =>
       brO (AV.toBool (getE d9 1))
        (inr (some [(.int .i64 3)]))
        (jn
         (((F51 n [(.str [49, 54, 57, 46, 50, 53, 52, 46, 48, 46, 48, 47, 49, 54]), (eta s24 (getE d9 0))])).bind fun r10 =>
         brO (Nat.beq (List.length r10) 1)
          (brO (AV.toBool (getE r10 0))
           (inl (some [(eta s24 (getE d9 0)), (.bool true)]))
           (((F51 n [(.str [102, 101, 56, 48, 58, 58, 47, 49, 48]), (eta s24 (getE d9 0))])).bind fun r11 =>
           brO (Nat.beq (List.length r11) 1)
            (inl (some [(eta s24 (getE d9 0)), (.bool (AV.toBool (getE r11 0)))]))
            (none)))
          (none)) fun d12 =>
        brO (AV.toBool (getE d12 1))
         (inr (some [(.int .i64 4)]))
         (((F51 n [(.str [50, 53, 53, 46, 50, 53, 53, 46, 50, 53, 53, 46, 50, 53, 53, 47, 51, 50]), (eta s24 (getE d12 0))])).bind fun r13 =>
         brO (Nat.beq (List.length r13) 1)
          (brO (AV.toBool (getE r13 0))
           (inr (some [(.int .i64 5)]))
           (jn
            (((F51 n [(.str [48, 46, 48, 46, 48, 46, 48, 47, 56]), (eta s24 (getE d12 0))])).bind fun r14 =>
            brO (Nat.beq (List.length r14) 1)
             (brO (AV.toBool (getE r14 0))
              (inl (some [(.bool true)]))
              (((F51 n [(.str [50, 52, 48, 46, 48, 46, 48, 46, 48, 47, 52]), (eta s24 (getE d12 0))])).bind fun r15 =>
              brO (Nat.beq (List.length r15) 1)
               (brO (AV.toBool (getE r15 0))
                (inl (some [(.bool true)]))
                (((F51 n [(.str [58, 58, 47, 56]), (eta s24 (getE d12 0))])).bind fun r16 =>
                brO (Nat.beq (List.length r16) 1)
                 (inl (some [(.bool (AV.toBool (getE r16 0)))]))
                 (none)))
               (none)))
             (none)) fun d17 =>
           brO (AV.toBool (getE d17 0))
            (inr (some [(.int .i64 6)]))
            (inl (some []))))
          (none))))))) fun d18 =>
   some [(.int .i64 7)])
   (none) := by kernel_rfl

theorem eq40 (n : Nat) (x0 : Int) : run40 n x0 =
  brO (decide (x0 ≥ 1))
   (some [(.bool (decide (x0 ≤ 1048576)))])
   (some [(.bool false)]) := by kernel_rfl

theorem eq23 (F39 : Fun) (F40 : Fun) (n : Nat) (x0 : AV) : run23 F39 F40 n x0 =
  ((F39 n [(eta s24 (AV.item x0 1))])).bind fun r0 =>
  brO (Nat.beq (List.length r0) 1)
   (jn
    (jn
     (brO (decide ((AV.toInt (AV.item x0 0)) < 1))
      (inl (let v10 : AV := (.agg [(.agg [(.int .i64 0), z24, (.int .i64 0), (.int .i64 0), (.int .i64 0), (.int .i64 0), (.int .i64 0), (.int .i64 0), (.int .i64 0)]), (.fv s48 [])])
      some [(eta s26 x0), v10, (.bool true)]))
      (brO (decide ((AV.toInt (AV.item x0 0)) > 4096))
       (inl (let v11 : AV := (.agg [(.agg [(.int .i64 0), z24, (.int .i64 0), (.int .i64 0), (.int .i64 0), (.int .i64 0), (.int .i64 0), (.int .i64 0), (.int .i64 0)]), (.fv s48 [])])
       some [(eta s26 x0), v11, (.bool true)]))
       (brO ((AV.toInt (AV.item (AV.item x0 1) 0)) != 4)
        (inl (let v12 : AV := (.agg [(.agg [(.int .i64 0), z24, (.int .i64 0), (.int .i64 0), (.int .i64 0), (.int .i64 0), (.int .i64 0), (.int .i64 0), (.int .i64 0)]), (.fv s48 [])])
        some [(eta s26 x0), v12, (.bool true)]))
        (brO ((AV.toInt (getE r0 0)) != 7)
         (brO ((AV.toInt (getE r0 0)) != 4)
          (inl (let v13 : AV := (.agg [(.agg [(.int .i64 0), z24, (.int .i64 0), (.int .i64 0), (.int .i64 0), (.int .i64 0), (.int .i64 0), (.int .i64 0), (.int .i64 0)]), (.fv s48 [])])
          some [(eta s26 x0), v13, (.bool true)]))
          (let v14 : Bool := (decide ((AV.toInt (AV.item x0 2)) < 1))
          brO (v14)
           (inl (let v15 : AV := (.agg [(.agg [(.int .i64 0), z24, (.int .i64 0), (.int .i64 0), (.int .i64 0), (.int .i64 0), (.int .i64 0), (.int .i64 0), (.int .i64 0)]), (.fv s48 [])])
           some [(eta s26 x0), v15, (.bool true)]))
           (let v16 : Bool := (decide ((AV.toInt (AV.item x0 2)) > (AV.toInt (AV.item x0 3))))
           brO (v16)
            (inl (let v17 : AV := (.agg [(.agg [(.int .i64 0), z24, (.int .i64 0), (.int .i64 0), (.int .i64 0), (.int .i64 0), (.int .i64 0), (.int .i64 0), (.int .i64 0)]), (.fv s48 [])])
            some [(eta s26 x0), v17, (.bool true)]))
            (inl (let v18 : AV := (.agg [(.agg [(.int .i64 0), z24, (.int .i64 0), (.int .i64 0), (.int .i64 0), (.int .i64 0), (.int .i64 0), (.int .i64 0), (.int .i64 0)]), (.fv s48 [])])
            some [(eta s26 x0), v18, (.bool (decide ((AV.toInt (AV.item x0 3)) > 65535)))])))))
         (let v19 : Bool := (decide ((AV.toInt (AV.item x0 2)) < 1))
         brO (v19)
          (inl (let v20 : AV := (.agg [(.agg [(.int .i64 0), z24, (.int .i64 0), (.int .i64 0), (.int .i64 0), (.int .i64 0), (.int .i64 0), (.int .i64 0), (.int .i64 0)]), (.fv s48 [])])
          some [(eta s26 x0), v20, (.bool true)]))
          (let v21 : Bool := (decide ((AV.toInt (AV.item x0 2)) > (AV.toInt (AV.item x0 3))))
          brO (v21)
           (inl (let v22 : AV := (.agg [(.agg [(.int .i64 0), z24, (.int .i64 0), (.int .i64 0), (.int .i64 0), (.int .i64 0), (.int .i64 0), (.int .i64 0), (.int .i64 0)]), (.fv s48 [])])
           some [(eta s26 x0), v22, (.bool true)]))
           (inl (let v23 : AV := (.agg [(.agg [(.int .i64 0), z24, (.int .i64 0), (.int .i64 0), (.int .i64 0), (.int .i64 0), (.int .i64 0), (.int .i64 0), (.int .i64 0)]), (.fv s48 [])])
           some [(eta s26 x0), v23, (.bool (decide ((AV.toInt (AV.item x0 3)) > 65535)))])))))))) fun d1 =>
    brO (AV.toBool (getE d1 2))
     (inr (let v24 : AV := (.agg [(.agg [(.int .i64 0), z24, (.int .i64 0), (.int .i64 0), (.int .i64 0), (.int .i64 0), (.int .i64 0), (.int .i64 0), (.int .i64 0)]), (.fv s48 [])])
     some [v24, (.int .i64 177)]))
     (inl (some [(eta s26 (getE d1 0)), (eta s59 (getE d1 1))]))) fun d2 =>
   jn
    (jn
     (((F40 n [(.int .i64 (AV.toInt (AV.item (getE d2 0) 4)))])).bind fun r3 =>
     brO (Nat.beq (List.length r3) 1)
      (brO (!(AV.toBool (getE r3 0)))
       (inl (some [(eta s26 (getE d2 0)), (eta s59 (getE d2 1)), (.bool true)]))
       (((F40 n [(.int .i64 (AV.toInt (AV.item (getE d2 0) 5)))])).bind fun r4 =>
       brO (Nat.beq (List.length r4) 1)
        (brO (!(AV.toBool (getE r4 0)))
         (inl (some [(eta s26 (getE d2 0)), (eta s59 (getE d2 1)), (.bool true)]))
         (((F40 n [(.int .i64 (AV.toInt (AV.item (getE d2 0) 6)))])).bind fun r5 =>
         brO (Nat.beq (List.length r5) 1)
          (brO (!(AV.toBool (getE r5 0)))
           (inl (some [(eta s26 (getE d2 0)), (eta s59 (getE d2 1)), (.bool true)]))
           (((F40 n [(.int .i64 (AV.toInt (AV.item (getE d2 0) 7)))])).bind fun r6 =>
           brO (Nat.beq (List.length r6) 1)
            (brO (!(AV.toBool (getE r6 0)))
             (inl (some [(eta s26 (getE d2 0)), (eta s59 (getE d2 1)), (.bool true)]))
             (((F40 n [(.int .i64 (AV.toInt (AV.item (getE d2 0) 8)))])).bind fun r7 =>
             brO (Nat.beq (List.length r7) 1)
              (inl (some [(eta s26 (getE d2 0)), (eta s59 (getE d2 1)), (.bool (!(AV.toBool (getE r7 0))))]))
              (none)))
            (none)))
          (none)))
        (none)))
      (none)) fun d8 =>
    brO (AV.toBool (getE d8 2))
     (inr (let v25 : AV := (.agg [(.agg [(.int .i64 0), z24, (.int .i64 0), (.int .i64 0), (.int .i64 0), (.int .i64 0), (.int .i64 0), (.int .i64 0), (.int .i64 0)]), (.fv s48 [])])
     some [v25, (.int .i64 177)]))
     (inl (some [(eta s26 (getE d8 0)), (eta s59 (getE d8 1))]))) fun d9 =>
   some [(.agg [(eta s26 (getE d9 0)), (.fv s48 [])]), (.int .i64 0)])
   (none) := by kernel_rfl

theorem eq8 (F20 : Fun) (F21 : Fun) (F23 : Fun) (n : Nat) (x0 : AV) (m1 : List AV) (m2 : List AV) (m3 : List AV) (m4 : List AV) : run8 F20 F21 F23 n x0 m1 m2 m3 m4 =
  ((F23 n [(eta s26 x0)])).bind fun r0 =>
  brO (Nat.beq (List.length r0) 2)
   (jn
    (brO ((AV.toInt (getE r0 1)) != 0)
     (((F20 n [])).bind fun r1 =>
     brO (Nat.beq (List.length r1) 1)
      (inl (some [(.tup m1), (.tup m2), (.tup m3), (.tup m4), (eta s26 (getE r1 0)), (.agg [(.int .i64 0), z24, (.int .i64 0), (.int .i64 0), (.int .i64 0), (.int .i64 0), (.int .i64 0), (.int .i64 0), (.int .i64 0)])]))
      (none))
     (inl (some [(.tup m1), (.tup m2), (.tup m3), (.tup m4), (eta s26 x0), (.agg [(.int .i64 0), z24, (.int .i64 0), (.int .i64 0), (.int .i64 0), (.int .i64 0), (.int .i64 0), (.int .i64 0), (.int .i64 0)])]))) fun d2 =>
   ((F21 n [(eta s26 (getE d2 4)), (.tup (AV.toElems (getE d2 0))), (.tup (AV.toElems (getE d2 1))), (.tup (AV.toElems (getE d2 2))), (.tup (AV.toElems (getE d2 3)))])).bind fun r3 =>
   brO (Nat.beq (List.length r3) 6)
    (some [(.pt 2 (AV.toPt (getE r3 0))), (eta s26 (getE d2 4)), (.tup (AV.toElems (getE r3 2))), (.tup (AV.toElems (getE r3 3))), (.tup (AV.toElems (getE r3 4))), (.tup (AV.toElems (getE r3 5)))])
    (none))
   (none) := by kernel_rfl

theorem eq10 (n : Nat) (x0 : Option Nat) (m1 : List AV) (m2 : List AV) (m3 : List AV) (m4 : List AV) : run10 n x0 m1 m2 m3 m4 =
  brO (Option.isSome x0)
   (some [(.int .i64 (Int.ofNat (List.length (AV.ments (mapAt m3 (AV.toPt (AV.item (getE m2 (Option.getD x0 0)) 1))))))), (.tup m1), (.tup m2), (.tup m3), (.tup m4)])
   (none) := by kernel_rfl

theorem eq13 (n : Nat) (x0 : AV) : run13 n x0 =
  some [(.agg [(.int .i64 (AV.toInt (AV.item x0 0))), (eta s24 (AV.item x0 2)), (eta s24 (AV.item x0 1)), (.int .i64 (AV.toInt (AV.item x0 4))), (.int .i64 (AV.toInt (AV.item x0 3)))])] := by kernel_rfl

theorem eq28 (n : Nat) (x0 : AV) : run28 n x0 =
  brO ((AV.toInt (AV.item x0 0)) == 1)
   (let v0 : Int := (AV.toInt (AV.item (AV.item x0 1) 0))
   brO (v0 == 4)
    (some [(.bool true)])
    (let v1 : Bool := ((AV.toInt (AV.item x0 0)) == 58)
    brO (v1)
     (some [(.bool (v0 == 6))])
     (some [(.bool false)])))
   (let v2 : Bool := ((AV.toInt (AV.item x0 0)) == 58)
   brO (v2)
    (let v3 : Int := (AV.toInt (AV.item (AV.item x0 1) 0))
    some [(.bool (v3 == 6))])
    (some [(.bool false)])) := by kernel_rfl

theorem eq41 (F49 : Fun) (n : Nat) (x0 : AV) : run41 F49 n x0 =
  ((F49 n [(eta s24 (AV.item x0 1))])).bind fun r0 =>
  brO (Nat.beq (List.length r0) 1)
   (brO (AV.toBool (getE r0 0))
    (((F49 n [(eta s24 (AV.item x0 2))])).bind fun r1 =>
    brO (Nat.beq (List.length r1) 1)
     (brO (AV.toBool (getE r1 0))
      (brO ((AV.toInt (AV.item (AV.item x0 1) 0)) == (AV.toInt (AV.item (AV.item x0 2) 0)))
       (brO (decide ((AV.toInt (AV.item x0 3)) ≥ 0))
        (brO (decide ((AV.toInt (AV.item x0 3)) ≤ 65535))
         (brO (decide ((AV.toInt (AV.item x0 4)) ≥ 0))
          (some [(.bool (decide ((AV.toInt (AV.item x0 4)) ≤ 65535)))])
          (some [(.bool false)]))
         (some [(.bool false)]))
        (some [(.bool false)]))
       (some [(.bool false)]))
      (some [(.bool false)]))
     (none))
    (some [(.bool false)]))
   (none) := by kernel_rfl

theorem eq24 (F28 : Fun) (F41 : Fun) (n : Nat) (x0 : AV) : run24 F28 F41 n x0 =
  ((F41 n [(eta s34 x0)])).bind fun r0 =>
  brO (Nat.beq (List.length r0) 1)
   (brO (!(AV.toBool (getE r0 0)))
    (some [(.int .i64 170)])
    (jn
     (jn
      (brO ((AV.toInt (AV.item x0 0)) != 6)
       (brO ((AV.toInt (AV.item x0 0)) != 17)
        (((F28 n [(eta s34 x0)])).bind fun r1 =>
        brO (Nat.beq (List.length r1) 1)
         (inl (some [(.bool (!(AV.toBool (getE r1 0))))]))
         (none))
        (inl (some [(.bool false)])))
       (inl (some [(.bool false)]))) fun d2 =>
     brO (AV.toBool (getE d2 0))
      (inr (some [(.int .i64 174)]))
      (inl (some []))) fun d3 =>
    some [(.int .i64 0)]))
   (none) := by kernel_rfl

theorem eq25 (n : Nat) (x0 : Option Nat) (x1 : AV) (m1 : List AV) (m2 : List AV) (m3 : List AV) (m4 : List AV) : run25 n x0 x1 m1 m2 m3 m4 =
  jn
   (brO ((AV.toInt (AV.item (AV.item (AV.item x1 0) 1) 0)) == 4)
    (brO (Option.isSome x0)
     (inl (some [(.tup m1), (.tup m2), (.tup m3), (.tup m4), (eta s48 x1), z34, (.agg [(.int .i64 (AV.toInt (AV.item (AV.item x1 0) 0))), (eta s24 (AV.item (AV.item (getE m2 (Option.getD x0 0)) 0) 1)), (eta s24 (AV.item (AV.item x1 0) 2)), (.int .i64 (AV.toInt (AV.item (AV.item x1 0) 3))), (.int .i64 (AV.toInt (AV.item (AV.item x1 0) 4)))])]))
     (none))
    (inl (some [(.tup m1), (.tup m2), (.tup m3), (.tup m4), (eta s48 x1), z34, (eta s34 (AV.item x1 0))]))) fun d0 =>
  some [(.agg [(.int .i64 (AV.toInt (AV.item (getE d0 6) 0))), (eta s24 (AV.item (getE d0 6) 1)), (eta s24 (AV.item (getE d0 6) 2)), (.int .i64 (AV.toInt (AV.item (getE d0 4) 1))), (.int .i64 (AV.toInt (AV.item (getE d0 6) 4)))]), (.tup (AV.toElems (getE d0 0))), (.tup (AV.toElems (getE d0 1))), (.tup (AV.toElems (getE d0 2))), (.tup (AV.toElems (getE d0 3)))] := by kernel_rfl

theorem eq42 (n : Nat) (x0 : Int) (x1 : Int) : run42 n x0 x1 =
  some [(.bool ((IntKind.wrap .i64 (Int.ofNat (BitVec.toNat ((BitVec.ofInt 64 x1) &&& (BitVec.ofInt 64 x0))))) != 0)), (.int .i64 x1)] := by kernel_rfl

theorem eq27 (F42 : Fun) (n : Nat) (x0 : Int) : run27 F42 n x0 =
  jn
   (((F42 n [(.int .i64 4), (.int .i64 x0)])).bind fun r0 =>
   brO (Nat.beq (List.length r0) 2)
    (brO (AV.toBool (getE r0 0))
     (inr (some [(.int .i64 0)]))
     (jn
      (((F42 n [(.int .i64 2), (.int .i64 (AV.toInt (getE r0 1)))])).bind fun r1 =>
      brO (Nat.beq (List.length r1) 2)
       (brO (AV.toBool (getE r1 0))
        (((F42 n [(.int .i64 1), (.int .i64 (AV.toInt (getE r1 1)))])).bind fun r2 =>
        brO (Nat.beq (List.length r2) 2)
         (inl (some [(.int .i64 (AV.toInt (getE r2 1))), (.bool (AV.toBool (getE r2 0)))]))
         (none))
        (inl (some [(.int .i64 (AV.toInt (getE r1 1))), (.bool false)])))
       (none)) fun d3 =>
     brO (AV.toBool (getE d3 1))
      (inr (some [(.int .i64 1)]))
      (jn
       (((F42 n [(.int .i64 2), (.int .i64 (AV.toInt (getE d3 0)))])).bind fun r4 =>
       brO (Nat.beq (List.length r4) 2)
        (brO (AV.toBool (getE r4 0))
         (((F42 n [(.int .i64 16), (.int .i64 (AV.toInt (getE r4 1)))])).bind fun r5 =>
         brO (Nat.beq (List.length r5) 2)
          (inl (some [(.int .i64 (AV.toInt (getE r5 1))), (.bool (AV.toBool (getE r5 0)))]))
          (none))
         (inl (some [(.int .i64 (AV.toInt (getE r4 1))), (.bool false)])))
        (none)) fun d6 =>
      brO (AV.toBool (getE d6 1))
       (inr (some [(.int .i64 2)]))
       (((F42 n [(.int .i64 2), (.int .i64 (AV.toInt (getE d6 0)))])).bind fun r7 =>
       brO (Nat.beq (List.length r7) 2)
        (brO (AV.toBool (getE r7 0))
         (inr (some [(.int .i64 3)]))
         (((F42 n [(.int .i64 1), (.int .i64 (AV.toInt (getE r7 1)))])).bind fun r8 =>
         brO (Nat.beq (List.length r8) 2)
          (brO (AV.toBool (getE r8 0))
           (inr (some [(.int .i64 4)]))
           (inl (some [])))
          (none)))
        (none)))))
    (none)) fun d9 =>
  some [(.int .i64 5)] := by kernel_rfl

theorem eq30 (n : Nat) (x0 : Option Nat) (x1 : AV) (m1 : List AV) (m2 : List AV) (m3 : List AV) (m4 : List AV) : run30 n x0 x1 m1 m2 m3 m4 =
  jn
   (jn
    (let v3 : Bool := ((AV.toInt (AV.item x1 2)) == 1)
    brO (v3)
     (inl (some [(.tup m1), (.tup m2), (.tup m3), (.tup m4), (.pt 2 x0), (eta s48 x1), (.int .i64 (AV.toInt (AV.item x1 2))), (.bool v3)]))
     (inl (some [(.tup m1), (.tup m2), (.tup m3), (.tup m4), (.pt 2 x0), (eta s48 x1), (.int .i64 (AV.toInt (AV.item x1 2))), (.bool ((AV.toInt (AV.item x1 2)) == 2))]))) fun d0 =>
   brO (AV.toBool (getE d0 7))
    (brO (Option.isSome (AV.toPt (getE d0 4)))
     (inr (let v4 : AV := (AV.item (getE (AV.toElems (getE d0 1)) (Option.getD (AV.toPt (getE d0 4)) 0)) 0)
     some [(.int .i64 (AV.toInt (AV.item v4 4))), (.tup (AV.toElems (getE d0 0))), (.tup (AV.toElems (getE d0 1))), (.tup (AV.toElems (getE d0 2))), (.tup (AV.toElems (getE d0 3)))]))
     (none))
    (brO ((AV.toInt (getE d0 6)) == 3)
     (brO (Option.isSome (AV.toPt (getE d0 4)))
      (inr (let v5 : AV := (AV.item (getE (AV.toElems (getE d0 1)) (Option.getD (AV.toPt (getE d0 4)) 0)) 0)
      some [(.int .i64 (AV.toInt (AV.item v5 5))), (.tup (AV.toElems (getE d0 0))), (.tup (AV.toElems (getE d0 1))), (.tup (AV.toElems (getE d0 2))), (.tup (AV.toElems (getE d0 3)))]))
      (none))
     (jn
      (let v6 : Bool := ((AV.toInt (getE d0 6)) == 4)
      brO (v6)
       (inl (some [(.tup (AV.toElems (getE d0 0))), (.tup (AV.toElems (getE d0 1))), (.tup (AV.toElems (getE d0 2))), (.tup (AV.toElems (getE d0 3))), (.pt 2 (AV.toPt (getE d0 4))), (eta s48 (getE d0 5)), (.bool v6)]))
       (let v7 : Bool := ((AV.toInt (getE d0 6)) == 5)
       brO (v7)
        (inl (some [(.tup (AV.toElems (getE d0 0))), (.tup (AV.toElems (getE d0 1))), (.tup (AV.toElems (getE d0 2))), (.tup (AV.toElems (getE d0 3))), (.pt 2 (AV.toPt (getE d0 4))), (eta s48 (getE d0 5)), (.bool v7)]))
        (inl (some [(.tup (AV.toElems (getE d0 0))), (.tup (AV.toElems (getE d0 1))), (.tup (AV.toElems (getE d0 2))), (.tup (AV.toElems (getE d0 3))), (.pt 2 (AV.toPt (getE d0 4))), (eta s48 (getE d0 5)), (.bool ((AV.toInt (getE d0 6)) == 6))])))) fun d1 =>
     brO (AV.toBool (getE d1 6))
      (brO (Option.isSome (AV.toPt (getE d1 4)))
       (inr (some [(.int .i64 (AV.toInt (AV.item (AV.item (getE (AV.toElems (getE d1 1)) (Option.getD (AV.toPt (getE d1 4)) 0)) 0) 6))), (.tup (AV.toElems (getE d1 0))), (.tup (AV.toElems (getE d1 1))), (.tup (AV.toElems (getE d1 2))), (.tup (AV.toElems (getE d1 3)))]))
       (none))
      (inl (some [(.tup (AV.toElems (getE d1 0))), (.tup (AV.toElems (getE d1 1))), (.tup (AV.toElems (getE d1 2))), (.tup (AV.toElems (getE d1 3))), (.pt 2 (AV.toPt (getE d1 4))), (eta s48 (getE d1 5))]))))) fun d2 =>
  brO ((AV.toInt (AV.item (AV.item (getE d2 5) 0) 0)) == 17)
   (brO (Option.isSome (AV.toPt (getE d2 4)))
    (let v8 : AV := (AV.item (getE (AV.toElems (getE d2 1)) (Option.getD (AV.toPt (getE d2 4)) 0)) 0)
    some [(.int .i64 (AV.toInt (AV.item v8 7))), (.tup (AV.toElems (getE d2 0))), (.tup (AV.toElems (getE d2 1))), (.tup (AV.toElems (getE d2 2))), (.tup (AV.toElems (getE d2 3)))])
    (none))
   (brO (Option.isSome (AV.toPt (getE d2 4)))
    (let v9 : AV := (AV.item (getE (AV.toElems (getE d2 1)) (Option.getD (AV.toPt (getE d2 4)) 0)) 0)
    some [(.int .i64 (AV.toInt (AV.item v9 8))), (.tup (AV.toElems (getE d2 0))), (.tup (AV.toElems (getE d2 1))), (.tup (AV.toElems (getE d2 2))), (.tup (AV.toElems (getE d2 3)))])
    (none)) := by kernel_rfl

theorem eq37 (F13 : Fun) (F25 : Fun) (n : Nat) (x0 : Option Nat) (x1 : AV) (m1 : List AV) (m2 : List AV) (m3 : List AV) (m4 : List AV) : run37 F13 F25 n x0 x1 m1 m2 m3 m4 =
  brO (Option.isSome x0)
   (brO (Option.isSome (AV.toPt (AV.item (getE m2 (Option.getD x0 0)) 1)))
    (brO (Option.isSome x0)
     (let v4 : AV := (getE m3 (Option.getD (AV.toPt (AV.item (getE m2 (Option.getD x0 0)) 1)) 0))
     let v5 : AV := (.tup (List.set m3 (Option.getD (AV.toPt (AV.item (getE m2 (Option.getD x0 0)) 1)) 0) (.mc (mdel (eta s34 (AV.item x1 0)) (AV.ments v4)) (AV.mclk v4))))
     ((F25 n [(.pt 2 x0), (eta s48 x1), (.tup m1), (.tup m2), v5, (.tup m4)])).bind fun r0 =>
     brO (Nat.beq (List.length r0) 1)
      (((F13 n [(eta s34 (getE r0 0))])).bind fun r1 =>
      brO (Nat.beq (List.length r1) 1)
       (let v6 : Bool := (Option.isSome (AV.toPt (AV.item (getE m2 (Option.getD x0 0)) 2)))
       brO (v6)
        (let v7 : AV := (getE m4 (Option.getD (AV.toPt (AV.item (getE m2 (Option.getD x0 0)) 2)) 0))
        let v8 : (List AV) := (AV.ments v7)
        let v9 : Int := (AV.mclk v7)
        some [(.tup m1), (.tup m2), v5, (.tup (List.set m4 (Option.getD (AV.toPt (AV.item (getE m2 (Option.getD x0 0)) 2)) 0) (.mc (mdel (eta s34 (getE r1 0)) v8) v9)))])
        (some [(.tup m1), (.tup m2), v5, (.tup m4)]))
       (none))
      (none))
     (none))
    (brO (Option.isSome x0)
     (((F25 n [(.pt 2 x0), (eta s48 x1), (.tup m1), (.tup m2), (.tup m3), (.tup m4)])).bind fun r2 =>
     brO (Nat.beq (List.length r2) 1)
      (((F13 n [(eta s34 (getE r2 0))])).bind fun r3 =>
      brO (Nat.beq (List.length r3) 1)
       (let v10 : Bool := (Option.isSome (AV.toPt (AV.item (getE m2 (Option.getD x0 0)) 2)))
       brO (v10)
        (let v11 : AV := (getE m4 (Option.getD (AV.toPt (AV.item (getE m2 (Option.getD x0 0)) 2)) 0))
        let v12 : (List AV) := (AV.ments v11)
        let v13 : Int := (AV.mclk v11)
        some [(.tup m1), (.tup m2), (.tup m3), (.tup (List.set m4 (Option.getD (AV.toPt (AV.item (getE m2 (Option.getD x0 0)) 2)) 0) (.mc (mdel (eta s34 (getE r3 0)) v12) v13)))])
        (some [(.tup m1), (.tup m2), (.tup m3), (.tup m4)]))
       (none))
      (none))
     (none)))
   (none) := by kernel_rfl

theorem eq26 (F27 : Fun) (F30 : Fun) (F37 : Fun) (n : Nat) (x0 : Option Nat) (x1 : Option Nat) (x2 : Int) (x3 : Bool) (m1 : List AV) (m2 : List AV) (m3 : List AV) (m4 : List AV) : run26 F27 F30 F37 n x0 x1 x2 x3 m1 m2 m3 m4 =
  jn
   (brO (Option.isSome x1)
    (brO ((AV.toInt (AV.item (AV.item (getE m1 (Option.getD x1 0)) 0) 0)) == 6)
     (((F27 n [(.int .i64 x2)])).bind fun r0 =>
     brO (Nat.beq (List.length r0) 1)
      (brO ((AV.toInt (getE r0 0)) == 0)
       (brO (Option.isSome x1)
        (((F37 n [(.pt 2 x0), (eta s48 (getE m1 (Option.getD x1 0))), (.tup m1), (.tup m2), (.tup m3), (.tup m4)])).bind fun r1 =>
        brO (Nat.beq (List.length r1) 4)
         (inr (some [(.bool true), (.tup (AV.toElems (getE r1 0))), (.tup (AV.toElems (getE r1 1))), (.tup (AV.toElems (getE r1 2))), (.tup (AV.toElems (getE r1 3)))]))
         (none))
        (none))
       (brO (Option.isSome x1)
        (let v5 : Int := (AV.toInt (AV.item (getE m1 (Option.getD x1 0)) 2))
        let v6 : Bool := (inR v5 8)
        brO (v6)
         (let v7 : Bool := (inR (AV.toInt (getE r0 0)) 6)
         brO (v7)
          (jn
           (brO (x3)
            (brO (Option.isSome x1)
             (brO (v6)
              (brO (v7)
               (inl (some [(.tup m1), (.tup m2), (.tup m3), (.tup m4), (.pt 2 x0), (.pt 1 x1), (.int .i64 (getI (AV.toInts (getE inL (Int.toNat v5))) (Int.toNat (AV.toInt (getE r0 0)))))]))
               (none))
              (none))
             (none))
            (inl (some [(.tup m1), (.tup m2), (.tup m3), (.tup m4), (.pt 2 x0), (.pt 1 x1), (.int .i64 (getI (AV.toInts (getE outL (Int.toNat v5))) (Int.toNat (AV.toInt (getE r0 0)))))]))) fun d2 =>
          brO ((AV.toInt (getE d2 6)) == 0)
           (inr (some [(.bool false), (.tup (AV.toElems (getE d2 0))), (.tup (AV.toElems (getE d2 1))), (.tup (AV.toElems (getE d2 2))), (.tup (AV.toElems (getE d2 3)))]))
           (brO (Option.isSome (AV.toPt (getE d2 5)))
            (inl (let v8 : AV := (getE (AV.toElems (getE d2 0)) (Option.getD (AV.toPt (getE d2 5)) 0))
            some [(.tup (List.set (AV.toElems (getE d2 0)) (Option.getD (AV.toPt (getE d2 5)) 0) (.agg [(eta s34 (AV.item v8 0)), (.int .i64 (AV.toInt (AV.item v8 1))), (.int .i64 (AV.toInt (getE d2 6))), (.int .i64 (AV.toInt (AV.item v8 3)))]))), (.tup (AV.toElems (getE d2 1))), (.tup (AV.toElems (getE d2 2))), (.tup (AV.toElems (getE d2 3))), (.pt 2 (AV.toPt (getE d2 4))), (.pt 1 (AV.toPt (getE d2 5)))]))
            (none)))
          (none))
         (none))
        (none)))
      (none))
     (inl (some [(.tup m1), (.tup m2), (.tup m3), (.tup m4), (.pt 2 x0), (.pt 1 x1)])))
    (none)) fun d3 =>
  brO (Option.isSome (AV.toPt (getE d3 5)))
   (let v9 : AV := (getE (AV.toElems (getE d3 0)) (Option.getD (AV.toPt (getE d3 5)) 0))
   ((F30 n [(.pt 2 (AV.toPt (getE d3 4))), (eta s48 v9), (.tup (AV.toElems (getE d3 0))), (.tup (AV.toElems (getE d3 1))), (.tup (AV.toElems (getE d3 2))), (.tup (AV.toElems (getE d3 3)))])).bind fun r4 =>
   brO (Nat.beq (List.length r4) 1)
    (brO (Option.isSome (AV.toPt (getE d3 5)))
     (some [(.bool true), (.tup (List.set (AV.toElems (getE d3 0)) (Option.getD (AV.toPt (getE d3 5)) 0) (.agg [(eta s34 (AV.item v9 0)), (.int .i64 (AV.toInt (AV.item v9 1))), (.int .i64 (AV.toInt (AV.item v9 2))), (.int .i64 (AV.toInt (getE r4 0)))]))), (.tup (AV.toElems (getE d3 1))), (.tup (AV.toElems (getE d3 2))), (.tup (AV.toElems (getE d3 3)))])
     (none))
    (none))
   (none) := by kernel_rfl

theorem eq43 (n : Nat) (x0 : Option Nat) (x1 : Int) (x2 : Int) (m1 : List AV) (m2 : List AV) (m3 : List AV) (m4 : List AV) : run43 n x0 x1 x2 m1 m2 m3 m4 =
  jn
   (brO (Option.isSome x0)
    (brO (Option.isSome (AV.toPt (AV.item (getE m2 (Option.getD x0 0)) 1)))
     (iter (fun d0 k1 =>
      let v5 : AV := (getE (AV.toElems (getE d0 2)) (Int.toNat (AV.toInt (getE (AV.toElems (getE d0 6)) 0))))
      let v6 : (List AV) := (AV.ments v5)
      let v7 : Int := (AV.toInt (getE (AV.toElems (getE d0 6)) 1))
      let v8 : Int := (AV.toInt (getE (AV.toElems (getE d0 6)) 3))
      brO ((List.all v6 (fun e => (decide ((bornOf e) < v7)))) && (decide (v7 ≤ v8)))
       (let v9 : (List Int) := (AV.toInts (getE (AV.toElems (getE d0 6)) 2))
       let v10 : (List AV) := (mleft v9 v6)
       brO (List.isEmpty v10)
        (inl (some [(.tup (AV.toElems (getE d0 0))), (.tup (AV.toElems (getE d0 1))), (.tup (AV.toElems (getE d0 2))), (.tup (AV.toElems (getE d0 3)))]))
        (allO (List.length v10) fun i2 =>
        let v11 : (List Int) := (HAppend.hAppend v9 [(bornOf (getE v10 i2))])
        let v12 : Int := (AV.mclk v5)
        brO ((!(List.isEmpty v11)) && ((v12 == v12) && (match Go.Am.mfindB (List.getLastD v11 0) v6 with | Option.some val => Bool.true | Option.none => Bool.false)))
         (jn
          (let v13 : Bool := (Option.isSome (AV.toPt (AV.item (Option.getD (mfindB (List.getLastD v11 0) v6) .undef) 2)))
          brO (v13)
           (let v14 : AV := (getE (AV.toElems (getE d0 0)) (Option.getD (AV.toPt (AV.item (Option.getD (mfindB (List.getLastD v11 0) v6) .undef) 2)) 0))
           let v15 : AV := (AV.item v14 0)
           brO ((AV.toInt (AV.item (AV.item v15 1) 0)) == 4)
            (brO (v13)
             (brO ((AV.toInt (AV.item v15 0)) == (AV.toInt (getE d0 4)))
              (brO (v13)
               (inl (let v16 : AV := (.tup [(.int .i64 (Int.ofNat (Int.toNat (AV.toInt (getE (AV.toElems (getE d0 6)) 0))))), (.int .i64 v7), (.fs .i64 v11), (.int .i64 v12)])
               some [(.tup (AV.toElems (getE d0 0))), (.tup (AV.toElems (getE d0 1))), (.tup (AV.toElems (getE d0 2))), (.tup (AV.toElems (getE d0 3))), (.int .i64 (AV.toInt (getE d0 4))), (.int .i64 (AV.toInt (getE d0 5))), v16, (.bool ((AV.toInt (AV.item v14 1)) == (AV.toInt (getE d0 5))))]))
               (none))
              (inl (let v17 : AV := (.tup [(.int .i64 (Int.ofNat (Int.toNat (AV.toInt (getE (AV.toElems (getE d0 6)) 0))))), (.int .i64 v7), (.fs .i64 v11), (.int .i64 v12)])
              some [(.tup (AV.toElems (getE d0 0))), (.tup (AV.toElems (getE d0 1))), (.tup (AV.toElems (getE d0 2))), (.tup (AV.toElems (getE d0 3))), (.int .i64 (AV.toInt (getE d0 4))), (.int .i64 (AV.toInt (getE d0 5))), v17, (.bool false)])))
             (none))
            (inl (let v18 : AV := (.tup [(.int .i64 (Int.ofNat (Int.toNat (AV.toInt (getE (AV.toElems (getE d0 6)) 0))))), (.int .i64 v7), (.fs .i64 v11), (.int .i64 v12)])
            some [(.tup (AV.toElems (getE d0 0))), (.tup (AV.toElems (getE d0 1))), (.tup (AV.toElems (getE d0 2))), (.tup (AV.toElems (getE d0 3))), (.int .i64 (AV.toInt (getE d0 4))), (.int .i64 (AV.toInt (getE d0 5))), v18, (.bool false)])))
           (none)) fun d3 =>
         brO (AV.toBool (getE d3 7))
          (inr (some [(.bool false), (.tup (AV.toElems (getE d3 0))), (.tup (AV.toElems (getE d3 1))), (.tup (AV.toElems (getE d3 2))), (.tup (AV.toElems (getE d3 3)))]))
          ((k1 [(.tup (AV.toElems (getE d3 0))), (.tup (AV.toElems (getE d3 1))), (.tup (AV.toElems (getE d3 2))), (.tup (AV.toElems (getE d3 3))), (.int .i64 (AV.toInt (getE d3 4))), (.int .i64 (AV.toInt (getE d3 5))), (.tup [(.int .i64 (Int.ofNat (Int.toNat (AV.toInt (getE (AV.toElems (getE d3 6)) 0))))), (.int .i64 (AV.toInt (getE (AV.toElems (getE d3 6)) 1))), (.fs .i64 (AV.toInts (getE (AV.toElems (getE d3 6)) 2))), (.int .i64 (AV.toInt (getE (AV.toElems (getE d3 6)) 3)))])])))
         (none)))
       (none)) n [(.tup m1), (.tup m2), (.tup m3), (.tup m4), (.int .i64 x1), (.int .i64 x2), (.tup [(.int .i64 (Int.ofNat (Option.getD (AV.toPt (AV.item (getE m2 (Option.getD x0 0)) 1)) 0))), (.int .i64 (AV.mclk (getE m3 (Option.getD (AV.toPt (AV.item (getE m2 (Option.getD x0 0)) 1)) 0)))), (.fs .i64 []), (.int .i64 (AV.mclk (getE m3 (Option.getD (AV.toPt (AV.item (getE m2 (Option.getD x0 0)) 1)) 0))))])])
     (none))
    (none)) fun d4 =>
  some [(.bool true), (.tup (AV.toElems (getE d4 0))), (.tup (AV.toElems (getE d4 1))), (.tup (AV.toElems (getE d4 2))), (.tup (AV.toElems (getE d4 3)))] := by kernel_rfl

end Go.Proofs.YtldnpibpbbcjgaaDoor.Am
end

section
set_option linter.unusedVariables false
set_option maxRecDepth 20000
namespace Go.Proofs.YtldnpibpbbcjgaaDoor.Am
open Go Go.Am Go.Proofs

theorem eq29 (F43 : Fun) (n : Nat) (x0 : Option Nat) (x1 : AV) (m1 : List AV) (m2 : List AV) (m3 : List AV) (m4 : List AV) : run29 F43 n x0 x1 m1 m2 m3 m4 =
  jn
   (jn
    (brO ((AV.toInt (AV.item (AV.item x1 1) 0)) == 6)
     (inl (some [(.tup m1), (.tup m2), (.tup m3), (.tup m4), (.tup []), (.pt 2 x0), (eta s34 x1), (.bool true)]))
     (brO (Option.isSome x0)
      (let v9 : AV := (AV.item (getE m2 (Option.getD x0 0)) 0)
      let v10 : Int := (AV.toInt (AV.item v9 2))
      brO (decide ((AV.toInt (AV.item x1 3)) ≥ v10))
       (brO (Option.isSome x0)
        (let v11 : Int := (AV.toInt (AV.item v9 3))
        brO (decide ((AV.toInt (AV.item x1 3)) ≤ v11))
         (((F43 n [(.pt 2 x0), (.int .i64 (AV.toInt (AV.item x1 0))), (.int .i64 (AV.toInt (AV.item x1 3))), (.tup m1), (.tup m2), (.tup m3), (.tup m4)])).bind fun r0 =>
         brO (Nat.beq (List.length r0) 5)
          (inl (some [(.tup (AV.toElems (getE r0 1))), (.tup (AV.toElems (getE r0 2))), (.tup (AV.toElems (getE r0 3))), (.tup (AV.toElems (getE r0 4))), (.tup []), (.pt 2 x0), (eta s34 x1), (.bool (AV.toBool (getE r0 0)))]))
          (none))
         (inl (some [(.tup m1), (.tup m2), (.tup m3), (.tup m4), (.tup []), (.pt 2 x0), (eta s34 x1), (.bool false)])))
        (none))
       (inl (some [(.tup m1), (.tup m2), (.tup m3), (.tup m4), (.tup []), (.pt 2 x0), (eta s34 x1), (.bool false)])))
      (none))) fun d1 =>
   brO (AV.toBool (getE d1 7))
    (inr (some [(.int .i64 (AV.toInt (AV.item (getE d1 6) 3))), (.bool true), (.tup (AV.toElems (getE d1 0))), (.tup (AV.toElems (getE d1 1))), (.tup (AV.toElems (getE d1 2))), (.tup (AV.toElems (getE d1 3)))]))
    (inl (some [(.tup (AV.toElems (getE d1 0))), (.tup (AV.toElems (getE d1 1))), (.tup (AV.toElems (getE d1 2))), (.tup (AV.toElems (getE d1 3))), (.tup (AV.toElems (getE d1 4))), (.pt 2 (AV.toPt (getE d1 5))), (eta s34 (getE d1 6))]))) fun d2 =>
  brO (Option.isSome (AV.toPt (getE d2 5)))
   (brO (Option.isSome (AV.toPt (AV.item (getE (AV.toElems (getE d2 1)) (Option.getD (AV.toPt (getE d2 5)) 0)) 1)))
    (iter (fun d3 k4 =>
     let v12 : AV := (getE (AV.toElems (getE d3 2)) (Int.toNat (AV.toInt (getE (AV.toElems (getE d3 8)) 0))))
     let v13 : (List AV) := (AV.ments v12)
     let v14 : Int := (AV.toInt (getE (AV.toElems (getE d3 8)) 1))
     let v15 : Int := (AV.toInt (getE (AV.toElems (getE d3 8)) 3))
     brO ((List.all v13 (fun e => (decide ((bornOf e) < v14)))) && (decide (v14 ≤ v15)))
      (let v16 : (List Int) := (AV.toInts (getE (AV.toElems (getE d3 8)) 2))
      let v17 : (List AV) := (mleft v16 v13)
      brO (List.isEmpty v17)
       (brO (Option.isSome (AV.toPt (getE d3 5)))
        (iter (fun d5 k6 =>
         brO (Option.isSome (AV.toPt (getE d5 5)))
          (let v18 : Int := (AV.toInt (AV.item (AV.item (getE (AV.toElems (getE d5 1)) (Option.getD (AV.toPt (getE d5 5)) 0)) 0) 3))
          brO (decide ((AV.toInt (getE d5 7)) ≤ v18))
           (brO (!(mhas (.int .i64 (AV.toInt (getE d5 7))) (AV.ments (mapAt (AV.toElems (getE d5 4)) (AV.toPt (getE d5 6))))))
            (some [(.int .i64 (AV.toInt (getE d5 7))), (.bool true), (.tup (AV.toElems (getE d5 0))), (.tup (AV.toElems (getE d5 1))), (.tup (AV.toElems (getE d5 2))), (.tup (AV.toElems (getE d5 3)))])
            ((k6 [(.tup (AV.toElems (getE d5 0))), (.tup (AV.toElems (getE d5 1))), (.tup (AV.toElems (getE d5 2))), (.tup (AV.toElems (getE d5 3))), (.tup (AV.toElems (getE d5 4))), (.pt 2 (AV.toPt (getE d5 5))), (.mp 5 (AV.toPt (getE d5 6))), (.int .i64 (IntKind.wrap .i64 ((AV.toInt (getE d5 7)) + 1)))])))
           (some [(.int .i64 0), (.bool false), (.tup (AV.toElems (getE d5 0))), (.tup (AV.toElems (getE d5 1))), (.tup (AV.toElems (getE d5 2))), (.tup (AV.toElems (getE d5 3)))]))
          (none)) n [(.tup (AV.toElems (getE d3 0))), (.tup (AV.toElems (getE d3 1))), (.tup (AV.toElems (getE d3 2))), (.tup (AV.toElems (getE d3 3))), (.tup (AV.toElems (getE d3 4))), (.pt 2 (AV.toPt (getE d3 5))), (.mp 5 (AV.toPt (getE d3 7))), (.int .i64 (AV.toInt (AV.item (AV.item (getE (AV.toElems (getE d3 1)) (Option.getD (AV.toPt (getE d3 5)) 0)) 0) 2)))])
        (none))
       (allO (List.length v17) fun i7 =>
       let v19 : (List Int) := (HAppend.hAppend v16 [(bornOf (getE v17 i7))])
       let v20 : Int := (AV.mclk v12)
       brO ((!(List.isEmpty v19)) && ((v20 == v20) && (match Go.Am.mfindB (List.getLastD v19 0) v13 with | Option.some val => Bool.true | Option.none => Bool.false)))
        (jn
         (let v21 : Bool := (Option.isSome (AV.toPt (AV.item (Option.getD (mfindB (List.getLastD v19 0) v13) .undef) 2)))
         brO (v21)
          (let v22 : AV := (AV.item (getE (AV.toElems (getE d3 0)) (Option.getD (AV.toPt (AV.item (Option.getD (mfindB (List.getLastD v19 0) v13) .undef) 2)) 0)) 0)
          brO ((AV.toInt (AV.item (AV.item v22 1) 0)) == 4)
           (brO (v21)
            (inl (let v23 : AV := (.tup [(.int .i64 (Int.ofNat (Int.toNat (AV.toInt (getE (AV.toElems (getE d3 8)) 0))))), (.int .i64 v14), (.fs .i64 v19), (.int .i64 v20)])
            some [(.tup (AV.toElems (getE d3 0))), (.tup (AV.toElems (getE d3 1))), (.tup (AV.toElems (getE d3 2))), (.tup (AV.toElems (getE d3 3))), (.tup (AV.toElems (getE d3 4))), (.pt 2 (AV.toPt (getE d3 5))), (eta s34 (getE d3 6)), (.mp 5 (AV.toPt (getE d3 7))), (.pt 1 (AV.toPt (AV.item (Option.getD (mfindB (List.getLastD v19 0) v13) .undef) 2))), v23, (.bool ((AV.toInt (AV.item v22 0)) == (AV.toInt (AV.item (getE d3 6) 0))))]))
            (none))
           (inl (let v24 : AV := (.tup [(.int .i64 (Int.ofNat (Int.toNat (AV.toInt (getE (AV.toElems (getE d3 8)) 0))))), (.int .i64 v14), (.fs .i64 v19), (.int .i64 v20)])
           some [(.tup (AV.toElems (getE d3 0))), (.tup (AV.toElems (getE d3 1))), (.tup (AV.toElems (getE d3 2))), (.tup (AV.toElems (getE d3 3))), (.tup (AV.toElems (getE d3 4))), (.pt 2 (AV.toPt (getE d3 5))), (eta s34 (getE d3 6)), (.mp 5 (AV.toPt (getE d3 7))), (.pt 1 (AV.toPt (AV.item (Option.getD (mfindB (List.getLastD v19 0) v13) .undef) 2))), v24, (.bool false)])))
          (none)) fun d8 =>
        brO (AV.toBool (getE d8 10))
         (brO (Option.isSome (AV.toPt (getE d8 8)))
          (brO (Option.isSome (AV.toPt (getE d8 7)))
           (let v25 : AV := (getE (AV.toElems (getE d8 4)) (Option.getD (AV.toPt (getE d8 7)) 0))
           let v26 : (List AV) := (AV.ments v25)
           let v27 : Int := (AV.mclk v25)
           (k4 [(.tup (AV.toElems (getE d8 0))), (.tup (AV.toElems (getE d8 1))), (.tup (AV.toElems (getE d8 2))), (.tup (AV.toElems (getE d8 3))), (.tup (List.set (AV.toElems (getE d8 4)) (Option.getD (AV.toPt (getE d8 7)) 0) (.mc (mput (.int .i64 (AV.toInt (AV.item (getE (AV.toElems (getE d8 0)) (Option.getD (AV.toPt (getE d8 8)) 0)) 1))) (.agg []) v26 v27) (mputC (.int .i64 (AV.toInt (AV.item (getE (AV.toElems (getE d8 0)) (Option.getD (AV.toPt (getE d8 8)) 0)) 1))) v26 v27)))), (.pt 2 (AV.toPt (getE d8 5))), (eta s34 (getE d8 6)), (.mp 5 (AV.toPt (getE d8 7))), (.tup [(.int .i64 (Int.ofNat (Int.toNat (AV.toInt (getE (AV.toElems (getE d8 9)) 0))))), (.int .i64 (AV.toInt (getE (AV.toElems (getE d8 9)) 1))), (.fs .i64 (AV.toInts (getE (AV.toElems (getE d8 9)) 2))), (.int .i64 (AV.toInt (getE (AV.toElems (getE d8 9)) 3)))])]))
           (none))
          (none))
         ((k4 [(.tup (AV.toElems (getE d8 0))), (.tup (AV.toElems (getE d8 1))), (.tup (AV.toElems (getE d8 2))), (.tup (AV.toElems (getE d8 3))), (.tup (AV.toElems (getE d8 4))), (.pt 2 (AV.toPt (getE d8 5))), (eta s34 (getE d8 6)), (.mp 5 (AV.toPt (getE d8 7))), (.tup [(.int .i64 (Int.ofNat (Int.toNat (AV.toInt (getE (AV.toElems (getE d8 9)) 0))))), (.int .i64 (AV.toInt (getE (AV.toElems (getE d8 9)) 1))), (.fs .i64 (AV.toInts (getE (AV.toElems (getE d8 9)) 2))), (.int .i64 (AV.toInt (getE (AV.toElems (getE d8 9)) 3)))])])))
        (none)))
      (none)) n [(.tup (AV.toElems (getE d2 0))), (.tup (AV.toElems (getE d2 1))), (.tup (AV.toElems (getE d2 2))), (.tup (AV.toElems (getE d2 3))), (.tup (HAppend.hAppend (AV.toElems (getE d2 4)) [(.mc [] 0)])), (.pt 2 (AV.toPt (getE d2 5))), (eta s34 (getE d2 6)), (.mp 5 (Option.some (List.length (AV.toElems (getE d2 4))))), (.tup [(.int .i64 (Int.ofNat (Option.getD (AV.toPt (AV.item (getE (AV.toElems (getE d2 1)) (Option.getD (AV.toPt (getE d2 5)) 0)) 1)) 0))), (.int .i64 (AV.mclk (getE (AV.toElems (getE d2 2)) (Option.getD (AV.toPt (AV.item (getE (AV.toElems (getE d2 1)) (Option.getD (AV.toPt (getE d2 5)) 0)) 1)) 0)))), (.fs .i64 []), (.int .i64 (AV.mclk (getE (AV.toElems (getE d2 2)) (Option.getD (AV.toPt (AV.item (getE (AV.toElems (getE d2 1)) (Option.getD (AV.toPt (getE d2 5)) 0)) 1)) 0))))])])
    (none))
   (none) := by kernel_rfl

theorem eq11 (F13 : Fun) (F24 : Fun) (F25 : Fun) (F26 : Fun) (F27 : Fun) (F28 : Fun) (F29 : Fun) (F30 : Fun) (n : Nat) (x0 : Option Nat) (x1 : AV) (x2 : Int) (m1 : List AV) (m2 : List AV) (m3 : List AV) (m4 : List AV) : run11 F13 F24 F25 F26 F27 F28 F29 F30 n x0 x1 x2 m1 m2 m3 m4 =
  ((F24 n [(eta s34 x1)])).bind fun r0 =>
  brO (Nat.beq (List.length r0) 1)
   (brO ((AV.toInt (getE r0 0)) != 0)
    (some [z34, (.int .i64 (AV.toInt (getE r0 0))), (.tup m1), (.tup m2), (.tup m3), (.tup m4)])
    (brO (Option.isSome x0)
     (let v12 : (List AV) := (AV.ments (mapAt m3 (AV.toPt (AV.item (getE m2 (Option.getD x0 0)) 1))))
     brO (mhas (eta s34 x1) v12)
      (brO (Option.isSome (AV.toPt (mget (eta s34 x1) (.pt 1 Option.none) v12)))
       (((F25 n [(.pt 2 x0), (eta s48 (getE m1 (Option.getD (AV.toPt (mget (eta s34 x1) (.pt 1 Option.none) v12)) 0))), (.tup m1), (.tup m2), (.tup m3), (.tup m4)])).bind fun r1 =>
       brO (Nat.beq (List.length r1) 1)
        (((F26 n [(.pt 2 x0), (.pt 1 (AV.toPt (mget (eta s34 x1) (.pt 1 Option.none) v12))), (.int .i64 x2), (.bool false), (.tup m1), (.tup m2), (.tup m3), (.tup m4)])).bind fun r2 =>
        brO (Nat.beq (List.length r2) 5)
         (brO (!(AV.toBool (getE r2 0)))
          (some [z34, (.int .i64 173), (.tup (AV.toElems (getE r2 1))), (.tup (AV.toElems (getE r2 2))), (.tup (AV.toElems (getE r2 3))), (.tup (AV.toElems (getE r2 4)))])
          (some [(eta s34 (getE r1 0)), (.int .i64 0), (.tup (AV.toElems (getE r2 1))), (.tup (AV.toElems (getE r2 2))), (.tup (AV.toElems (getE r2 3))), (.tup (AV.toElems (getE r2 4)))]))
         (none))
        (none))
       (none))
      (jn
       (brO ((AV.toInt (AV.item x1 0)) == 6)
        (((F27 n [(.int .i64 x2)])).bind fun r3 =>
        brO (Nat.beq (List.length r3) 1)
         (brO (inR (AV.toInt (getE r3 0)) 6)
          (inl (let v13 : (List AV) := (HAppend.hAppend m1 [(.agg [(eta s34 x1), (.int .i64 0), (.int .i64 7), (.int .i64 0)])])
          let v14 : AV := (getE v13 (List.length m1))
          some [(.tup (List.set v13 (List.length m1) (.agg [(eta s34 (AV.item v14 0)), (.int .i64 (AV.toInt (AV.item v14 1))), (.int .i64 (getI [0, 0, 0, 1, 0, 0] (Int.toNat (AV.toInt (getE r3 0))))), (.int .i64 (AV.toInt (AV.item v14 3)))]))), (.tup m2), (.tup m3), (.tup m4), (.pt 2 x0), (eta s34 x1), z34, (.pt 1 (Option.some (List.length m1)))]))
          (none))
         (none))
        (inl (let v15 : (List AV) := (HAppend.hAppend m1 [(.agg [(eta s34 x1), (.int .i64 0), (.int .i64 7), (.int .i64 0)])])
        some [(.tup v15), (.tup m2), (.tup m3), (.tup m4), (.pt 2 x0), (eta s34 x1), z34, (.pt 1 (Option.some (List.length m1)))]))) fun d4 =>
      jn
       (jn
        (brO (Option.isSome (AV.toPt (getE d4 7)))
         (brO ((AV.toInt (AV.item (getE (AV.toElems (getE d4 0)) (Option.getD (AV.toPt (getE d4 7)) 0)) 2)) == 0)
          (inl (some [(.tup (AV.toElems (getE d4 0))), (.tup (AV.toElems (getE d4 1))), (.tup (AV.toElems (getE d4 2))), (.tup (AV.toElems (getE d4 3))), (.pt 2 (AV.toPt (getE d4 4))), (eta s34 (getE d4 5)), (eta s34 (getE d4 6)), (.pt 1 (AV.toPt (getE d4 7))), (.bool true)]))
          (((F28 n [(eta s34 (getE d4 5))])).bind fun r5 =>
          brO (Nat.beq (List.length r5) 1)
           (brO (AV.toBool (getE r5 0))
            (brO ((AV.toInt (AV.item (getE d4 5) 4)) != 0)
             (inl (some [(.tup (AV.toElems (getE d4 0))), (.tup (AV.toElems (getE d4 1))), (.tup (AV.toElems (getE d4 2))), (.tup (AV.toElems (getE d4 3))), (.pt 2 (AV.toPt (getE d4 4))), (eta s34 (getE d4 5)), (eta s34 (getE d4 6)), (.pt 1 (AV.toPt (getE d4 7))), (.bool true)]))
             (inl (some [(.tup (AV.toElems (getE d4 0))), (.tup (AV.toElems (getE d4 1))), (.tup (AV.toElems (getE d4 2))), (.tup (AV.toElems (getE d4 3))), (.pt 2 (AV.toPt (getE d4 4))), (eta s34 (getE d4 5)), (eta s34 (getE d4 6)), (.pt 1 (AV.toPt (getE d4 7))), (.bool ((AV.toInt (AV.item (getE d4 5) 3)) == 0))])))
            (inl (some [(.tup (AV.toElems (getE d4 0))), (.tup (AV.toElems (getE d4 1))), (.tup (AV.toElems (getE d4 2))), (.tup (AV.toElems (getE d4 3))), (.pt 2 (AV.toPt (getE d4 4))), (eta s34 (getE d4 5)), (eta s34 (getE d4 6)), (.pt 1 (AV.toPt (getE d4 7))), (.bool false)])))
           (none)))
         (none)) fun d6 =>
       brO (AV.toBool (getE d6 8))
        (inr (some [z34, (.int .i64 173), (.tup (AV.toElems (getE d6 0))), (.tup (AV.toElems (getE d6 1))), (.tup (AV.toElems (getE d6 2))), (.tup (AV.toElems (getE d6 3)))]))
        (inl (some [(.tup (AV.toElems (getE d6 0))), (.tup (AV.toElems (getE d6 1))), (.tup (AV.toElems (getE d6 2))), (.tup (AV.toElems (getE d6 3))), (.pt 2 (AV.toPt (getE d6 4))), (eta s34 (getE d6 5)), (eta s34 (getE d6 6)), (.pt 1 (AV.toPt (getE d6 7)))]))) fun d7 =>
      brO (Option.isSome (AV.toPt (getE d7 4)))
       (brO (Option.isSome (AV.toPt (getE d7 4)))
        (let v16 : AV := (getE (AV.toElems (getE d7 1)) (Option.getD (AV.toPt (getE d7 4)) 0))
        brO ((Int.ofNat (List.length (AV.ments (mapAt (AV.toElems (getE d7 2)) (AV.toPt (AV.item v16 1)))))) == (AV.toInt (AV.item (AV.item v16 0) 0)))
         (some [z34, (.int .i64 171), (.tup (AV.toElems (getE d7 0))), (.tup (AV.toElems (getE d7 1))), (.tup (AV.toElems (getE d7 2))), (.tup (AV.toElems (getE d7 3)))])
         (((F29 n [(.pt 2 (AV.toPt (getE d7 4))), (eta s34 (getE d7 5)), (.tup (AV.toElems (getE d7 0))), (.tup (AV.toElems (getE d7 1))), (.tup (AV.toElems (getE d7 2))), (.tup (AV.toElems (getE d7 3)))])).bind fun r8 =>
         brO (Nat.beq (List.length r8) 6)
          (brO (Option.isSome (AV.toPt (getE d7 7)))
           (brO (!(AV.toBool (getE r8 1)))
            (let v17 : AV := (getE (AV.toElems (getE r8 2)) (Option.getD (AV.toPt (getE d7 7)) 0))
            let v18 : (List AV) := (List.set (AV.toElems (getE r8 2)) (Option.getD (AV.toPt (getE d7 7)) 0) (.agg [(eta s34 (AV.item v17 0)), (.int .i64 (AV.toInt (getE r8 0))), (.int .i64 (AV.toInt (AV.item v17 2))), (.int .i64 (AV.toInt (AV.item v17 3)))]))
            some [z34, (.int .i64 172), (.tup v18), (.tup (AV.toElems (getE r8 3))), (.tup (AV.toElems (getE r8 4))), (.tup (AV.toElems (getE r8 5)))])
            (brO (Option.isSome (AV.toPt (getE d7 7)))
             (let v19 : AV := (getE (AV.toElems (getE r8 2)) (Option.getD (AV.toPt (getE d7 7)) 0))
             let v20 : (List AV) := (List.set (AV.toElems (getE r8 2)) (Option.getD (AV.toPt (getE d7 7)) 0) (.agg [(eta s34 (AV.item v19 0)), (.int .i64 (AV.toInt (getE r8 0))), (.int .i64 (AV.toInt (AV.item v19 2))), (.int .i64 (AV.toInt (AV.item v19 3)))]))
             let v21 : AV := (getE v20 (Option.getD (AV.toPt (getE d7 7)) 0))
             ((F30 n [(.pt 2 (AV.toPt (getE d7 4))), (eta s48 v21), (.tup v20), (.tup (AV.toElems (getE r8 3))), (.tup (AV.toElems (getE r8 4))), (.tup (AV.toElems (getE r8 5)))])).bind fun r9 =>
             brO (Nat.beq (List.length r9) 1)
              (brO (Option.isSome (AV.toPt (getE d7 7)))
               (brO (Option.isSome (AV.toPt (getE d7 7)))
                (let v22 : (List AV) := (List.set v20 (Option.getD (AV.toPt (getE d7 7)) 0) (.agg [(eta s34 (AV.item v21 0)), (.int .i64 (AV.toInt (AV.item v21 1))), (.int .i64 (AV.toInt (AV.item v21 2))), (.int .i64 (AV.toInt (getE r9 0)))]))
                let v23 : AV := (.tup v22)
                ((F25 n [(.pt 2 (AV.toPt (getE d7 4))), (eta s48 (getE v22 (Option.getD (AV.toPt (getE d7 7)) 0))), v23, (.tup (AV.toElems (getE r8 3))), (.tup (AV.toElems (getE r8 4))), (.tup (AV.toElems (getE r8 5)))])).bind fun r10 =>
                brO (Nat.beq (List.length r10) 1)
                 (brO (Option.isSome (AV.toPt (getE d7 4)))
                  (brO (Option.isSome (AV.toPt (getE d7 4)))
                   (((F13 n [(eta s34 (getE r10 0))])).bind fun r11 =>
                   brO (Nat.beq (List.length r11) 1)
                    (let v24 : AV := (getE (AV.toElems (getE r8 3)) (Option.getD (AV.toPt (getE d7 4)) 0))
                    let v25 : Bool := (Option.isSome (AV.toPt (AV.item v24 1)))
                    brO (v25)
                     (let v26 : AV := (getE (AV.toElems (getE r8 4)) (Option.getD (AV.toPt (AV.item v24 1)) 0))
                     let v27 : (List AV) := (AV.ments v26)
                     let v28 : Int := (AV.mclk v26)
                     let v29 : Int := (mstamp (eta s34 (getE d7 5)) v27 v28)
                     let v30 : (List AV) := (List.set (AV.toElems (getE r8 4)) (Option.getD (AV.toPt (AV.item v24 1)) 0) (.mc (mput (eta s34 (getE d7 5)) (mget (eta s34 (getE d7 5)) (.pt 1 Option.none) v27) v27 v28) (mputC (eta s34 (getE d7 5)) v27 v28)))
                     let v31 : AV := (getE v30 (Option.getD (AV.toPt (AV.item v24 1)) 0))
                     let v32 : (List AV) := (AV.ments v31)
                     brO (v25 && (match Go.Am.mfindB v29 v32 with | Option.some val => Bool.true | Option.none => Bool.false))
                      (let v33 : Bool := (Option.isSome (AV.toPt (AV.item v24 2)))
                      brO (v33)
                       (let v34 : AV := (getE (AV.toElems (getE r8 5)) (Option.getD (AV.toPt (AV.item v24 2)) 0))
                       let v35 : (List AV) := (AV.ments v34)
                       let v36 : Int := (AV.mclk v34)
                       let v37 : Int := (mstamp (eta s34 (getE r11 0)) v35 v36)
                       let v38 : (List AV) := (List.set (AV.toElems (getE r8 5)) (Option.getD (AV.toPt (AV.item v24 2)) 0) (.mc (mput (eta s34 (getE r11 0)) (mget (eta s34 (getE r11 0)) z34 v35) v35 v36) (mputC (eta s34 (getE r11 0)) v35 v36)))
                       let v39 : AV := (getE v38 (Option.getD (AV.toPt (AV.item v24 2)) 0))
                       let v40 : (List AV) := (AV.ments v39)
                       brO (v33 && (match Go.Am.mfindB v37 v40 with | Option.some val => Bool.true | Option.none => Bool.false))
                        (some [(eta s34 (getE r10 0)), (.int .i64 0), v23, (.tup (AV.toElems (getE r8 3))), (.tup (List.set v30 (Option.getD (AV.toPt (AV.item v24 1)) 0) (.mc (mst v29 (.pt 1 (AV.toPt (getE d7 7))) v32) (AV.mclk v31)))), (.tup (List.set v38 (Option.getD (AV.toPt (AV.item v24 2)) 0) (.mc (mst v37 (eta s34 (getE d7 5)) v40) (AV.mclk v39))))])
                        (none))
                       (none))
                      (none))
                     (none))
                    (none))
                   (none))
                  (none))
                 (none))
                (none))
               (none))
              (none))
             (none)))
           (none))
          (none)))
        (none))
       (none)))
     (none)))
   (none) := by kernel_rfl

theorem eq12 (F13 : Fun) (F24 : Fun) (F26 : Fun) (n : Nat) (x0 : Option Nat) (x1 : AV) (x2 : Int) (m1 : List AV) (m2 : List AV) (m3 : List AV) (m4 : List AV) : run12 F13 F24 F26 n x0 x1 x2 m1 m2 m3 m4 =
  ((F24 n [(eta s34 x1)])).bind fun r0 =>
  brO (Nat.beq (List.length r0) 1)
   (brO ((AV.toInt (getE r0 0)) != 0)
    (some [z34, (.int .i64 (AV.toInt (getE r0 0))), (.tup m1), (.tup m2), (.tup m3), (.tup m4)])
    (brO (Option.isSome x0)
     (let v3 : (List AV) := (AV.ments (mapAt m4 (AV.toPt (AV.item (getE m2 (Option.getD x0 0)) 2))))
     brO (!(mhas (eta s34 x1) v3))
      (some [z34, (.int .i64 175), (.tup m1), (.tup m2), (.tup m3), (.tup m4)])
      (brO (Option.isSome x0)
       (let v4 : AV := (eta s34 (mget (eta s34 x1) z34 v3))
       ((F26 n [(.pt 2 x0), (.pt 1 (AV.toPt (mget v4 (.pt 1 Option.none) (AV.ments (mapAt m3 (AV.toPt (AV.item (getE m2 (Option.getD x0 0)) 1))))))), (.int .i64 x2), (.bool true), (.tup m1), (.tup m2), (.tup m3), (.tup m4)])).bind fun r1 =>
       brO (Nat.beq (List.length r1) 5)
        (brO (!(AV.toBool (getE r1 0)))
         (some [z34, (.int .i64 173), (.tup (AV.toElems (getE r1 1))), (.tup (AV.toElems (getE r1 2))), (.tup (AV.toElems (getE r1 3))), (.tup (AV.toElems (getE r1 4)))])
         (((F13 n [v4])).bind fun r2 =>
         brO (Nat.beq (List.length r2) 1)
          (some [(eta s34 (getE r2 0)), (.int .i64 0), (.tup (AV.toElems (getE r1 1))), (.tup (AV.toElems (getE r1 2))), (.tup (AV.toElems (getE r1 3))), (.tup (AV.toElems (getE r1 4)))])
          (none)))
        (none))
       (none)))
     (none)))
   (none) := by kernel_rfl

theorem eq36 (n : Nat) (x0 : Int) : run36 n x0 =
  some [(.agg [(.int .i64 4), (.arr .u8 16 [10, 0, 0, x0, 0, 0, 0, 0, 0, 0, 0, 0, 0, 0, 0, 0])])] := by kernel_rfl

theorem eq17 (F36 : Fun) (n : Nat) : run17 F36 n =
  ((F36 n [(.int .u8 1)])).bind fun r0 =>
  brO (Nat.beq (List.length r0) 1)
   (some [(.agg [(.int .i64 17), (eta s24 (getE r0 0)), (.agg [(.int .i64 4), (.arr .u8 16 [198, 51, 100, 7, 0, 0, 0, 0, 0, 0, 0, 0, 0, 0, 0, 0])]), (.int .i64 5000), (.int .i64 53)])])
   (none) := by kernel_rfl

theorem eq9 (F10 : Fun) (F11 : Fun) (F12 : Fun) (F13 : Fun) (F17 : Fun) (F20 : Fun) (F21 : Fun) (n : Nat) : run9 F10 F11 F12 F13 F17 F20 F21 n =
  ((F20 n [])).bind fun r0 =>
  brO (Nat.beq (List.length r0) 1)
   (((F21 n [(eta s26 (getE r0 0)), (.tup []), (.tup []), (.tup []), (.tup [])])).bind fun r1 =>
   brO (Nat.beq (List.length r1) 6)
    (jn
     (jn
      (brO (Option.isNone (AV.toPt (getE r1 0)))
       (inl (some [(.tup (AV.toElems (getE r1 2))), (.tup (AV.toElems (getE r1 3))), (.tup (AV.toElems (getE r1 4))), (.tup (AV.toElems (getE r1 5))), (.pt 2 (AV.toPt (getE r1 0))), (.bool true)]))
       (inl (some [(.tup (AV.toElems (getE r1 2))), (.tup (AV.toElems (getE r1 3))), (.tup (AV.toElems (getE r1 4))), (.tup (AV.toElems (getE r1 5))), (.pt 2 (AV.toPt (getE r1 0))), (.bool ((AV.toInt (getE r1 1)) != 0))]))) fun d2 =>
     brO (AV.toBool (getE d2 5))
      (inr (some [(.bool false)]))
      (inl (some [(.tup (AV.toElems (getE d2 0))), (.tup (AV.toElems (getE d2 1))), (.tup (AV.toElems (getE d2 2))), (.tup (AV.toElems (getE d2 3))), (.pt 2 (AV.toPt (getE d2 4)))]))) fun d3 =>
    ((F17 n [])).bind fun r4 =>
    brO (Nat.beq (List.length r4) 1)
     (((F11 n [(.pt 2 (AV.toPt (getE d3 4))), (eta s34 (getE r4 0)), (.int .i64 0), (.tup (AV.toElems (getE d3 0))), (.tup (AV.toElems (getE d3 1))), (.tup (AV.toElems (getE d3 2))), (.tup (AV.toElems (getE d3 3)))])).bind fun r5 =>
     brO (Nat.beq (List.length r5) 6)
      (((F13 n [(eta s34 (getE r5 0))])).bind fun r6 =>
      brO (Nat.beq (List.length r6) 1)
       (((F12 n [(.pt 2 (AV.toPt (getE d3 4))), (eta s34 (getE r6 0)), (.int .i64 0), (.tup (AV.toElems (getE r5 2))), (.tup (AV.toElems (getE r5 3))), (.tup (AV.toElems (getE r5 4))), (.tup (AV.toElems (getE r5 5)))])).bind fun r7 =>
       brO (Nat.beq (List.length r7) 6)
        (brO ((AV.toInt (getE r5 1)) == 0)
         (brO ((AV.toInt (getE r7 1)) == 0)
          (brO ((AV.toInt (AV.item (getE r5 0) 3)) == 1000)
           (((F17 n [])).bind fun r8 =>
           brO (Nat.beq (List.length r8) 1)
            (((F13 n [(eta s34 (getE r8 0))])).bind fun r9 =>
            brO (Nat.beq (List.length r9) 1)
             (brO (keq (eta s34 (getE r7 0)) (eta s34 (getE r9 0)))
              (((F10 n [(.pt 2 (AV.toPt (getE d3 4))), (.tup (AV.toElems (getE r7 2))), (.tup (AV.toElems (getE r7 3))), (.tup (AV.toElems (getE r7 4))), (.tup (AV.toElems (getE r7 5)))])).bind fun r10 =>
              brO (Nat.beq (List.length r10) 1)
               (some [(.bool ((AV.toInt (getE r10 0)) == 1))])
               (none))
              (some [(.bool false)]))
             (none))
            (none))
           (some [(.bool false)]))
          (some [(.bool false)]))
         (some [(.bool false)]))
        (none))
       (none))
      (none))
     (none))
    (none))
   (none) := by kernel_rfl

theorem eq18 (F37 : Fun) (n : Nat) (x0 : Option Nat) (m1 : List AV) (m2 : List AV) (m3 : List AV) (m4 : List AV) : run18 F37 n x0 m1 m2 m3 m4 =
  jn
   (brO (Option.isSome x0)
    (brO (Option.isSome (AV.toPt (AV.item (getE m2 (Option.getD x0 0)) 1)))
     (iter (fun d0 k1 =>
      let v5 : AV := (getE (AV.toElems (getE d0 2)) (Int.toNat (AV.toInt (getE (AV.toElems (getE d0 6)) 0))))
      let v6 : (List AV) := (AV.ments v5)
      let v7 : Int := (AV.toInt (getE (AV.toElems (getE d0 6)) 1))
      let v8 : Int := (AV.toInt (getE (AV.toElems (getE d0 6)) 3))
      brO ((List.all v6 (fun e => (decide ((bornOf e) < v7)))) && (decide (v7 ≤ v8)))
       (let v9 : (List Int) := (AV.toInts (getE (AV.toElems (getE d0 6)) 2))
       let v10 : (List AV) := (mleft v9 v6)
       brO (List.isEmpty v10)
        (inl (some [(.tup (AV.toElems (getE d0 0))), (.tup (AV.toElems (getE d0 1))), (.tup (AV.toElems (getE d0 2))), (.tup (AV.toElems (getE d0 3))), (.int .i64 (AV.toInt (getE d0 5)))]))
        (allO (List.length v10) fun i2 =>
        let v11 : (List Int) := (HAppend.hAppend v9 [(bornOf (getE v10 i2))])
        let v12 : Int := (AV.mclk v5)
        brO ((!(List.isEmpty v11)) && ((v12 == v12) && (match Go.Am.mfindB (List.getLastD v11 0) v6 with | Option.some val => Bool.true | Option.none => Bool.false)))
         (let v13 : Bool := (Option.isSome (AV.toPt (AV.item (Option.getD (mfindB (List.getLastD v11 0) v6) .undef) 2)))
         brO (v13)
          (brO (v13)
           (brO (v13)
            (let v14 : AV := (getE (AV.toElems (getE d0 0)) (Option.getD (AV.toPt (AV.item (Option.getD (mfindB (List.getLastD v11 0) v6) .undef) 2)) 0))
            let v15 : (List AV) := (List.set (AV.toElems (getE d0 0)) (Option.getD (AV.toPt (AV.item (Option.getD (mfindB (List.getLastD v11 0) v6) .undef) 2)) 0) (.agg [(eta s34 (AV.item v14 0)), (.int .i64 (AV.toInt (AV.item v14 1))), (.int .i64 (AV.toInt (AV.item v14 2))), (.int .i64 (IntKind.wrap .i64 ((AV.toInt (AV.item v14 3)) - 1)))]))
            let v16 : AV := (getE v15 (Option.getD (AV.toPt (AV.item (Option.getD (mfindB (List.getLastD v11 0) v6) .undef) 2)) 0))
            brO ((AV.toInt (AV.item v16 3)) == 0)
             (brO (v13)
              (let v17 : AV := (.tup v15)
              ((F37 n [(.pt 2 (AV.toPt (getE d0 4))), (eta s48 v16), v17, (.tup (AV.toElems (getE d0 1))), (.tup (AV.toElems (getE d0 2))), (.tup (AV.toElems (getE d0 3)))])).bind fun r3 =>
              brO (Nat.beq (List.length r3) 4)
               ((k1 [(.tup (AV.toElems (getE r3 0))), (.tup (AV.toElems (getE r3 1))), (.tup (AV.toElems (getE r3 2))), (.tup (AV.toElems (getE r3 3))), (.pt 2 (AV.toPt (getE d0 4))), (.int .i64 (IntKind.wrap .i64 ((AV.toInt (getE d0 5)) + 1))), (.tup [(.int .i64 (Int.ofNat (Int.toNat (AV.toInt (getE (AV.toElems (getE d0 6)) 0))))), (.int .i64 v7), (.fs .i64 v11), (.int .i64 v12)])]))
               (none))
              (none))
             (let v18 : AV := (.tup v15)
             (k1 [v18, (.tup (AV.toElems (getE d0 1))), (.tup (AV.toElems (getE d0 2))), (.tup (AV.toElems (getE d0 3))), (.pt 2 (AV.toPt (getE d0 4))), (.int .i64 (AV.toInt (getE d0 5))), (.tup [(.int .i64 (Int.ofNat (Int.toNat (AV.toInt (getE (AV.toElems (getE d0 6)) 0))))), (.int .i64 v7), (.fs .i64 v11), (.int .i64 v12)])])))
            (none))
           (none))
          (none))
         (none)))
       (none)) n [(.tup m1), (.tup m2), (.tup m3), (.tup m4), (.pt 2 x0), (.int .i64 0), (.tup [(.int .i64 (Int.ofNat (Option.getD (AV.toPt (AV.item (getE m2 (Option.getD x0 0)) 1)) 0))), (.int .i64 (AV.mclk (getE m3 (Option.getD (AV.toPt (AV.item (getE m2 (Option.getD x0 0)) 1)) 0)))), (.fs .i64 []), (.int .i64 (AV.mclk (getE m3 (Option.getD (AV.toPt (AV.item (getE m2 (Option.getD x0 0)) 1)) 0))))])])
     (none))
    (none)) fun d4 =>
  some [(.int .i64 (AV.toInt (getE d4 4))), (.tup (AV.toElems (getE d4 0))), (.tup (AV.toElems (getE d4 1))), (.tup (AV.toElems (getE d4 2))), (.tup (AV.toElems (getE d4 3)))] := by kernel_rfl

theorem eq14 (F11 : Fun) (F12 : Fun) (F13 : Fun) (F18 : Fun) (n : Nat) (x0 : Option Nat) (x1 : AV) (x2 : AV) (m1 : List AV) (m2 : List AV) (m3 : List AV) (m4 : List AV) : run14 F11 F12 F13 F18 n x0 x1 x2 m1 m2 m3 m4 =
  jn
   (brO ((AV.toInt (AV.item x1 0)) == 1)
    (((F11 n [(.pt 2 x0), (eta s34 (AV.item x1 2)), (.int .i64 (AV.toInt (AV.item x1 3))), (.tup m1), (.tup m2), (.tup m3), (.tup m4)])).bind fun r0 =>
    brO (Nat.beq (List.length r0) 6)
     (brO ((AV.toInt (getE r0 1)) == 0)
      (inr (some [(eta s34 (getE r0 0)), (.bool true), (.tup (AV.toElems (getE r0 2))), (.tup (AV.toElems (getE r0 3))), (.tup (AV.toElems (getE r0 4))), (.tup (AV.toElems (getE r0 5)))]))
      (inl (some [(.tup (AV.toElems (getE r0 2))), (.tup (AV.toElems (getE r0 3))), (.tup (AV.toElems (getE r0 4))), (.tup (AV.toElems (getE r0 5))), (eta s34 x2), z34])))
     (none))
    (brO ((AV.toInt (AV.item x1 0)) == 2)
     (((F12 n [(.pt 2 x0), (eta s34 (AV.item x1 2)), (.int .i64 (AV.toInt (AV.item x1 3))), (.tup m1), (.tup m2), (.tup m3), (.tup m4)])).bind fun r1 =>
     brO (Nat.beq (List.length r1) 6)
      (inl (some [(.tup (AV.toElems (getE r1 2))), (.tup (AV.toElems (getE r1 3))), (.tup (AV.toElems (getE r1 4))), (.tup (AV.toElems (getE r1 5))), (eta s34 x2), z34]))
      (none))
     (brO ((AV.toInt (AV.item x1 0)) == 3)
      (((F13 n [(eta s34 x2)])).bind fun r2 =>
      brO (Nat.beq (List.length r2) 1)
       (((F12 n [(.pt 2 x0), (eta s34 (getE r2 0)), (.int .i64 (AV.toInt (AV.item x1 3))), (.tup m1), (.tup m2), (.tup m3), (.tup m4)])).bind fun r3 =>
       brO (Nat.beq (List.length r3) 6)
        (inl (some [(.tup (AV.toElems (getE r3 2))), (.tup (AV.toElems (getE r3 3))), (.tup (AV.toElems (getE r3 4))), (.tup (AV.toElems (getE r3 5))), (eta s34 x2), z34]))
        (none))
       (none))
      (brO ((AV.toInt (AV.item x1 0)) == 4)
       (iter (fun d4 k5 =>
        jn
         (let v9 : Int := (AV.toInt (AV.item (getE d4 5) 4))
         brO (decide ((AV.toInt (getE d4 8)) < v9))
          (brO (decide ((AV.toInt (getE d4 8)) < 40))
           (inl (some [(.tup (AV.toElems (getE d4 0))), (.tup (AV.toElems (getE d4 1))), (.tup (AV.toElems (getE d4 2))), (.tup (AV.toElems (getE d4 3))), (.pt 2 (AV.toPt (getE d4 4))), (eta s36 (getE d4 5)), (eta s34 (getE d4 6)), (eta s34 (getE d4 7)), (.int .i64 (AV.toInt (getE d4 8)))]))
           (inr (inl (some [(.tup (AV.toElems (getE d4 0))), (.tup (AV.toElems (getE d4 1))), (.tup (AV.toElems (getE d4 2))), (.tup (AV.toElems (getE d4 3))), (eta s34 (getE d4 6)), (eta s34 (getE d4 7))]))))
          (inr (inl (some [(.tup (AV.toElems (getE d4 0))), (.tup (AV.toElems (getE d4 1))), (.tup (AV.toElems (getE d4 2))), (.tup (AV.toElems (getE d4 3))), (eta s34 (getE d4 6)), (eta s34 (getE d4 7))])))) fun d6 =>
        ((F18 n [(.pt 2 (AV.toPt (getE d6 4))), (.tup (AV.toElems (getE d6 0))), (.tup (AV.toElems (getE d6 1))), (.tup (AV.toElems (getE d6 2))), (.tup (AV.toElems (getE d6 3)))])).bind fun r7 =>
        brO (Nat.beq (List.length r7) 5)
         ((k5 [(.tup (AV.toElems (getE r7 1))), (.tup (AV.toElems (getE r7 2))), (.tup (AV.toElems (getE r7 3))), (.tup (AV.toElems (getE r7 4))), (.pt 2 (AV.toPt (getE d6 4))), (eta s36 (getE d6 5)), (eta s34 (getE d6 6)), (eta s34 (getE d6 7)), (.int .i64 (IntKind.wrap .i64 ((AV.toInt (getE d6 8)) + 1)))]))
         (none)) n [(.tup m1), (.tup m2), (.tup m3), (.tup m4), (.pt 2 x0), (eta s36 x1), (eta s34 x2), z34, (.int .i64 0)])
       (inl (some [(.tup m1), (.tup m2), (.tup m3), (.tup m4), (eta s34 x2), z34])))))) fun d8 =>
  some [(eta s34 (getE d8 4)), (.bool false), (.tup (AV.toElems (getE d8 0))), (.tup (AV.toElems (getE d8 1))), (.tup (AV.toElems (getE d8 2))), (.tup (AV.toElems (getE d8 3)))] := by kernel_rfl

theorem eq3 (F8 : Fun) (F9 : Fun) (F10 : Fun) (F11 : Fun) (F12 : Fun) (F13 : Fun) (F14 : Fun) (n : Nat) (x0 : AV) (x1 : List AV) : run3 F8 F9 F10 F11 F12 F13 F14 n x0 x1 =
  ((F8 n [(eta s26 x0), (.tup []), (.tup []), (.tup []), (.tup [])])).bind fun r0 =>
  brO (Nat.beq (List.length r0) 6)
   (jn
    (jn
     (brO (Option.isNone (AV.toPt (getE r0 0)))
      (inl (some [(.tup (AV.toElems (getE r0 2))), (.tup (AV.toElems (getE r0 3))), (.tup (AV.toElems (getE r0 4))), (.tup (AV.toElems (getE r0 5))), (.fv s36 x1), (.pt 2 (AV.toPt (getE r0 0))), (.bool true)]))
      (((F9 n [])).bind fun r1 =>
      brO (Nat.beq (List.length r1) 1)
       (inl (some [(.tup (AV.toElems (getE r0 2))), (.tup (AV.toElems (getE r0 3))), (.tup (AV.toElems (getE r0 4))), (.tup (AV.toElems (getE r0 5))), (.fv s36 x1), (.pt 2 (AV.toPt (getE r0 0))), (.bool (!(AV.toBool (getE r1 0))))]))
       (none))) fun d2 =>
    brO (AV.toBool (getE d2 6))
     (inr (some [(.bool false)]))
     (inl (some [(.tup (AV.toElems (getE d2 0))), (.tup (AV.toElems (getE d2 1))), (.tup (AV.toElems (getE d2 2))), (.tup (AV.toElems (getE d2 3))), (.fv s36 (AV.toElems (getE d2 4))), (.pt 2 (AV.toPt (getE d2 5)))]))) fun d3 =>
   jn
    (iter (fun d4 k5 =>
     jn
      (brO (decide ((AV.toInt (getE d4 8)) < (Int.ofNat (List.length (AV.toElems (getE d4 4))))))
       (brO (decide ((AV.toInt (getE d4 8)) < 400))
        (inl (some [(.tup (AV.toElems (getE d4 0))), (.tup (AV.toElems (getE d4 1))), (.tup (AV.toElems (getE d4 2))), (.tup (AV.toElems (getE d4 3))), (.fv s36 (AV.toElems (getE d4 4))), (.pt 2 (AV.toPt (getE d4 5))), (.fv s34 (AV.toElems (getE d4 6))), (eta s34 (getE d4 7)), (.int .i64 (AV.toInt (getE d4 8)))]))
        (inr (inl (some [(.tup (AV.toElems (getE d4 0))), (.tup (AV.toElems (getE d4 1))), (.tup (AV.toElems (getE d4 2))), (.tup (AV.toElems (getE d4 3)))]))))
       (inr (inl (some [(.tup (AV.toElems (getE d4 0))), (.tup (AV.toElems (getE d4 1))), (.tup (AV.toElems (getE d4 2))), (.tup (AV.toElems (getE d4 3)))])))) fun d6 =>
     jn
      (brO (inR (AV.toInt (getE d6 8)) (List.length (AV.toElems (getE d6 4))))
       (((F10 n [(.pt 2 (AV.toPt (getE d6 5))), (.tup (AV.toElems (getE d6 0))), (.tup (AV.toElems (getE d6 1))), (.tup (AV.toElems (getE d6 2))), (.tup (AV.toElems (getE d6 3)))])).bind fun r7 =>
       brO (Nat.beq (List.length r7) 1)
        (let v32 : AV := (getE (AV.toElems (getE d6 4)) (Int.toNat (AV.toInt (getE d6 8))))
        let v33 : Int := (AV.toInt (AV.item v32 0))
        brO (v33 == 1)
         (let v34 : AV := (AV.item v32 2)
         let v35 : AV := (eta s34 v34)
         let v36 : Int := (AV.toInt (AV.item v32 3))
         ((F11 n [(.pt 2 (AV.toPt (getE d6 5))), v35, (.int .i64 v36), (.tup (AV.toElems (getE d6 0))), (.tup (AV.toElems (getE d6 1))), (.tup (AV.toElems (getE d6 2))), (.tup (AV.toElems (getE d6 3)))])).bind fun r8 =>
         brO (Nat.beq (List.length r8) 6)
          (brO ((AV.toInt (getE r8 1)) != 0)
           (jn
            (brO (!(keq (eta s34 (getE r8 0)) z34))
             (inl (some [(.tup (AV.toElems (getE r8 2))), (.tup (AV.toElems (getE r8 3))), (.tup (AV.toElems (getE r8 4))), (.tup (AV.toElems (getE r8 5))), (.fv s36 (AV.toElems (getE d6 4))), (.pt 2 (AV.toPt (getE d6 5))), (.fv s34 (AV.toElems (getE d6 6))), (eta s34 (getE d6 7)), (.int .i64 (AV.toInt (getE d6 8))), (.bool true)]))
             (((F10 n [(.pt 2 (AV.toPt (getE d6 5))), (.tup (AV.toElems (getE r8 2))), (.tup (AV.toElems (getE r8 3))), (.tup (AV.toElems (getE r8 4))), (.tup (AV.toElems (getE r8 5)))])).bind fun r9 =>
             brO (Nat.beq (List.length r9) 1)
              (inl (some [(.tup (AV.toElems (getE r8 2))), (.tup (AV.toElems (getE r8 3))), (.tup (AV.toElems (getE r8 4))), (.tup (AV.toElems (getE r8 5))), (.fv s36 (AV.toElems (getE d6 4))), (.pt 2 (AV.toPt (getE d6 5))), (.fv s34 (AV.toElems (getE d6 6))), (eta s34 (getE d6 7)), (.int .i64 (AV.toInt (getE d6 8))), (.bool ((AV.toInt (getE r9 0)) != (AV.toInt (getE r7 0))))]))
              (none))) fun d10 =>
           brO (AV.toBool (getE d10 9))
            (inr (inr (some [(.bool false)])))
            (inl (some [(.tup (AV.toElems (getE d10 0))), (.tup (AV.toElems (getE d10 1))), (.tup (AV.toElems (getE d10 2))), (.tup (AV.toElems (getE d10 3))), (.fv s36 (AV.toElems (getE d10 4))), (.pt 2 (AV.toPt (getE d10 5))), (.fv s34 (AV.toElems (getE d10 6))), (eta s34 (getE d10 7)), (.int .i64 (AV.toInt (getE d10 8)))])))
           (brO (Nat.ble (((List.length (AV.toElems (getE d6 6))) + 1) * 72) 140737488355328)
            (jn
             (brO ((AV.toInt (AV.item v34 0)) == 6)
              (brO ((IntKind.wrap .i64 (Int.ofNat (BitVec.toNat ((BitVec.ofInt 64 v36) &&& (BitVec.ofInt 64 7))))) != 2)
               (inr (inl (let v37 : AV := (.fv s34 (HAppend.hAppend (AV.toElems (getE d6 6)) [v35]))
               some [(.tup (AV.toElems (getE r8 2))), (.tup (AV.toElems (getE r8 3))), (.tup (AV.toElems (getE r8 4))), (.tup (AV.toElems (getE r8 5))), (.fv s36 (AV.toElems (getE d6 4))), (.pt 2 (AV.toPt (getE d6 5))), v37, (eta s34 (getE r8 0)), (.int .i64 (AV.toInt (getE d6 8)))])))
               (inl (let v38 : AV := (.fv s34 (HAppend.hAppend (AV.toElems (getE d6 6)) [v35]))
               let v39 : AV := (eta s36 v32)
               some [(.tup (AV.toElems (getE r8 2))), (.tup (AV.toElems (getE r8 3))), (.tup (AV.toElems (getE r8 4))), (.tup (AV.toElems (getE r8 5))), (.fv s36 (AV.toElems (getE d6 4))), (.pt 2 (AV.toPt (getE d6 5))), v38, (eta s34 (getE r8 0)), (.int .i64 (AV.toInt (getE d6 8))), v39, (eta s34 (getE r8 0))])))
              (inl (let v40 : AV := (.fv s34 (HAppend.hAppend (AV.toElems (getE d6 6)) [v35]))
              let v41 : AV := (eta s36 v32)
              some [(.tup (AV.toElems (getE r8 2))), (.tup (AV.toElems (getE r8 3))), (.tup (AV.toElems (getE r8 4))), (.tup (AV.toElems (getE r8 5))), (.fv s36 (AV.toElems (getE d6 4))), (.pt 2 (AV.toPt (getE d6 5))), v40, (eta s34 (getE r8 0)), (.int .i64 (AV.toInt (getE d6 8))), v41, (eta s34 (getE r8 0))]))) fun d11 =>
            ((F13 n [(eta s34 (getE d11 10))])).bind fun r12 =>
            brO (Nat.beq (List.length r12) 1)
             (((F12 n [(.pt 2 (AV.toPt (getE d11 5))), (eta s34 (getE r12 0)), (.int .i64 18), (.tup (AV.toElems (getE d11 0))), (.tup (AV.toElems (getE d11 1))), (.tup (AV.toElems (getE d11 2))), (.tup (AV.toElems (getE d11 3)))])).bind fun r13 =>
             brO (Nat.beq (List.length r13) 6)
              (jn
               (brO ((AV.toInt (getE r13 1)) != 0)
                (let v42 : AV := (AV.item (getE d11 9) 2)
                let v43 : Bool := ((AV.toInt (AV.item v42 0)) != 6)
                brO (v43)
                 (inl (some [(.tup (AV.toElems (getE r13 2))), (.tup (AV.toElems (getE r13 3))), (.tup (AV.toElems (getE r13 4))), (.tup (AV.toElems (getE r13 5))), (.fv s36 (AV.toElems (getE d11 4))), (.pt 2 (AV.toPt (getE d11 5))), (.fv s34 (AV.toElems (getE d11 6))), (eta s34 (getE d11 7)), (.int .i64 (AV.toInt (getE d11 8))), (.bool true)]))
                 (inl (some [(.tup (AV.toElems (getE r13 2))), (.tup (AV.toElems (getE r13 3))), (.tup (AV.toElems (getE r13 4))), (.tup (AV.toElems (getE r13 5))), (.fv s36 (AV.toElems (getE d11 4))), (.pt 2 (AV.toPt (getE d11 5))), (.fv s34 (AV.toElems (getE d11 6))), (eta s34 (getE d11 7)), (.int .i64 (AV.toInt (getE d11 8))), (.bool ((IntKind.wrap .i64 (Int.ofNat (BitVec.toNat ((BitVec.ofInt 64 (AV.toInt (AV.item (getE d11 9) 3))) &&& (BitVec.ofInt 64 16))))) == 0))])))
                (let v44 : AV := (AV.item (getE d11 9) 2)
                ((F13 n [(eta s34 v44)])).bind fun r14 =>
                brO (Nat.beq (List.length r14) 1)
                 (brO (!(keq (eta s34 (getE r13 0)) (eta s34 (getE r14 0))))
                  (let v45 : Bool := ((AV.toInt (AV.item v44 0)) != 6)
                  brO (v45)
                   (inl (some [(.tup (AV.toElems (getE r13 2))), (.tup (AV.toElems (getE r13 3))), (.tup (AV.toElems (getE r13 4))), (.tup (AV.toElems (getE r13 5))), (.fv s36 (AV.toElems (getE d11 4))), (.pt 2 (AV.toPt (getE d11 5))), (.fv s34 (AV.toElems (getE d11 6))), (eta s34 (getE d11 7)), (.int .i64 (AV.toInt (getE d11 8))), (.bool true)]))
                   (inl (some [(.tup (AV.toElems (getE r13 2))), (.tup (AV.toElems (getE r13 3))), (.tup (AV.toElems (getE r13 4))), (.tup (AV.toElems (getE r13 5))), (.fv s36 (AV.toElems (getE d11 4))), (.pt 2 (AV.toPt (getE d11 5))), (.fv s34 (AV.toElems (getE d11 6))), (eta s34 (getE d11 7)), (.int .i64 (AV.toInt (getE d11 8))), (.bool ((IntKind.wrap .i64 (Int.ofNat (BitVec.toNat ((BitVec.ofInt 64 (AV.toInt (AV.item (getE d11 9) 3))) &&& (BitVec.ofInt 64 16))))) == 0))])))
                  (inl (some [(.tup (AV.toElems (getE r13 2))), (.tup (AV.toElems (getE r13 3))), (.tup (AV.toElems (getE r13 4))), (.tup (AV.toElems (getE r13 5))), (.fv s36 (AV.toElems (getE d11 4))), (.pt 2 (AV.toPt (getE d11 5))), (.fv s34 (AV.toElems (getE d11 6))), (eta s34 (getE d11 7)), (.int .i64 (AV.toInt (getE d11 8))), (.bool false)])))
                 (none))) fun d15 =>
              brO (AV.toBool (getE d15 9))
               (inr (inr (some [(.bool false)])))
               (inl (some [(.tup (AV.toElems (getE d15 0))), (.tup (AV.toElems (getE d15 1))), (.tup (AV.toElems (getE d15 2))), (.tup (AV.toElems (getE d15 3))), (.fv s36 (AV.toElems (getE d15 4))), (.pt 2 (AV.toPt (getE d15 5))), (.fv s34 (AV.toElems (getE d15 6))), (eta s34 (getE d15 7)), (.int .i64 (AV.toInt (getE d15 8)))])))
              (none))
             (none))
            (none)))
          (none))
         (jn
          (let v46 : Bool := (v33 == 2)
          brO (v46)
           (inl (let v47 : AV := (eta s36 v32)
           some [(.tup (AV.toElems (getE d6 0))), (.tup (AV.toElems (getE d6 1))), (.tup (AV.toElems (getE d6 2))), (.tup (AV.toElems (getE d6 3))), (.fv s36 (AV.toElems (getE d6 4))), (.pt 2 (AV.toPt (getE d6 5))), (.fv s34 (AV.toElems (getE d6 6))), (eta s34 (getE d6 7)), (.int .i64 (AV.toInt (getE d6 8))), v47, (.int .i64 (AV.toInt (getE r7 0))), (.int .i64 v33), (.bool v46)]))
           (inl (let v48 : AV := (eta s36 v32)
           some [(.tup (AV.toElems (getE d6 0))), (.tup (AV.toElems (getE d6 1))), (.tup (AV.toElems (getE d6 2))), (.tup (AV.toElems (getE d6 3))), (.fv s36 (AV.toElems (getE d6 4))), (.pt 2 (AV.toPt (getE d6 5))), (.fv s34 (AV.toElems (getE d6 6))), (eta s34 (getE d6 7)), (.int .i64 (AV.toInt (getE d6 8))), v48, (.int .i64 (AV.toInt (getE r7 0))), (.int .i64 v33), (.bool (v33 == 3))]))) fun d16 =>
         brO (AV.toBool (getE d16 12))
          (jn
           (brO ((AV.toInt (AV.item (getE d16 9) 0)) == 3)
            (((F13 n [(eta s34 (getE d16 7))])).bind fun r17 =>
            brO (Nat.beq (List.length r17) 1)
             (inl (some [(.tup (AV.toElems (getE d16 0))), (.tup (AV.toElems (getE d16 1))), (.tup (AV.toElems (getE d16 2))), (.tup (AV.toElems (getE d16 3))), (.fv s36 (AV.toElems (getE d16 4))), (.pt 2 (AV.toPt (getE d16 5))), (.fv s34 (AV.toElems (getE d16 6))), (eta s34 (getE d16 7)), (.int .i64 (AV.toInt (getE d16 8))), (eta s36 (getE d16 9)), (.int .i64 (AV.toInt (getE d16 10))), (eta s34 (getE r17 0))]))
             (none))
            (inl (some [(.tup (AV.toElems (getE d16 0))), (.tup (AV.toElems (getE d16 1))), (.tup (AV.toElems (getE d16 2))), (.tup (AV.toElems (getE d16 3))), (.fv s36 (AV.toElems (getE d16 4))), (.pt 2 (AV.toPt (getE d16 5))), (.fv s34 (AV.toElems (getE d16 6))), (eta s34 (getE d16 7)), (.int .i64 (AV.toInt (getE d16 8))), (eta s36 (getE d16 9)), (.int .i64 (AV.toInt (getE d16 10))), (eta s34 (AV.item (getE d16 9) 2))]))) fun d18 =>
          ((F12 n [(.pt 2 (AV.toPt (getE d18 5))), (eta s34 (getE d18 11)), (.int .i64 (AV.toInt (AV.item (getE d18 9) 3))), (.tup (AV.toElems (getE d18 0))), (.tup (AV.toElems (getE d18 1))), (.tup (AV.toElems (getE d18 2))), (.tup (AV.toElems (getE d18 3)))])).bind fun r19 =>
          brO (Nat.beq (List.length r19) 6)
           (jn
            (jn
             (((F10 n [(.pt 2 (AV.toPt (getE d18 5))), (.tup (AV.toElems (getE r19 2))), (.tup (AV.toElems (getE r19 3))), (.tup (AV.toElems (getE r19 4))), (.tup (AV.toElems (getE r19 5)))])).bind fun r20 =>
             brO (Nat.beq (List.length r20) 1)
              (brO (decide ((AV.toInt (getE r20 0)) > (AV.toInt (getE d18 10))))
               (inl (some [(.tup (AV.toElems (getE r19 2))), (.tup (AV.toElems (getE r19 3))), (.tup (AV.toElems (getE r19 4))), (.tup (AV.toElems (getE r19 5))), (.fv s36 (AV.toElems (getE d18 4))), (.pt 2 (AV.toPt (getE d18 5))), (.fv s34 (AV.toElems (getE d18 6))), (eta s34 (getE d18 7)), (.int .i64 (AV.toInt (getE d18 8))), (eta s34 (getE r19 0)), (.int .i64 (AV.toInt (getE r19 1))), (.bool true)]))
               (brO ((AV.toInt (getE r19 1)) != 0)
                (brO (!(keq (eta s34 (getE r19 0)) z34))
                 (inl (some [(.tup (AV.toElems (getE r19 2))), (.tup (AV.toElems (getE r19 3))), (.tup (AV.toElems (getE r19 4))), (.tup (AV.toElems (getE r19 5))), (.fv s36 (AV.toElems (getE d18 4))), (.pt 2 (AV.toPt (getE d18 5))), (.fv s34 (AV.toElems (getE d18 6))), (eta s34 (getE d18 7)), (.int .i64 (AV.toInt (getE d18 8))), (eta s34 (getE r19 0)), (.int .i64 (AV.toInt (getE r19 1))), (.bool true)]))
                 (((F10 n [(.pt 2 (AV.toPt (getE d18 5))), (.tup (AV.toElems (getE r19 2))), (.tup (AV.toElems (getE r19 3))), (.tup (AV.toElems (getE r19 4))), (.tup (AV.toElems (getE r19 5)))])).bind fun r21 =>
                 brO (Nat.beq (List.length r21) 1)
                  (inl (some [(.tup (AV.toElems (getE r19 2))), (.tup (AV.toElems (getE r19 3))), (.tup (AV.toElems (getE r19 4))), (.tup (AV.toElems (getE r19 5))), (.fv s36 (AV.toElems (getE d18 4))), (.pt 2 (AV.toPt (getE d18 5))), (.fv s34 (AV.toElems (getE d18 6))), (eta s34 (getE d18 7)), (.int .i64 (AV.toInt (getE d18 8))), (eta s34 (getE r19 0)), (.int .i64 (AV.toInt (getE r19 1))), (.bool ((AV.toInt (getE r21 0)) != (AV.toInt (getE d18 10))))]))
                  (none)))
                (inl (some [(.tup (AV.toElems (getE r19 2))), (.tup (AV.toElems (getE r19 3))), (.tup (AV.toElems (getE r19 4))), (.tup (AV.toElems (getE r19 5))), (.fv s36 (AV.toElems (getE d18 4))), (.pt 2 (AV.toPt (getE d18 5))), (.fv s34 (AV.toElems (getE d18 6))), (eta s34 (getE d18 7)), (.int .i64 (AV.toInt (getE d18 8))), (eta s34 (getE r19 0)), (.int .i64 (AV.toInt (getE r19 1))), (.bool false)]))))
              (none)) fun d22 =>
            brO (AV.toBool (getE d22 11))
             (inr (inr (inr (some [(.bool false)]))))
             (inl (some [(.tup (AV.toElems (getE d22 0))), (.tup (AV.toElems (getE d22 1))), (.tup (AV.toElems (getE d22 2))), (.tup (AV.toElems (getE d22 3))), (.fv s36 (AV.toElems (getE d22 4))), (.pt 2 (AV.toPt (getE d22 5))), (.fv s34 (AV.toElems (getE d22 6))), (eta s34 (getE d22 7)), (.int .i64 (AV.toInt (getE d22 8))), (eta s34 (getE d22 9)), (.int .i64 (AV.toInt (getE d22 10)))]))) fun d23 =>
           jn
            (iter (fun d24 k25 =>
             brO (decide ((AV.toInt (getE d24 11)) < (Int.ofNat (List.length (AV.toElems (getE d24 6))))))
              (jn
               (brO (AV.toBool (getE d24 10))
                (inl (some [(.tup (AV.toElems (getE d24 0))), (.tup (AV.toElems (getE d24 1))), (.tup (AV.toElems (getE d24 2))), (.tup (AV.toElems (getE d24 3))), (.fv s36 (AV.toElems (getE d24 4))), (.pt 2 (AV.toPt (getE d24 5))), (.fv s34 (AV.toElems (getE d24 6))), (eta s34 (getE d24 7)), (.int .i64 (AV.toInt (getE d24 8))), (eta s34 (getE d24 9)), (.bool true), (.int .i64 (AV.toInt (getE d24 11)))]))
                (brO (inR (AV.toInt (getE d24 11)) (List.length (AV.toElems (getE d24 6))))
                 (brO (Nat.ble ((Int.toNat (AV.toInt (getE d24 11))) + 1) (List.length (AV.toElems (getE d24 6))))
                  (((F13 n [(eta s34 (getE (AV.toElems (getE d24 6)) (Int.toNat (AV.toInt (getE d24 11)))))])).bind fun r26 =>
                  brO (Nat.beq (List.length r26) 1)
                   (inl (some [(.tup (AV.toElems (getE d24 0))), (.tup (AV.toElems (getE d24 1))), (.tup (AV.toElems (getE d24 2))), (.tup (AV.toElems (getE d24 3))), (.fv s36 (AV.toElems (getE d24 4))), (.pt 2 (AV.toPt (getE d24 5))), (.fv s34 (AV.toElems (getE d24 6))), (eta s34 (getE d24 7)), (.int .i64 (AV.toInt (getE d24 8))), (eta s34 (getE d24 9)), (.bool (keq (eta s34 (getE r26 0)) (eta s34 (getE d24 9)))), (.int .i64 (AV.toInt (getE d24 11)))]))
                   (none))
                  (none))
                 (none))) fun d27 =>
              (k25 [(.tup (AV.toElems (getE d27 0))), (.tup (AV.toElems (getE d27 1))), (.tup (AV.toElems (getE d27 2))), (.tup (AV.toElems (getE d27 3))), (.fv s36 (AV.toElems (getE d27 4))), (.pt 2 (AV.toPt (getE d27 5))), (.fv s34 (AV.toElems (getE d27 6))), (eta s34 (getE d27 7)), (.int .i64 (AV.toInt (getE d27 8))), (eta s34 (getE d27 9)), (.bool (AV.toBool (getE d27 10))), (.int .i64 (IntKind.wrap .i64 ((AV.toInt (getE d27 11)) + 1)))]))
              (inl (some [(.tup (AV.toElems (getE d24 0))), (.tup (AV.toElems (getE d24 1))), (.tup (AV.toElems (getE d24 2))), (.tup (AV.toElems (getE d24 3))), (.fv s36 (AV.toElems (getE d24 4))), (.pt 2 (AV.toPt (getE d24 5))), (.fv s34 (AV.toElems (getE d24 6))), (eta s34 (getE d24 7)), (.int .i64 (AV.toInt (getE d24 8))), (.bool (AV.toBool (getE d24 10)))]))) n [(.tup (AV.toElems (getE d23 0))), (.tup (AV.toElems (getE d23 1))), (.tup (AV.toElems (getE d23 2))), (.tup (AV.toElems (getE d23 3))), (.fv s36 (AV.toElems (getE d23 4))), (.pt 2 (AV.toPt (getE d23 5))), (.fv s34 (AV.toElems (getE d23 6))), (eta s34 (getE d23 7)), (.int .i64 (AV.toInt (getE d23 8))), (eta s34 (getE d23 9)), (.bool ((AV.toInt (getE d23 10)) != 0)), (.int .i64 0)]) fun d28 =>
           brO (!(AV.toBool (getE d28 9)))
            (inr (inr (some [(.bool false)])))
            (inl (some [(.tup (AV.toElems (getE d28 0))), (.tup (AV.toElems (getE d28 1))), (.tup (AV.toElems (getE d28 2))), (.tup (AV.toElems (getE d28 3))), (.fv s36 (AV.toElems (getE d28 4))), (.pt 2 (AV.toPt (getE d28 5))), (.fv s34 (AV.toElems (getE d28 6))), (eta s34 (getE d28 7)), (.int .i64 (AV.toInt (getE d28 8)))])))
           (none))
          (brO ((AV.toInt (getE d16 11)) == 4)
           (((F14 n [(.pt 2 (AV.toPt (getE d16 5))), (eta s36 (getE d16 9)), (eta s34 (getE d16 7)), (.tup (AV.toElems (getE d16 0))), (.tup (AV.toElems (getE d16 1))), (.tup (AV.toElems (getE d16 2))), (.tup (AV.toElems (getE d16 3)))])).bind fun r29 =>
           brO (Nat.beq (List.length r29) 6)
            (inl (some [(.tup (AV.toElems (getE r29 2))), (.tup (AV.toElems (getE r29 3))), (.tup (AV.toElems (getE r29 4))), (.tup (AV.toElems (getE r29 5))), (.fv s36 (AV.toElems (getE d16 4))), (.pt 2 (AV.toPt (getE d16 5))), (.fv s34 (AV.toElems (getE d16 6))), (eta s34 (getE r29 0)), (.int .i64 (AV.toInt (getE d16 8)))]))
            (none))
           (inl (some [(.tup (AV.toElems (getE d16 0))), (.tup (AV.toElems (getE d16 1))), (.tup (AV.toElems (getE d16 2))), (.tup (AV.toElems (getE d16 3))), (.fv s36 (AV.toElems (getE d16 4))), (.pt 2 (AV.toPt (getE d16 5))), (.fv s34 (AV.toElems (getE d16 6))), (eta s34 (getE d16 7)), (.int .i64 (AV.toInt (getE d16 8)))])))))
        (none))
       (none)) fun d30 =>
     (k5 [(.tup (AV.toElems (getE d30 0))), (.tup (AV.toElems (getE d30 1))), (.tup (AV.toElems (getE d30 2))), (.tup (AV.toElems (getE d30 3))), (.fv s36 (AV.toElems (getE d30 4))), (.pt 2 (AV.toPt (getE d30 5))), (.fv s34 (AV.toElems (getE d30 6))), (eta s34 (getE d30 7)), (.int .i64 (IntKind.wrap .i64 ((AV.toInt (getE d30 8)) + 1)))])) n [(.tup (AV.toElems (getE d3 0))), (.tup (AV.toElems (getE d3 1))), (.tup (AV.toElems (getE d3 2))), (.tup (AV.toElems (getE d3 3))), (.fv s36 (AV.toElems (getE d3 4))), (.pt 2 (AV.toPt (getE d3 5))), (.fv s34 []), z34, (.int .i64 0)]) fun d31 =>
   some [(.bool true)])
   (none) := by kernel_rfl

end Go.Proofs.YtldnpibpbbcjgaaDoor.Am
end
