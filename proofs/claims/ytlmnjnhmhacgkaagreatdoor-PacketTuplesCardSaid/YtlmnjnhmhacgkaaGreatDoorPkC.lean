/-
  Runs of functions as plain equations. Printed by a program (wip/tool/T3.lean).
-/
import Derived.Test.YtlmnjnhmhacgkaaGreatDoorPkA
import Derived.KernelRfl
section
set_option linter.unusedVariables false
set_option maxRecDepth 100000
namespace Go.Proofs.YtlmnjnhmhacgkaaGreatDoor.Am
open Go Go.Am Go.Proofs

theorem eq55 (n : Nat) (x0 : AV) : run55 n x0 =
  brO ((AV.toInt (AV.item x0 3)) == 2)
   (brO (AV.toBool (AV.item (AV.item x0 5) 3))
    (let v0 : AV := (eta s27 (AV.item (AV.item x0 5) 7))
    let v1 : AV := (eta s27 (AV.item (AV.item x0 5) 8))
    some [(.agg [v0, v1, (.int .i64 4), (.int .i64 (AV.toInt (AV.item (AV.item x0 5) 6))), (.bool true)])])
    (let v2 : AV := (eta s27 (AV.item (AV.item x0 5) 7))
    let v3 : AV := (eta s27 (AV.item (AV.item x0 5) 8))
    let v4 : Int := (AV.toInt (AV.item (AV.item x0 5) 4))
    some [(.agg [v2, v3, (.int .i64 4), (.int .i64 (AV.toInt (AV.item (AV.item x0 5) 6))), (.bool (decide (v4 > 0)))])]))
   (some [(.agg [(eta s27 (AV.item (AV.item x0 6) 3)), (eta s27 (AV.item (AV.item x0 6) 4)), (.int .i64 6), (.int .i64 (AV.toInt (AV.item (AV.item x0 6) 7))), (.bool (AV.toBool (AV.item (AV.item (AV.item x0 6) 6) 0)))])]) := by kernel_rfl

theorem eq136 (F123 : Fun) (n : Nat) (x0 : List Int) (x1 : List Int) : run136 F123 n x0 x1 =
  ((F123 n [(.fs .i64 x0)])).bind fun r0 =>
  brO (Nat.beq (List.length r0) 2)
   (brO ((AV.toInt (getE r0 1)) != 0)
    (some [(.fs .u8 []), (.int .i64 (AV.toInt (getE r0 1)))])
    (brO ((Int.ofNat (List.length x1)) != (Int.ofNat (List.length x0)))
     (some [(.fs .u8 []), (.int .i64 1)])
     (let v9 : Int := ((AV.toInt (getE r0 0)) * (Int.ofNat (Go.TypeInfo.bytes (GetElem.getElem (Go.Tables.types (Go.Program.toTables Go.Proofs.Tryz.prog)) 5 (Nat.le_of_ble_eq_true rfl)))))
     brO ((decide (0 ≤ (AV.toInt (getE r0 0)))) && (((AV.toInt (getE r0 0)) == (AV.toInt (getE r0 0))) && (decide (v9 ≤ 140737488355328))))
      (jn
       (iter (fun d1 k2 =>
        brO (decide ((AV.toInt (getE d1 5)) < (AV.toInt (getE d1 4))))
         (jn
          (brO (inR (AV.toInt (getE d1 5)) (List.length (AV.toInts (getE d1 3))))
           (brO (inR (AV.toInt (getE d1 5)) (List.length (AV.toInts (getE d1 0))))
            (jn
             (jn
              (let v10 : Int := (getI (AV.toInts (getE d1 0)) (Int.toNat (AV.toInt (getE d1 5))))
              brO (decide (v10 < 0))
               (inl (let v11 : Int := (getI (AV.toInts (getE d1 3)) (Int.toNat (AV.toInt (getE d1 5))))
               some [(.fs .i64 (AV.toInts (getE d1 0))), (.fs .u8 (AV.toInts (getE d1 1))), (.int .i64 (AV.toInt (getE d1 2))), (.int .i64 v11), (.int .i64 v10), (.fs .i64 (AV.toInts (getE d1 3))), (.int .i64 (AV.toInt (getE d1 4))), (.int .i64 (AV.toInt (getE d1 5))), (.bool true)]))
               (let v12 : Int := (getI (AV.toInts (getE d1 3)) (Int.toNat (AV.toInt (getE d1 5))))
               let v13 : Int := (IntKind.wrap .u64 v12)
               brO (decide (0 ≤ v13))
                (inl (some [(.fs .i64 (AV.toInts (getE d1 0))), (.fs .u8 (AV.toInts (getE d1 1))), (.int .i64 (AV.toInt (getE d1 2))), (.int .i64 v12), (.int .i64 v10), (.fs .i64 (AV.toInts (getE d1 3))), (.int .i64 (AV.toInt (getE d1 4))), (.int .i64 (AV.toInt (getE d1 5))), (.bool ((Int.fdiv v10 (2 ^ (Min.min (Int.toNat v13) 64))) != 0))]))
                (none))) fun d3 =>
             brO (AV.toBool (getE d3 8))
              (inr (inr (inr (some [(.fs .u8 []), (.int .i64 12)]))))
              (inl (some [(.fs .i64 (AV.toInts (getE d3 0))), (.fs .u8 (AV.toInts (getE d3 1))), (.int .i64 (AV.toInt (getE d3 2))), (.int .i64 (AV.toInt (getE d3 3))), (.int .i64 (AV.toInt (getE d3 4))), (.fs .i64 (AV.toInts (getE d3 5))), (.int .i64 (AV.toInt (getE d3 6))), (.int .i64 (AV.toInt (getE d3 7)))]))) fun d4 =>
            iter (fun d5 k6 =>
             brO (decide ((AV.toInt (getE d5 4)) ≥ 0))
              (let v14 : Int := (IntKind.wrap .i64 (Int.tdiv (AV.toInt (getE d5 2)) 8))
              let v15 : Bool := (inR v14 (List.length (AV.toInts (getE d5 1))))
              brO (v15)
               (brO (Nat.ble ((Int.toNat v14) + 1) (List.length (AV.toInts (getE d5 1))))
                (brO (decide (0 ≤ (IntKind.wrap .u64 (AV.toInt (getE d5 4)))))
                 (let v16 : Int := (IntKind.wrap .u64 (7 - (IntKind.wrap .u64 (Int.tmod (AV.toInt (getE d5 2)) 8))))
                 brO (decide (0 ≤ v16))
                  (brO (v15)
                   ((k6 [(.fs .i64 (AV.toInts (getE d5 0))), (.fs .u8 (List.set (AV.toInts (getE d5 1)) (Int.toNat v14) (IntKind.wrap .u8 (Int.ofNat (BitVec.toNat ((BitVec.ofInt 8 (getI (AV.toInts (getE d5 1)) (Int.toNat v14))) ||| (BitVec.ofInt 8 (IntKind.wrap .u8 ((IntKind.wrap .u8 (IntKind.wrap .i64 (Int.ofNat (BitVec.toNat ((BitVec.ofInt 64 (Int.fdiv (AV.toInt (getE d5 3)) (2 ^ (Min.min (Int.toNat (IntKind.wrap .u64 (AV.toInt (getE d5 4)))) 64)))) &&& (BitVec.ofInt 64 1)))))) * (2 ^ (Min.min (Int.toNat v16) 8))))))))))), (.int .i64 (IntKind.wrap .i64 ((AV.toInt (getE d5 2)) + 1))), (.int .i64 (AV.toInt (getE d5 3))), (.int .i64 (IntKind.wrap .i64 ((AV.toInt (getE d5 4)) - 1))), (.fs .i64 (AV.toInts (getE d5 5))), (.int .i64 (AV.toInt (getE d5 6))), (.int .i64 (AV.toInt (getE d5 7)))]))
                   (none))
                  (none))
                 (none))
                (none))
               (none))
              (inl (some [(.fs .i64 (AV.toInts (getE d5 0))), (.fs .u8 (AV.toInts (getE d5 1))), (.int .i64 (AV.toInt (getE d5 2))), (.fs .i64 (AV.toInts (getE d5 5))), (.int .i64 (AV.toInt (getE d5 6))), (.int .i64 (AV.toInt (getE d5 7)))]))) n [(.fs .i64 (AV.toInts (getE d4 0))), (.fs .u8 (AV.toInts (getE d4 1))), (.int .i64 (AV.toInt (getE d4 2))), (.int .i64 (AV.toInt (getE d4 4))), (.int .i64 (IntKind.wrap .i64 ((AV.toInt (getE d4 3)) - 1))), (.fs .i64 (AV.toInts (getE d4 5))), (.int .i64 (AV.toInt (getE d4 6))), (.int .i64 (AV.toInt (getE d4 7)))])
            (none))
           (none)) fun d7 =>
         (k2 [(.fs .i64 (AV.toInts (getE d7 0))), (.fs .u8 (AV.toInts (getE d7 1))), (.int .i64 (AV.toInt (getE d7 2))), (.fs .i64 (AV.toInts (getE d7 3))), (.int .i64 (AV.toInt (getE d7 4))), (.int .i64 (IntKind.wrap .i64 ((AV.toInt (getE d7 5)) + 1)))]))
         (inl (some [(.fs .u8 (AV.toInts (getE d1 1)))]))) n [(.fs .i64 x1), (.fs .u8 (List.replicate (Int.toNat (AV.toInt (getE r0 0))) 0)), (.int .i64 0), (.fs .i64 x0), (.int .i64 (Int.ofNat (List.length x0))), (.int .i64 0)]) fun d8 =>
      some [(.fs .u8 (AV.toInts (getE d8 0))), (.int .i64 0)])
      (none))))
   (none) := by kernel_rfl

theorem eq178 (n : Nat) (x0 : Int) : run178 n x0 =
  jn
   (iter (fun d0 k1 =>
    brO (decide ((AV.toInt (getE d0 0)) > 65535))
     ((k1 [(.int .i64 (IntKind.wrap .i64 ((IntKind.wrap .i64 (Int.ofNat (BitVec.toNat ((BitVec.ofInt 64 (AV.toInt (getE d0 0))) &&& (BitVec.ofInt 64 65535))))) + (Int.fdiv (AV.toInt (getE d0 0)) (Int.ofNat (2 ^ (Min.min (Int.toNat 16) (IntKind.bits .i64))))))))]))
     (inl (some [(.int .i64 (AV.toInt (getE d0 0)))]))) n [(.int .i64 x0)]) fun d2 =>
  some [(.int .i64 (AV.toInt (getE d2 0)))] := by kernel_rfl

theorem eq127 (F178 : Fun) (n : Nat) (x0 : List AV) : run127 F178 n x0 =
  jn
   (iter (fun d0 k1 =>
    brO (decide ((AV.toInt (getE d0 4)) < (AV.toInt (getE d0 3))))
     (jn
      (brO (inR (AV.toInt (getE d0 4)) (List.length (AV.toElems (getE d0 2))))
       (jn
        (let v10 : (List Int) := (AV.toInts (getE (AV.toElems (getE d0 2)) (Int.toNat (AV.toInt (getE d0 4)))))
        iter (fun d2 k3 =>
         brO (decide ((AV.toInt (getE d2 7)) < (AV.toInt (getE d2 6))))
          (jn
           (brO (inR (AV.toInt (getE d2 7)) (List.length (AV.toInts (getE d2 5))))
            (jn
             (brO (AV.toBool (getE d2 1))
              (inl (let v11 : Int := (IntKind.wrap .i64 (getI (AV.toInts (getE d2 5)) (Int.toNat (AV.toInt (getE d2 7)))))
              some [(.int .i64 (IntKind.wrap .i64 ((AV.toInt (getE d2 0)) + (IntKind.wrap .i64 (v11 * (Int.ofNat (2 ^ (Min.min (Int.toNat 8) (IntKind.bits .i64))))))))), (.bool (AV.toBool (getE d2 1))), (.fv (.fs .u8) (AV.toElems (getE d2 2))), (.int .i64 (AV.toInt (getE d2 3))), (.int .i64 (AV.toInt (getE d2 4))), (.fs .u8 (AV.toInts (getE d2 5))), (.int .i64 (AV.toInt (getE d2 6))), (.int .i64 (AV.toInt (getE d2 7)))]))
              (inl (let v12 : Int := (IntKind.wrap .i64 (getI (AV.toInts (getE d2 5)) (Int.toNat (AV.toInt (getE d2 7)))))
              some [(.int .i64 (IntKind.wrap .i64 ((AV.toInt (getE d2 0)) + v12))), (.bool (AV.toBool (getE d2 1))), (.fv (.fs .u8) (AV.toElems (getE d2 2))), (.int .i64 (AV.toInt (getE d2 3))), (.int .i64 (AV.toInt (getE d2 4))), (.fs .u8 (AV.toInts (getE d2 5))), (.int .i64 (AV.toInt (getE d2 6))), (.int .i64 (AV.toInt (getE d2 7)))]))) fun d4 =>
            inl (some [(.int .i64 (AV.toInt (getE d4 0))), (.bool (!(AV.toBool (getE d4 1)))), (.fv (.fs .u8) (AV.toElems (getE d4 2))), (.int .i64 (AV.toInt (getE d4 3))), (.int .i64 (AV.toInt (getE d4 4))), (.fs .u8 (AV.toInts (getE d4 5))), (.int .i64 (AV.toInt (getE d4 6))), (.int .i64 (AV.toInt (getE d4 7)))]))
            (none)) fun d5 =>
          (k3 [(.int .i64 (AV.toInt (getE d5 0))), (.bool (AV.toBool (getE d5 1))), (.fv (.fs .u8) (AV.toElems (getE d5 2))), (.int .i64 (AV.toInt (getE d5 3))), (.int .i64 (AV.toInt (getE d5 4))), (.fs .u8 (AV.toInts (getE d5 5))), (.int .i64 (AV.toInt (getE d5 6))), (.int .i64 (IntKind.wrap .i64 ((AV.toInt (getE d5 7)) + 1)))]))
          (inl (some [(.int .i64 (AV.toInt (getE d2 0))), (.bool (AV.toBool (getE d2 1))), (.fv (.fs .u8) (AV.toElems (getE d2 2))), (.int .i64 (AV.toInt (getE d2 3))), (.int .i64 (AV.toInt (getE d2 4)))]))) n [(.int .i64 (AV.toInt (getE d0 0))), (.bool (AV.toBool (getE d0 1))), (.fv (.fs .u8) (AV.toElems (getE d0 2))), (.int .i64 (AV.toInt (getE d0 3))), (.int .i64 (AV.toInt (getE d0 4))), (.fs .u8 v10), (.int .i64 (Int.ofNat (List.length v10))), (.int .i64 0)]) fun d6 =>
       ((F178 n [(.int .i64 (AV.toInt (getE d6 0)))])).bind fun r7 =>
       brO (Nat.beq (List.length r7) 1)
        (inl (some [(.int .i64 (AV.toInt (getE r7 0))), (.bool (AV.toBool (getE d6 1))), (.fv (.fs .u8) (AV.toElems (getE d6 2))), (.int .i64 (AV.toInt (getE d6 3))), (.int .i64 (AV.toInt (getE d6 4)))]))
        (none))
       (none)) fun d8 =>
     (k1 [(.int .i64 (AV.toInt (getE d8 0))), (.bool (AV.toBool (getE d8 1))), (.fv (.fs .u8) (AV.toElems (getE d8 2))), (.int .i64 (AV.toInt (getE d8 3))), (.int .i64 (IntKind.wrap .i64 ((AV.toInt (getE d8 4)) + 1)))]))
     (inl (some [(.int .i64 (AV.toInt (getE d0 0)))]))) n [(.int .i64 0), (.bool true), (.fv (.fs .u8) x0), (.int .i64 (Int.ofNat (List.length x0))), (.int .i64 0)]) fun d9 =>
  some [(.int .i64 (AV.toInt (getE d9 0)))] := by kernel_rfl

theorem eq17 (n : Nat) (x0 : Int) : run17 n x0 =
  some [(.int .i64 x0)] := by kernel_rfl

theorem eq125 (n : Nat) (x0 : List Int) (x1 : Int) (x2 : Int) : run125 n x0 x1 x2 =
  jn
   (jn
    (brO (decide (x1 < 0))
     (inl (some [(.fs .u8 x0), (.int .i64 x1), (.int .i64 x2), (.bool true)]))
     (brO (decide (x1 > (Int.ofNat (List.length x0))))
      (inl (some [(.fs .u8 x0), (.int .i64 x1), (.int .i64 x2), (.bool true)]))
      (inl (let v2 : Int := (IntKind.wrap .i64 ((Int.ofNat (List.length x0)) - x1))
      some [(.fs .u8 x0), (.int .i64 x1), (.int .i64 x2), (.bool (decide (x2 > v2)))])))) fun d0 =>
   brO (AV.toBool (getE d0 3))
    (inr (none))
    (inl (some [(.fs .u8 (AV.toInts (getE d0 0))), (.int .i64 (AV.toInt (getE d0 1))), (.int .i64 (AV.toInt (getE d0 2)))]))) fun d1 =>
  let v3 : Int := (IntKind.wrap .i64 ((AV.toInt (getE d1 1)) + (AV.toInt (getE d1 2))))
  brO ((decide (0 ≤ (AV.toInt (getE d1 1)))) && ((decide ((AV.toInt (getE d1 1)) ≤ v3)) && ((decide (v3 ≤ v3)) && (decide (v3 ≤ (Int.ofNat (List.length (AV.toInts (getE d1 0)))))))))
   (some [(.fs .u8 (List.take ((Int.toNat v3) - (Int.toNat (AV.toInt (getE d1 1)))) (List.drop (Int.toNat (AV.toInt (getE d1 1))) (AV.toInts (getE d1 0)))))])
   (none) := by kernel_rfl

theorem eq126 (n : Nat) (x0 : List Int) (x1 : Int) : run126 n x0 x1 =
  jn
   (jn
    (brO (decide (x1 < 0))
     (inl (some [(.fs .u8 x0), (.int .i64 x1), (.bool true)]))
     (inl (some [(.fs .u8 x0), (.int .i64 x1), (.bool (decide (x1 ≥ (Int.ofNat (List.length x0)))))]))) fun d0 =>
   brO (AV.toBool (getE d0 2))
    (inr (none))
    (inl (some [(.fs .u8 (AV.toInts (getE d0 0))), (.int .i64 (AV.toInt (getE d0 1)))]))) fun d1 =>
  brO (inR (AV.toInt (getE d1 1)) (List.length (AV.toInts (getE d1 0))))
   (some [(.int .u8 (getI (AV.toInts (getE d1 0)) (Int.toNat (AV.toInt (getE d1 1)))))])
   (none) := by kernel_rfl

theorem eq83 (F123 : Fun) (F125 : Fun) (F126 : Fun) (n : Nat) (x0 : List Int) (x1 : Int) (x2 : List Int) : run83 F123 F125 F126 n x0 x1 x2 =
  ((F123 n [(.fs .i64 x2)])).bind fun r0 =>
  brO (Nat.beq (List.length r0) 2)
   (brO ((AV.toInt (getE r0 1)) != 0)
    (some [(.fs .i64 []), (.int .i64 0), (.int .i64 (AV.toInt (getE r0 1)))])
    (let v10 : Int := (IntKind.wrap .i64 ((Int.ofNat (List.length x0)) - x1))
    brO ((decide (x1 < 0)) || ((decide (x1 > (Int.ofNat (List.length x0)))) || (decide ((AV.toInt (getE r0 0)) > v10))))
     (some [(.fs .i64 []), (.int .i64 0), (.int .i64 10)])
     (((F125 n [(.fs .u8 x0), (.int .i64 x1), (.int .i64 (AV.toInt (getE r0 0)))])).bind fun r1 =>
     brO (Nat.beq (List.length r1) 1)
      (jn
       (iter (fun d2 k3 =>
        brO (decide ((AV.toInt (getE d2 9)) < (AV.toInt (getE d2 8))))
         (jn
          (brO (inR (AV.toInt (getE d2 9)) (List.length (AV.toInts (getE d2 7))))
           (jn
            (iter (fun d4 k5 =>
             brO (decide ((AV.toInt (getE d4 12)) < (AV.toInt (getE d4 11))))
              (let v11 : Int := (IntKind.wrap .i64 (Int.tdiv (AV.toInt (getE d4 6)) 8))
              brO ((decide (v11 < 0)) || (decide (v11 ≥ (Int.ofNat (List.length (AV.toInts (getE d4 5)))))))
               (inr (inr (inr (some [(.fs .i64 []), (.int .i64 0), (.int .i64 10)]))))
               (((F126 n [(.fs .u8 (AV.toInts (getE d4 5))), (.int .i64 v11)])).bind fun r6 =>
               brO (Nat.beq (List.length r6) 1)
                (let v12 : Int := (IntKind.wrap .u64 (7 - (IntKind.wrap .u64 (Int.tmod (AV.toInt (getE d4 6)) 8))))
                brO (decide (0 ≤ v12))
                 ((k5 [(.int .i64 (AV.toInt (getE d4 0))), (.fs .i64 (AV.toInts (getE d4 1))), (.int .i64 (AV.toInt (getE d4 2))), (.int .i64 (AV.toInt (getE d4 3))), (.int .i64 (AV.toInt (getE d4 4))), (.fs .u8 (AV.toInts (getE d4 5))), (.int .i64 (IntKind.wrap .i64 ((AV.toInt (getE d4 6)) + 1))), (.int .i64 (IntKind.wrap .i64 (Int.ofNat (BitVec.toNat ((BitVec.ofInt 64 (IntKind.wrap .i64 ((AV.toInt (getE d4 7)) * (Int.ofNat (2 ^ (Min.min (Int.toNat 1) (IntKind.bits .i64))))))) ||| (BitVec.ofInt 64 (IntKind.wrap .i64 (IntKind.wrap .u8 (Int.ofNat (BitVec.toNat ((BitVec.ofInt 8 (Int.fdiv (AV.toInt (getE r6 0)) (2 ^ (Min.min (Int.toNat v12) 8)))) &&& (BitVec.ofInt 8 1)))))))))))), (.fs .i64 (AV.toInts (getE d4 8))), (.int .i64 (AV.toInt (getE d4 9))), (.int .i64 (AV.toInt (getE d4 10))), (.int .i64 (AV.toInt (getE d4 11))), (.int .i64 (IntKind.wrap .i64 ((AV.toInt (getE d4 12)) + 1)))]))
                 (none))
                (none)))
              (inl (some [(.int .i64 (AV.toInt (getE d4 0))), (.fs .i64 (AV.toInts (getE d4 1))), (.int .i64 (AV.toInt (getE d4 2))), (.int .i64 (AV.toInt (getE d4 3))), (.int .i64 (AV.toInt (getE d4 4))), (.fs .u8 (AV.toInts (getE d4 5))), (.int .i64 (AV.toInt (getE d4 6))), (.int .i64 (AV.toInt (getE d4 7))), (.fs .i64 (AV.toInts (getE d4 8))), (.int .i64 (AV.toInt (getE d4 9))), (.int .i64 (AV.toInt (getE d4 10)))]))) n [(.int .i64 (AV.toInt (getE d2 0))), (.fs .i64 (AV.toInts (getE d2 1))), (.int .i64 (AV.toInt (getE d2 2))), (.int .i64 (AV.toInt (getE d2 3))), (.int .i64 (AV.toInt (getE d2 4))), (.fs .u8 (AV.toInts (getE d2 5))), (.int .i64 (AV.toInt (getE d2 6))), (.int .i64 0), (.fs .i64 (AV.toInts (getE d2 7))), (.int .i64 (AV.toInt (getE d2 8))), (.int .i64 (AV.toInt (getE d2 9))), (.int .i64 (getI (AV.toInts (getE d2 7)) (Int.toNat (AV.toInt (getE d2 9))))), (.int .i64 0)]) fun d7 =>
           brO (Nat.ble (((List.length (AV.toInts (getE d7 1))) + 1) * 8) 140737488355328)
            (inl (some [(.int .i64 (AV.toInt (getE d7 0))), (.fs .i64 (HAppend.hAppend (AV.toInts (getE d7 1)) [(AV.toInt (getE d7 7))])), (.int .i64 (AV.toInt (getE d7 2))), (.int .i64 (AV.toInt (getE d7 3))), (.int .i64 (AV.toInt (getE d7 4))), (.fs .u8 (AV.toInts (getE d7 5))), (.int .i64 (AV.toInt (getE d7 6))), (.fs .i64 (AV.toInts (getE d7 8))), (.int .i64 (AV.toInt (getE d7 9))), (.int .i64 (AV.toInt (getE d7 10)))]))
            (none))
           (none)) fun d8 =>
         (k3 [(.int .i64 (AV.toInt (getE d8 0))), (.fs .i64 (AV.toInts (getE d8 1))), (.int .i64 (AV.toInt (getE d8 2))), (.int .i64 (AV.toInt (getE d8 3))), (.int .i64 (AV.toInt (getE d8 4))), (.fs .u8 (AV.toInts (getE d8 5))), (.int .i64 (AV.toInt (getE d8 6))), (.fs .i64 (AV.toInts (getE d8 7))), (.int .i64 (AV.toInt (getE d8 8))), (.int .i64 (IntKind.wrap .i64 ((AV.toInt (getE d8 9)) + 1)))]))
         (inl (some [(.int .i64 (AV.toInt (getE d2 0))), (.fs .i64 (AV.toInts (getE d2 1))), (.int .i64 (AV.toInt (getE d2 2))), (.int .i64 (AV.toInt (getE d2 3))), (.int .i64 (AV.toInt (getE d2 4)))]))) n [(.int .i64 x1), (.fs .i64 []), (.int .i64 0), (.int .i64 (AV.toInt (getE r0 1))), (.int .i64 (AV.toInt (getE r0 0))), (.fs .u8 (AV.toInts (getE r1 0))), (.int .i64 0), (.fs .i64 x2), (.int .i64 (Int.ofNat (List.length x2))), (.int .i64 0)]) fun d9 =>
      some [(.fs .i64 (AV.toInts (getE d9 1))), (.int .i64 (IntKind.wrap .i64 ((AV.toInt (getE d9 0)) + (AV.toInt (getE d9 4))))), (.int .i64 0)])
      (none))))
   (none) := by kernel_rfl

theorem eq122 (F126 : Fun) (n : Nat) (x0 : List Int) (x1 : Int) (x2 : Int) : run122 F126 n x0 x1 x2 =
  jn
   (jn
    (brO (decide (x1 < 0))
     (inl (some [(.fs .u8 x0), (.int .i64 x1), (.int .i64 x2), (.bool true)]))
     (inl (some [(.fs .u8 x0), (.int .i64 x1), (.int .i64 x2), (.bool (decide (x1 > (Int.ofNat (List.length x0)))))]))) fun d0 =>
   brO (AV.toBool (getE d0 3))
    (inr (none))
    (inl (some [(.fs .u8 (AV.toInts (getE d0 0))), (.int .i64 (AV.toInt (getE d0 1))), (.int .i64 (AV.toInt (getE d0 2)))]))) fun d1 =>
  jn
   (iter (fun d2 k3 =>
    brO (decide ((AV.toInt (getE d2 4)) < (AV.toInt (getE d2 3))))
     (let v6 : Int := (IntKind.wrap .i64 ((AV.toInt (getE d2 1)) + (AV.toInt (getE d2 4))))
     brO ((decide (v6 < 0)) || (decide (v6 ≥ (Int.ofNat (List.length (AV.toInts (getE d2 0)))))))
      (inr (none))
      (((F126 n [(.fs .u8 (AV.toInts (getE d2 0))), (.int .i64 v6)])).bind fun r4 =>
      brO (Nat.beq (List.length r4) 1)
       ((k3 [(.fs .u8 (AV.toInts (getE d2 0))), (.int .i64 (AV.toInt (getE d2 1))), (.int .u64 (IntKind.wrap .u64 (Int.ofNat (BitVec.toNat ((BitVec.ofInt 64 (IntKind.wrap .u64 ((AV.toInt (getE d2 2)) * (Int.ofNat (2 ^ (Min.min (Int.toNat 8) (IntKind.bits .u64))))))) ||| (BitVec.ofInt 64 (IntKind.wrap .u64 (AV.toInt (getE r4 0))))))))), (.int .i64 (AV.toInt (getE d2 3))), (.int .i64 (IntKind.wrap .i64 ((AV.toInt (getE d2 4)) + 1)))]))
       (none)))
     (inl (some [(.int .u64 (AV.toInt (getE d2 2)))]))) n [(.fs .u8 (AV.toInts (getE d1 0))), (.int .i64 (AV.toInt (getE d1 1))), (.int .u64 0), (.int .i64 (AV.toInt (getE d1 2))), (.int .i64 0)]) fun d5 =>
  some [(.int .u64 (AV.toInt (getE d5 0)))] := by kernel_rfl

theorem eq80 (F120 : Fun) (F122 : Fun) (n : Nat) (x0 : List Int) (x1 : Int) (x2 : Int) : run80 F120 F122 n x0 x1 x2 =
  ((F120 n [(.int .i64 x2)])).bind fun r0 =>
  brO (Nat.beq (List.length r0) 1)
   (brO (!(AV.toBool (getE r0 0)))
    (some [(.int .u64 0), (.int .i64 1)])
    (brO ((decide ((List.length x0) ≤ 140737488355328)) && ((decide (x1 < 0)) || ((decide (x1 > (Int.ofNat (List.length x0)))) || ((decide (0 < x2)) && ((decide (x2 ≤ 8)) && (decide ((x1 + x2) > (Int.ofNat (List.length x0)))))))))
     (some [(.int .u64 0), (.int .i64 10)])
     (((F122 n [(.fs .u8 x0), (.int .i64 x1), (.int .i64 x2)])).bind fun r1 =>
     brO (Nat.beq (List.length r1) 1)
      (some [(.int .u64 (AV.toInt (getE r1 0))), (.int .i64 0)])
      (none))))
   (none) := by kernel_rfl

theorem eq16 (F13 : Fun) (F15 : Fun) (F17 : Fun) (F18 : Fun) (F23 : Fun) (F30 : Fun) (F44 : Fun) (F45 : Fun) (n : Nat) (m1 : List AV) : run16 F13 F15 F17 F18 F23 F30 F44 F45 n m1 =
  ((F44 n [])).bind fun r0 =>
  brO (Nat.beq (List.length r0) 1)
   (((F23 n [(.fs .u8 (AV.toInts (getE r0 0))), (.tup m1)])).bind fun r1 =>
   brO (Nat.beq (List.length r1) 3)
    (((F30 n [])).bind fun r2 =>
    brO (Nat.beq (List.length r2) 1)
     (((F13 n [(eta s46 (getE r2 0))])).bind fun r3 =>
     brO (Nat.beq (List.length r3) 2)
      (((F17 n [(.int .i64 (AV.toInt (getE r1 1)))])).bind fun r4 =>
      brO (Nat.beq (List.length r4) 1)
       (brO ((AV.toInt (getE r4 0)) == 0)
        (((F30 n [])).bind fun r5 =>
        brO (Nat.beq (List.length r5) 1)
         (((F15 n [(eta s46 (getE r1 0)), (eta s46 (getE r5 0))])).bind fun r6 =>
         brO (Nat.beq (List.length r6) 1)
          (brO (AV.toBool (getE r6 0))
           (((F17 n [(.int .i64 (AV.toInt (getE r3 1)))])).bind fun r7 =>
           brO (Nat.beq (List.length r7) 1)
            (brO ((AV.toInt (getE r7 0)) == 0)
             (((F44 n [])).bind fun r8 =>
             brO (Nat.beq (List.length r8) 1)
              (((F18 n [(.fs .u8 (AV.toInts (getE r3 0))), (.fs .u8 (AV.toInts (getE r8 0)))])).bind fun r9 =>
              brO (Nat.beq (List.length r9) 1)
               (brO (AV.toBool (getE r9 0))
                (((F45 n [])).bind fun r10 =>
                brO (Nat.beq (List.length r10) 1)
                 (some [(.bool (AV.toBool (getE r10 0))), (.tup (AV.toElems (getE r1 2)))])
                 (none))
                (some [(.bool false), (.tup (AV.toElems (getE r1 2)))]))
               (none))
              (none))
             (some [(.bool false), (.tup (AV.toElems (getE r1 2)))]))
            (none))
           (some [(.bool false), (.tup (AV.toElems (getE r1 2)))]))
          (none))
         (none))
        (some [(.bool false), (.tup (AV.toElems (getE r1 2)))]))
       (none))
      (none))
     (none))
    (none))
   (none) := by kernel_rfl

theorem eq61 (n : Nat) (x0 : AV) (x1 : Int) (x2 : Int) : run61 n x0 x1 x2 =
  jn
   (brO ((AV.toInt (AV.item x0 2)) != 0)
    (inl (some []))
    (brO ((AV.toInt (AV.item x0 1)) == x1)
     (inr (some [(.int .i64 (IntKind.wrap .i64 (Int.ofNat (BitVec.toNat ((BitVec.ofInt 64 (Int.fdiv (AV.toInt (AV.item x0 3)) (Int.ofNat (2 ^ (Min.min (Int.toNat 16) (IntKind.bits .i64)))))) &&& (BitVec.ofInt 64 65535)))))), (.int .i64 0), (.bool true)]))
     (brO ((AV.toInt (AV.item x0 1)) == x2)
      (inr (some [(.int .i64 0), (.int .i64 (IntKind.wrap .i64 (Int.ofNat (BitVec.toNat ((BitVec.ofInt 64 (Int.fdiv (AV.toInt (AV.item x0 3)) (Int.ofNat (2 ^ (Min.min (Int.toNat 16) (IntKind.bits .i64)))))) &&& (BitVec.ofInt 64 65535)))))), (.bool true)]))
      (inl (some []))))) fun d0 =>
  some [(.int .i64 0), (.int .i64 0), (.bool false)] := by kernel_rfl

theorem eq27 (F55 : Fun) (F61 : Fun) (n : Nat) (x0 : AV) : run27 F55 F61 n x0 =
  jn
   (jn
    (brO ((AV.toInt (AV.item x0 3)) != 2)
     (inl (let v6 : AV := (.agg [(.int .i64 0), (.arr .u8 16 [0, 0, 0, 0, 0, 0, 0, 0, 0, 0, 0, 0, 0, 0, 0, 0])])
     let v7 : AV := (.agg [(.int .i64 0), v6, v6, (.int .i64 0), (.int .i64 0)])
     some [(eta s46 x0), v7, (.bool ((AV.toInt (AV.item x0 3)) != 3))]))
     (inl (let v8 : AV := (.agg [(.int .i64 0), (.arr .u8 16 [0, 0, 0, 0, 0, 0, 0, 0, 0, 0, 0, 0, 0, 0, 0, 0])])
     let v9 : AV := (.agg [(.int .i64 0), v8, v8, (.int .i64 0), (.int .i64 0)])
     some [(eta s46 x0), v9, (.bool false)]))) fun d0 =>
   brO (AV.toBool (getE d0 2))
    (inr (let v10 : AV := (.agg [(.int .i64 0), (.arr .u8 16 [0, 0, 0, 0, 0, 0, 0, 0, 0, 0, 0, 0, 0, 0, 0, 0])])
    let v11 : AV := (.agg [(.int .i64 0), v10, v10, (.int .i64 0), (.int .i64 0)])
    some [v11, (.bool false)]))
    (inl (some [(eta s46 (getE d0 0)), (eta s66 (getE d0 1))]))) fun d1 =>
  ((F55 n [(eta s46 (getE d1 0))])).bind fun r2 =>
  brO (Nat.beq (List.length r2) 1)
   (jn
    (let v12 : Int := (AV.toInt (AV.item (getE d1 0) 7))
    brO (v12 == 3)
     (inl (let v13 : AV := (eta s27 (AV.item (getE r2 0) 0))
     let v14 : AV := (eta s27 (AV.item (getE r2 0) 1))
     let v15 : AV := (AV.item (getE d1 0) 10)
     some [(eta s66 (getE d1 1)), (.agg [(.int .i64 6), v13, v14, (.int .i64 (AV.toInt (AV.item v15 0))), (.int .i64 (AV.toInt (AV.item v15 1)))]), (.bool true)]))
     (brO (v12 == 2)
      (inl (let v16 : AV := (eta s27 (AV.item (getE r2 0) 0))
      let v17 : AV := (eta s27 (AV.item (getE r2 0) 1))
      let v18 : AV := (AV.item (getE d1 0) 9)
      some [(eta s66 (getE d1 1)), (.agg [(.int .i64 17), v16, v17, (.int .i64 (AV.toInt (AV.item v18 0))), (.int .i64 (AV.toInt (AV.item v18 1)))]), (.bool true)]))
      (brO (v12 == 1)
       (jn
        (brO ((AV.toInt (AV.item (getE r2 0) 2)) == 6)
         (inl (let v19 : AV := (eta s27 (AV.item (getE r2 0) 0))
         let v20 : AV := (eta s27 (AV.item (getE r2 0) 1))
         some [(eta s46 (getE d1 0)), (eta s66 (getE d1 1)), (.agg [(.int .i64 58), v19, v20, (.int .i64 0), (.int .i64 0)]), (.int .i64 128), (.int .i64 129)]))
         (inl (let v21 : AV := (eta s27 (AV.item (getE r2 0) 0))
         let v22 : AV := (eta s27 (AV.item (getE r2 0) 1))
         some [(eta s46 (getE d1 0)), (eta s66 (getE d1 1)), (.agg [(.int .i64 1), v21, v22, (.int .i64 0), (.int .i64 0)]), (.int .i64 8), (.int .i64 0)]))) fun d3 =>
       ((F61 n [(eta s40 (AV.item (getE d3 0) 8)), (.int .i64 (AV.toInt (getE d3 3))), (.int .i64 (AV.toInt (getE d3 4)))])).bind fun r4 =>
       brO (Nat.beq (List.length r4) 3)
        (inl (some [(eta s66 (getE d3 1)), (.agg [(.int .i64 (AV.toInt (AV.item (getE d3 2) 0))), (eta s27 (AV.item (getE d3 2) 1)), (eta s27 (AV.item (getE d3 2) 2)), (.int .i64 (AV.toInt (getE r4 0))), (.int .i64 (AV.toInt (getE r4 1)))]), (.bool (AV.toBool (getE r4 2)))]))
        (none))
       (inl (let v23 : AV := (eta s27 (AV.item (getE r2 0) 0))
       let v24 : AV := (eta s27 (AV.item (getE r2 0) 1))
       some [(eta s66 (getE d1 1)), (.agg [(.int .i64 0), v23, v24, (.int .i64 0), (.int .i64 0)]), (.bool false)]))))) fun d5 =>
   brO (!(AV.toBool (getE d5 2)))
    (let v25 : AV := (.agg [(.int .i64 0), (.arr .u8 16 [0, 0, 0, 0, 0, 0, 0, 0, 0, 0, 0, 0, 0, 0, 0, 0])])
    let v26 : AV := (.agg [(.int .i64 0), v25, v25, (.int .i64 0), (.int .i64 0)])
    some [v26, (.bool false)])
    (some [(eta s66 (getE d5 1)), (.bool true)]))
   (none) := by kernel_rfl

theorem eq28 (n : Nat) (x0 : AV) : run28 n x0 =
  jn
   (jn
    (brO ((AV.toInt (AV.item x0 3)) == 2)
     (inl (let v5 : AV := (.arr .u8 6 [0, 0, 0, 0, 0, 0])
     let v6 : AV := (.agg [(.int .i64 0), (.arr .u8 16 [0, 0, 0, 0, 0, 0, 0, 0, 0, 0, 0, 0, 0, 0, 0, 0])])
     let v7 : AV := (.agg [v5, v5, (.fv s79 []), (.int .i64 0), (.agg [(.int .i64 0), v5, v6, v5, v6]), (.agg [(.int .i64 0), (.int .i64 0), (.bool false), (.bool false), (.int .i64 0), (.int .i64 0), (.int .i64 0), v6, v6, (.fv s93 []), (.fs .u8 [])]), (.agg [(.int .i64 0), (.int .i64 0), (.int .i64 0), v6, v6, (.fv s124 []), (.agg [(.bool false), (.bool false), (.int .i64 0), (.int .i64 0)]), (.int .i64 0), (.fs .u8 [])]), (.int .i64 0), (.agg [(.int .i64 0), (.int .i64 0), (.int .i64 0), (.int .i64 0), (.fs .u8 [])]), (.agg [(.int .i64 0), (.int .i64 0), (.bool false), (.fs .u8 [])]), (.agg [(.int .i64 0), (.int .i64 0), (.int .i64 0), (.int .i64 0), (.int .i64 0), (.int .i64 0), (.int .i64 0), (.fv s93 []), (.fs .u8 [])])])
     let v8 : AV := (.agg [(.arr .u8 6 (AV.toInts (AV.item x0 0))), (.arr .u8 6 (AV.toInts (AV.item x0 1))), (.fv s79 (AV.toElems (AV.item x0 2))), (.int .i64 (AV.toInt (AV.item x0 3))), (eta s29 (AV.item x0 4)), (.agg [(.int .i64 (AV.toInt (AV.item (AV.item x0 5) 0))), (.int .i64 (AV.toInt (AV.item (AV.item x0 5) 1))), (.bool (AV.toBool (AV.item (AV.item x0 5) 2))), (.bool (AV.toBool (AV.item (AV.item x0 5) 3))), (.int .i64 (AV.toInt (AV.item (AV.item x0 5) 4))), (.int .i64 (AV.toInt (AV.item (AV.item x0 5) 5))), (.int .i64 (AV.toInt (AV.item (AV.item x0 5) 6))), (eta s27 (AV.item (AV.item x0 5) 8)), (eta s27 (AV.item (AV.item x0 5) 7)), (.fv s93 (AV.toElems (AV.item (AV.item x0 5) 9))), (.fs .u8 (AV.toInts (AV.item (AV.item x0 5) 10)))]), (.agg [(.int .i64 (AV.toInt (AV.item (AV.item x0 6) 0))), (.int .i64 (AV.toInt (AV.item (AV.item x0 6) 1))), (.int .i64 (AV.toInt (AV.item (AV.item x0 6) 2))), (eta s27 (AV.item (AV.item x0 6) 4)), (eta s27 (AV.item (AV.item x0 6) 3)), (.fv s124 (AV.toElems (AV.item (AV.item x0 6) 5))), (eta s36 (AV.item (AV.item x0 6) 6)), (.int .i64 (AV.toInt (AV.item (AV.item x0 6) 7))), (.fs .u8 (AV.toInts (AV.item (AV.item x0 6) 8)))]), (.int .i64 (AV.toInt (AV.item x0 7))), (eta s40 (AV.item x0 8)), (.agg [(.int .i64 (AV.toInt (AV.item (AV.item x0 9) 1))), (.int .i64 (AV.toInt (AV.item (AV.item x0 9) 0))), (.bool (AV.toBool (AV.item (AV.item x0 9) 2))), (.fs .u8 (AV.toInts (AV.item (AV.item x0 9) 3)))]), (.agg [(.int .i64 (AV.toInt (AV.item (AV.item x0 10) 1))), (.int .i64 (AV.toInt (AV.item (AV.item x0 10) 0))), (.int .i64 (AV.toInt (AV.item (AV.item x0 10) 2))), (.int .i64 (AV.toInt (AV.item (AV.item x0 10) 3))), (.int .i64 (AV.toInt (AV.item (AV.item x0 10) 4))), (.int .i64 (AV.toInt (AV.item (AV.item x0 10) 5))), (.int .i64 (AV.toInt (AV.item (AV.item x0 10) 6))), (.fv s93 (AV.toElems (AV.item (AV.item x0 10) 7))), (.fs .u8 (AV.toInts (AV.item (AV.item x0 10) 8)))])])
     some [(eta s46 x0), v7, v8, (.bool ((AV.toInt (AV.item (AV.item x0 8) 1)) == 8))]))
     (inl (let v9 : AV := (.arr .u8 6 [0, 0, 0, 0, 0, 0])
     let v10 : AV := (.agg [(.int .i64 0), (.arr .u8 16 [0, 0, 0, 0, 0, 0, 0, 0, 0, 0, 0, 0, 0, 0, 0, 0])])
     let v11 : AV := (.agg [v9, v9, (.fv s79 []), (.int .i64 0), (.agg [(.int .i64 0), v9, v10, v9, v10]), (.agg [(.int .i64 0), (.int .i64 0), (.bool false), (.bool false), (.int .i64 0), (.int .i64 0), (.int .i64 0), v10, v10, (.fv s93 []), (.fs .u8 [])]), (.agg [(.int .i64 0), (.int .i64 0), (.int .i64 0), v10, v10, (.fv s124 []), (.agg [(.bool false), (.bool false), (.int .i64 0), (.int .i64 0)]), (.int .i64 0), (.fs .u8 [])]), (.int .i64 0), (.agg [(.int .i64 0), (.int .i64 0), (.int .i64 0), (.int .i64 0), (.fs .u8 [])]), (.agg [(.int .i64 0), (.int .i64 0), (.bool false), (.fs .u8 [])]), (.agg [(.int .i64 0), (.int .i64 0), (.int .i64 0), (.int .i64 0), (.int .i64 0), (.int .i64 0), (.int .i64 0), (.fv s93 []), (.fs .u8 [])])])
     let v12 : AV := (.agg [(.arr .u8 6 (AV.toInts (AV.item x0 0))), (.arr .u8 6 (AV.toInts (AV.item x0 1))), (.fv s79 (AV.toElems (AV.item x0 2))), (.int .i64 (AV.toInt (AV.item x0 3))), (eta s29 (AV.item x0 4)), (.agg [(.int .i64 (AV.toInt (AV.item (AV.item x0 5) 0))), (.int .i64 (AV.toInt (AV.item (AV.item x0 5) 1))), (.bool (AV.toBool (AV.item (AV.item x0 5) 2))), (.bool (AV.toBool (AV.item (AV.item x0 5) 3))), (.int .i64 (AV.toInt (AV.item (AV.item x0 5) 4))), (.int .i64 (AV.toInt (AV.item (AV.item x0 5) 5))), (.int .i64 (AV.toInt (AV.item (AV.item x0 5) 6))), (eta s27 (AV.item (AV.item x0 5) 8)), (eta s27 (AV.item (AV.item x0 5) 7)), (.fv s93 (AV.toElems (AV.item (AV.item x0 5) 9))), (.fs .u8 (AV.toInts (AV.item (AV.item x0 5) 10)))]), (.agg [(.int .i64 (AV.toInt (AV.item (AV.item x0 6) 0))), (.int .i64 (AV.toInt (AV.item (AV.item x0 6) 1))), (.int .i64 (AV.toInt (AV.item (AV.item x0 6) 2))), (eta s27 (AV.item (AV.item x0 6) 4)), (eta s27 (AV.item (AV.item x0 6) 3)), (.fv s124 (AV.toElems (AV.item (AV.item x0 6) 5))), (eta s36 (AV.item (AV.item x0 6) 6)), (.int .i64 (AV.toInt (AV.item (AV.item x0 6) 7))), (.fs .u8 (AV.toInts (AV.item (AV.item x0 6) 8)))]), (.int .i64 (AV.toInt (AV.item x0 7))), (eta s40 (AV.item x0 8)), (.agg [(.int .i64 (AV.toInt (AV.item (AV.item x0 9) 1))), (.int .i64 (AV.toInt (AV.item (AV.item x0 9) 0))), (.bool (AV.toBool (AV.item (AV.item x0 9) 2))), (.fs .u8 (AV.toInts (AV.item (AV.item x0 9) 3)))]), (.agg [(.int .i64 (AV.toInt (AV.item (AV.item x0 10) 1))), (.int .i64 (AV.toInt (AV.item (AV.item x0 10) 0))), (.int .i64 (AV.toInt (AV.item (AV.item x0 10) 2))), (.int .i64 (AV.toInt (AV.item (AV.item x0 10) 3))), (.int .i64 (AV.toInt (AV.item (AV.item x0 10) 4))), (.int .i64 (AV.toInt (AV.item (AV.item x0 10) 5))), (.int .i64 (AV.toInt (AV.item (AV.item x0 10) 6))), (.fv s93 (AV.toElems (AV.item (AV.item x0 10) 7))), (.fs .u8 (AV.toInts (AV.item (AV.item x0 10) 8)))])])
     some [(eta s46 x0), v11, v12, (.bool false)]))) fun d0 =>
   brO (AV.toBool (getE d0 3))
    (inl (let v13 : AV := (AV.item (getE d0 2) 8)
    some [(eta s46 (getE d0 1)), (.agg [(.arr .u8 6 (AV.toInts (AV.item (getE d0 2) 0))), (.arr .u8 6 (AV.toInts (AV.item (getE d0 2) 1))), (.fv s79 (AV.toElems (AV.item (getE d0 2) 2))), (.int .i64 (AV.toInt (AV.item (getE d0 2) 3))), (eta s29 (AV.item (getE d0 2) 4)), (eta s33 (AV.item (getE d0 2) 5)), (eta s38 (AV.item (getE d0 2) 6)), (.int .i64 (AV.toInt (AV.item (getE d0 2) 7))), (.agg [(.int .i64 (AV.toInt (AV.item v13 0))), (.int .i64 0), (.int .i64 (AV.toInt (AV.item v13 2))), (.int .i64 (AV.toInt (AV.item v13 3))), (.fs .u8 (AV.toInts (AV.item v13 4)))]), (eta s42 (AV.item (getE d0 2) 9)), (eta s44 (AV.item (getE d0 2) 10))])]))
    (jn
     (brO ((AV.toInt (AV.item (getE d0 0) 3)) == 2)
      (inl (some [(eta s46 (getE d0 0)), (eta s46 (getE d0 1)), (eta s46 (getE d0 2)), (.bool ((AV.toInt (AV.item (AV.item (getE d0 0) 8) 1)) == 0))]))
      (inl (some [(eta s46 (getE d0 0)), (eta s46 (getE d0 1)), (eta s46 (getE d0 2)), (.bool false)]))) fun d1 =>
    brO (AV.toBool (getE d1 3))
     (inl (let v14 : AV := (AV.item (getE d1 2) 8)
     some [(eta s46 (getE d1 1)), (.agg [(.arr .u8 6 (AV.toInts (AV.item (getE d1 2) 0))), (.arr .u8 6 (AV.toInts (AV.item (getE d1 2) 1))), (.fv s79 (AV.toElems (AV.item (getE d1 2) 2))), (.int .i64 (AV.toInt (AV.item (getE d1 2) 3))), (eta s29 (AV.item (getE d1 2) 4)), (eta s33 (AV.item (getE d1 2) 5)), (eta s38 (AV.item (getE d1 2) 6)), (.int .i64 (AV.toInt (AV.item (getE d1 2) 7))), (.agg [(.int .i64 (AV.toInt (AV.item v14 0))), (.int .i64 8), (.int .i64 (AV.toInt (AV.item v14 2))), (.int .i64 (AV.toInt (AV.item v14 3))), (.fs .u8 (AV.toInts (AV.item v14 4)))]), (eta s42 (AV.item (getE d1 2) 9)), (eta s44 (AV.item (getE d1 2) 10))])]))
     (jn
      (brO ((AV.toInt (AV.item (getE d1 0) 3)) == 3)
       (inl (some [(eta s46 (getE d1 0)), (eta s46 (getE d1 1)), (eta s46 (getE d1 2)), (.bool ((AV.toInt (AV.item (AV.item (getE d1 0) 8) 1)) == 128))]))
       (inl (some [(eta s46 (getE d1 0)), (eta s46 (getE d1 1)), (eta s46 (getE d1 2)), (.bool false)]))) fun d2 =>
     brO (AV.toBool (getE d2 3))
      (inl (let v15 : AV := (AV.item (getE d2 2) 8)
      some [(eta s46 (getE d2 1)), (.agg [(.arr .u8 6 (AV.toInts (AV.item (getE d2 2) 0))), (.arr .u8 6 (AV.toInts (AV.item (getE d2 2) 1))), (.fv s79 (AV.toElems (AV.item (getE d2 2) 2))), (.int .i64 (AV.toInt (AV.item (getE d2 2) 3))), (eta s29 (AV.item (getE d2 2) 4)), (eta s33 (AV.item (getE d2 2) 5)), (eta s38 (AV.item (getE d2 2) 6)), (.int .i64 (AV.toInt (AV.item (getE d2 2) 7))), (.agg [(.int .i64 (AV.toInt (AV.item v15 0))), (.int .i64 129), (.int .i64 (AV.toInt (AV.item v15 2))), (.int .i64 (AV.toInt (AV.item v15 3))), (.fs .u8 (AV.toInts (AV.item v15 4)))]), (eta s42 (AV.item (getE d2 2) 9)), (eta s44 (AV.item (getE d2 2) 10))])]))
      (jn
       (brO ((AV.toInt (AV.item (getE d2 0) 3)) == 3)
        (inl (some [(eta s46 (getE d2 1)), (eta s46 (getE d2 2)), (.bool ((AV.toInt (AV.item (AV.item (getE d2 0) 8) 1)) == 129))]))
        (inl (some [(eta s46 (getE d2 1)), (eta s46 (getE d2 2)), (.bool false)]))) fun d3 =>
      brO (AV.toBool (getE d3 2))
       (inl (let v16 : AV := (AV.item (getE d3 1) 8)
       some [(eta s46 (getE d3 0)), (.agg [(.arr .u8 6 (AV.toInts (AV.item (getE d3 1) 0))), (.arr .u8 6 (AV.toInts (AV.item (getE d3 1) 1))), (.fv s79 (AV.toElems (AV.item (getE d3 1) 2))), (.int .i64 (AV.toInt (AV.item (getE d3 1) 3))), (eta s29 (AV.item (getE d3 1) 4)), (eta s33 (AV.item (getE d3 1) 5)), (eta s38 (AV.item (getE d3 1) 6)), (.int .i64 (AV.toInt (AV.item (getE d3 1) 7))), (.agg [(.int .i64 (AV.toInt (AV.item v16 0))), (.int .i64 128), (.int .i64 (AV.toInt (AV.item v16 2))), (.int .i64 (AV.toInt (AV.item v16 3))), (.fs .u8 (AV.toInts (AV.item v16 4)))]), (eta s42 (AV.item (getE d3 1) 9)), (eta s44 (AV.item (getE d3 1) 10))])]))
       (inl (some [(eta s46 (getE d3 0)), (eta s46 (getE d3 1))])))))) fun d4 =>
  some [(eta s46 (getE d4 1))] := by kernel_rfl

theorem eq29 (n : Nat) (x0 : AV) : run29 n x0 =
  some [(.agg [(.int .i64 (AV.toInt (AV.item x0 0))), (eta s27 (AV.item x0 2)), (eta s27 (AV.item x0 1)), (.int .i64 (AV.toInt (AV.item x0 4))), (.int .i64 (AV.toInt (AV.item x0 3)))])] := by kernel_rfl

theorem eq8 (F16 : Fun) (F27 : Fun) (F28 : Fun) (F29 : Fun) (F30 : Fun) (n : Nat) (x0 : AV) (x1 : AV) : run8 F16 F27 F28 F29 F30 n x0 x1 =
  ((F27 n [(eta s46 x0)])).bind fun r0 =>
  brO (Nat.beq (List.length r0) 2)
   (((F28 n [(eta s46 x0)])).bind fun r1 =>
   brO (Nat.beq (List.length r1) 1)
    (((F27 n [(eta s46 (getE r1 0))])).bind fun r2 =>
    brO (Nat.beq (List.length r2) 2)
     (jn
      (jn
       (brO (!((AV.toBool (getE r0 1)) == (AV.toBool (getE r2 1))))
        (inl (some [(.tup []), (eta s46 x0), (eta s66 (getE r0 0)), (.bool (AV.toBool (getE r0 1))), (.bool true)]))
        (((F29 n [(eta s66 (getE r0 0))])).bind fun r3 =>
        brO (Nat.beq (List.length r3) 1)
         (brO (!(keq (eta s66 (getE r2 0)) (eta s66 (getE r3 0))))
          (inl (some [(.tup []), (eta s46 x0), (eta s66 (getE r0 0)), (.bool (AV.toBool (getE r0 1))), (.bool true)]))
          (((F29 n [(eta s66 x1)])).bind fun r4 =>
          brO (Nat.beq (List.length r4) 1)
           (((F29 n [(eta s66 (getE r4 0))])).bind fun r5 =>
           brO (Nat.beq (List.length r5) 1)
            (inl (some [(.tup []), (eta s46 x0), (eta s66 (getE r0 0)), (.bool (AV.toBool (getE r0 1))), (.bool (!(keq (eta s66 (getE r5 0)) (eta s66 x1))))]))
            (none))
           (none)))
         (none))) fun d6 =>
      brO (AV.toBool (getE d6 4))
       (inr (some [(.bool false)]))
       (inl (some [(.tup (AV.toElems (getE d6 0))), (eta s46 (getE d6 1)), (eta s66 (getE d6 2)), (.bool (AV.toBool (getE d6 3)))]))) fun d7 =>
     jn
      (jn
       (brO ((AV.toInt (AV.item (getE d7 1) 7)) == 0)
        (inl (some [(.tup (AV.toElems (getE d7 0))), (eta s66 (getE d7 2)), (.bool (AV.toBool (getE d7 3))), (.bool (AV.toBool (getE d7 3)))]))
        (inl (some [(.tup (AV.toElems (getE d7 0))), (eta s66 (getE d7 2)), (.bool (AV.toBool (getE d7 3))), (.bool false)]))) fun d8 =>
      brO (AV.toBool (getE d8 3))
       (inr (some [(.bool false)]))
       (inl (some [(.tup (AV.toElems (getE d8 0))), (eta s66 (getE d8 1)), (.bool (AV.toBool (getE d8 2)))]))) fun d9 =>
     ((F30 n [])).bind fun r10 =>
     brO (Nat.beq (List.length r10) 1)
      (((F27 n [(eta s46 (getE r10 0))])).bind fun r11 =>
      brO (Nat.beq (List.length r11) 2)
       (((F16 n [(.tup (AV.toElems (getE d9 0)))])).bind fun r12 =>
       brO (Nat.beq (List.length r12) 2)
        (brO (AV.toBool (getE r12 0))
         (brO (AV.toBool (getE r11 1))
          (brO ((AV.toInt (AV.item (getE r11 0) 0)) == 1)
           (brO ((AV.toInt (AV.item (getE r11 0) 3)) == 1)
            (brO ((AV.toInt (AV.item (getE r11 0) 4)) == 0)
             (brO (AV.toBool (getE d9 2))
              (some [(.bool true)])
              (let v13 : AV := (.agg [(.int .i64 0), (.arr .u8 16 [0, 0, 0, 0, 0, 0, 0, 0, 0, 0, 0, 0, 0, 0, 0, 0])])
              some [(.bool (keq (eta s66 (getE d9 1)) (.agg [(.int .i64 0), v13, v13, (.int .i64 0), (.int .i64 0)])))]))
             (some [(.bool false)]))
            (some [(.bool false)]))
           (some [(.bool false)]))
          (some [(.bool false)]))
         (some [(.bool false)]))
        (none))
       (none))
      (none))
     (none))
    (none))
   (none) := by kernel_rfl
end Go.Proofs.YtlmnjnhmhacgkaaGreatDoor.Am
end
