/-
  The functions as pure equations. Printed by a program (wip/tool/T3.lean, pr.sh).
-/
import Derived.Test.YtldnpibpbbcjgaaDoorFlK
import Derived.KernelRfl
section
set_option linter.unusedVariables false
set_option maxRecDepth 20000
namespace Go.Proofs.YtldnpibpbbcjgaaDoor.Am
open Go Go.Am Go.Proofs

theorem eq4 (F8 : Fun) (F9 : Fun) (F10 : Fun) (F14 : Fun) (F15 : Fun) (F16 : Fun) (n : Nat) (x0 : AV) (x1 : List AV) : run4 F8 F9 F10 F14 F15 F16 n x0 x1 =
  ((F8 n [(eta s26 x0), (.tup []), (.tup []), (.tup []), (.tup [])])).bind fun r0 =>
  brO (Nat.beq (List.length r0) 6)
   (jn
    (jn
     (brO (Option.isNone (AV.toPt (getE r0 0)))
      (inl (some [(.tup (AV.toElems (getE r0 2))), (.tup (AV.toElems (getE r0 3))), (.tup (AV.toElems (getE r0 4))), (.tup (AV.toElems (getE r0 5))), (.fv s36 x1), (eta s26 (getE r0 1)), (.pt 2 (AV.toPt (getE r0 0))), (.bool true)]))
      (((F9 n [])).bind fun r1 =>
      brO (Nat.beq (List.length r1) 1)
       (inl (some [(.tup (AV.toElems (getE r0 2))), (.tup (AV.toElems (getE r0 3))), (.tup (AV.toElems (getE r0 4))), (.tup (AV.toElems (getE r0 5))), (.fv s36 x1), (eta s26 (getE r0 1)), (.pt 2 (AV.toPt (getE r0 0))), (.bool (!(AV.toBool (getE r1 0))))]))
       (none))) fun d2 =>
    brO (AV.toBool (getE d2 7))
     (inr (some [(.bool false)]))
     (inl (some [(.tup (AV.toElems (getE d2 0))), (.tup (AV.toElems (getE d2 1))), (.tup (AV.toElems (getE d2 2))), (.tup (AV.toElems (getE d2 3))), (.fv s36 (AV.toElems (getE d2 4))), (eta s26 (getE d2 5)), (.pt 2 (AV.toPt (getE d2 6)))]))) fun d3 =>
   jn
    (iter (fun d4 k5 =>
     jn
      (brO (decide ((AV.toInt (getE d4 8)) < (Int.ofNat (List.length (AV.toElems (getE d4 4))))))
       (brO (decide ((AV.toInt (getE d4 8)) < 400))
        (inl (some [(.tup (AV.toElems (getE d4 0))), (.tup (AV.toElems (getE d4 1))), (.tup (AV.toElems (getE d4 2))), (.tup (AV.toElems (getE d4 3))), (.fv s36 (AV.toElems (getE d4 4))), (eta s26 (getE d4 5)), (.pt 2 (AV.toPt (getE d4 6))), (eta s34 (getE d4 7)), (.int .i64 (AV.toInt (getE d4 8)))]))
        (inr (inl (some [(.tup (AV.toElems (getE d4 0))), (.tup (AV.toElems (getE d4 1))), (.tup (AV.toElems (getE d4 2))), (.tup (AV.toElems (getE d4 3)))]))))
       (inr (inl (some [(.tup (AV.toElems (getE d4 0))), (.tup (AV.toElems (getE d4 1))), (.tup (AV.toElems (getE d4 2))), (.tup (AV.toElems (getE d4 3)))])))) fun d6 =>
     jn
      (brO (inR (AV.toInt (getE d6 8)) (List.length (AV.toElems (getE d6 4))))
       (((F14 n [(.pt 2 (AV.toPt (getE d6 6))), (eta s36 (getE (AV.toElems (getE d6 4)) (Int.toNat (AV.toInt (getE d6 8))))), (eta s34 (getE d6 7)), (.tup (AV.toElems (getE d6 0))), (.tup (AV.toElems (getE d6 1))), (.tup (AV.toElems (getE d6 2))), (.tup (AV.toElems (getE d6 3)))])).bind fun r7 =>
       brO (Nat.beq (List.length r7) 6)
        (((F15 n [(.pt 2 (AV.toPt (getE d6 6))), (.tup (AV.toElems (getE r7 2))), (.tup (AV.toElems (getE r7 3))), (.tup (AV.toElems (getE r7 4))), (.tup (AV.toElems (getE r7 5)))])).bind fun r8 =>
        brO (Nat.beq (List.length r8) 5)
         (jn
          (jn
           (let v27 : Int := (AV.toInt (AV.item (getE d6 5) 0))
           brO (decide ((Int.ofNat (List.length (AV.toElems (getE r8 0)))) > v27))
            (inl (some [(.tup (AV.toElems (getE r8 1))), (.tup (AV.toElems (getE r8 2))), (.tup (AV.toElems (getE r8 3))), (.tup (AV.toElems (getE r8 4))), (.fv s36 (AV.toElems (getE d6 4))), (eta s26 (getE d6 5)), (.pt 2 (AV.toPt (getE d6 6))), (eta s34 (getE r7 0)), (.int .i64 (AV.toInt (getE d6 8))), (.fv s48 (AV.toElems (getE r8 0))), (.bool true)]))
            (((F10 n [(.pt 2 (AV.toPt (getE d6 6))), (.tup (AV.toElems (getE r8 1))), (.tup (AV.toElems (getE r8 2))), (.tup (AV.toElems (getE r8 3))), (.tup (AV.toElems (getE r8 4)))])).bind fun r9 =>
            brO (Nat.beq (List.length r9) 1)
             (inl (some [(.tup (AV.toElems (getE r8 1))), (.tup (AV.toElems (getE r8 2))), (.tup (AV.toElems (getE r8 3))), (.tup (AV.toElems (getE r8 4))), (.fv s36 (AV.toElems (getE d6 4))), (eta s26 (getE d6 5)), (.pt 2 (AV.toPt (getE d6 6))), (eta s34 (getE r7 0)), (.int .i64 (AV.toInt (getE d6 8))), (.fv s48 (AV.toElems (getE r8 0))), (.bool ((Int.ofNat (List.length (AV.toElems (getE r8 0)))) != (AV.toInt (getE r9 0))))]))
             (none))) fun d10 =>
          brO (AV.toBool (getE d10 10))
           (inr (inr (inr (some [(.bool false)]))))
           (inl (some [(.tup (AV.toElems (getE d10 0))), (.tup (AV.toElems (getE d10 1))), (.tup (AV.toElems (getE d10 2))), (.tup (AV.toElems (getE d10 3))), (.fv s36 (AV.toElems (getE d10 4))), (eta s26 (getE d10 5)), (.pt 2 (AV.toPt (getE d10 6))), (eta s34 (getE d10 7)), (.int .i64 (AV.toInt (getE d10 8))), (.fv s48 (AV.toElems (getE d10 9)))]))) fun d11 =>
         iter (fun d12 k13 =>
          brO (decide ((AV.toInt (getE d12 10)) < (Int.ofNat (List.length (AV.toElems (getE d12 9))))))
           (jn
            (brO (inR (AV.toInt (getE d12 10)) (List.length (AV.toElems (getE d12 9))))
             (brO (Nat.ble ((Int.toNat (AV.toInt (getE d12 10))) + 1) (List.length (AV.toElems (getE d12 9))))
              (jn
               (jn
                (let v28 : AV := (getE (AV.toElems (getE d12 9)) (Int.toNat (AV.toInt (getE d12 10))))
                let v29 : Int := (AV.toInt (AV.item v28 3))
                brO (decide (v29 < 1))
                 (inl (let v30 : AV := (eta s48 v28)
                 some [(.tup (AV.toElems (getE d12 0))), (.tup (AV.toElems (getE d12 1))), (.tup (AV.toElems (getE d12 2))), (.tup (AV.toElems (getE d12 3))), (.fv s36 (AV.toElems (getE d12 4))), (eta s26 (getE d12 5)), (.pt 2 (AV.toPt (getE d12 6))), (eta s34 (getE d12 7)), (.int .i64 (AV.toInt (getE d12 8))), (.fv s48 (AV.toElems (getE d12 9))), (.int .i64 (AV.toInt (getE d12 10))), v30, (.bool true)]))
                 (let v31 : AV := (AV.item v28 0)
                 let v32 : Int := (AV.toInt (AV.item (AV.item v31 1) 0))
                 brO (v32 == 4)
                  (let v33 : Int := (AV.toInt (AV.item v28 1))
                  let v34 : Int := (AV.toInt (AV.item (getE d12 5) 2))
                  brO (decide (v33 < v34))
                   (inl (let v35 : AV := (eta s48 v28)
                   some [(.tup (AV.toElems (getE d12 0))), (.tup (AV.toElems (getE d12 1))), (.tup (AV.toElems (getE d12 2))), (.tup (AV.toElems (getE d12 3))), (.fv s36 (AV.toElems (getE d12 4))), (eta s26 (getE d12 5)), (.pt 2 (AV.toPt (getE d12 6))), (eta s34 (getE d12 7)), (.int .i64 (AV.toInt (getE d12 8))), (.fv s48 (AV.toElems (getE d12 9))), (.int .i64 (AV.toInt (getE d12 10))), v35, (.bool true)]))
                   (let v36 : Int := (AV.toInt (AV.item (getE d12 5) 3))
                   brO (decide (v33 > v36))
                    (inl (let v37 : AV := (eta s48 v28)
                    some [(.tup (AV.toElems (getE d12 0))), (.tup (AV.toElems (getE d12 1))), (.tup (AV.toElems (getE d12 2))), (.tup (AV.toElems (getE d12 3))), (.fv s36 (AV.toElems (getE d12 4))), (eta s26 (getE d12 5)), (.pt 2 (AV.toPt (getE d12 6))), (eta s34 (getE d12 7)), (.int .i64 (AV.toInt (getE d12 8))), (.fv s48 (AV.toElems (getE d12 9))), (.int .i64 (AV.toInt (getE d12 10))), v37, (.bool true)]))
                    (let v38 : Bool := (v32 == 6)
                    brO (v38)
                     (inl (let v39 : AV := (eta s48 v28)
                     some [(.tup (AV.toElems (getE d12 0))), (.tup (AV.toElems (getE d12 1))), (.tup (AV.toElems (getE d12 2))), (.tup (AV.toElems (getE d12 3))), (.fv s36 (AV.toElems (getE d12 4))), (eta s26 (getE d12 5)), (.pt 2 (AV.toPt (getE d12 6))), (eta s34 (getE d12 7)), (.int .i64 (AV.toInt (getE d12 8))), (.fv s48 (AV.toElems (getE d12 9))), (.int .i64 (AV.toInt (getE d12 10))), v39, (.bool (v33 != (AV.toInt (AV.item v31 3))))]))
                     (inl (let v40 : AV := (eta s48 v28)
                     some [(.tup (AV.toElems (getE d12 0))), (.tup (AV.toElems (getE d12 1))), (.tup (AV.toElems (getE d12 2))), (.tup (AV.toElems (getE d12 3))), (.fv s36 (AV.toElems (getE d12 4))), (eta s26 (getE d12 5)), (.pt 2 (AV.toPt (getE d12 6))), (eta s34 (getE d12 7)), (.int .i64 (AV.toInt (getE d12 8))), (.fv s48 (AV.toElems (getE d12 9))), (.int .i64 (AV.toInt (getE d12 10))), v40, (.bool false)])))))
                  (let v41 : Bool := (v32 == 6)
                  brO (v41)
                   (inl (let v42 : AV := (eta s48 v28)
                   let v43 : Int := (AV.toInt (AV.item v28 1))
                   some [(.tup (AV.toElems (getE d12 0))), (.tup (AV.toElems (getE d12 1))), (.tup (AV.toElems (getE d12 2))), (.tup (AV.toElems (getE d12 3))), (.fv s36 (AV.toElems (getE d12 4))), (eta s26 (getE d12 5)), (.pt 2 (AV.toPt (getE d12 6))), (eta s34 (getE d12 7)), (.int .i64 (AV.toInt (getE d12 8))), (.fv s48 (AV.toElems (getE d12 9))), (.int .i64 (AV.toInt (getE d12 10))), v42, (.bool (v43 != (AV.toInt (AV.item v31 3))))]))
                   (inl (let v44 : AV := (eta s48 v28)
                   some [(.tup (AV.toElems (getE d12 0))), (.tup (AV.toElems (getE d12 1))), (.tup (AV.toElems (getE d12 2))), (.tup (AV.toElems (getE d12 3))), (.fv s36 (AV.toElems (getE d12 4))), (eta s26 (getE d12 5)), (.pt 2 (AV.toPt (getE d12 6))), (eta s34 (getE d12 7)), (.int .i64 (AV.toInt (getE d12 8))), (.fv s48 (AV.toElems (getE d12 9))), (.int .i64 (AV.toInt (getE d12 10))), v44, (.bool false)]))))) fun d14 =>
               brO (AV.toBool (getE d14 12))
                (inr (inr (inr (inr (some [(.bool false)])))))
                (inl (some [(.tup (AV.toElems (getE d14 0))), (.tup (AV.toElems (getE d14 1))), (.tup (AV.toElems (getE d14 2))), (.tup (AV.toElems (getE d14 3))), (.fv s36 (AV.toElems (getE d14 4))), (eta s26 (getE d14 5)), (.pt 2 (AV.toPt (getE d14 6))), (eta s34 (getE d14 7)), (.int .i64 (AV.toInt (getE d14 8))), (.fv s48 (AV.toElems (getE d14 9))), (.int .i64 (AV.toInt (getE d14 10))), (eta s48 (getE d14 11))]))) fun d15 =>
              iter (fun d16 k17 =>
               brO (decide ((AV.toInt (getE d16 12)) < (AV.toInt (getE d16 10))))
                (jn
                 (brO (inR (AV.toInt (getE d16 12)) (List.length (AV.toElems (getE d16 9))))
                  (brO (Nat.ble ((Int.toNat (AV.toInt (getE d16 12))) + 1) (List.length (AV.toElems (getE d16 9))))
                   (jn
                    (jn
                     (let v45 : AV := (getE (AV.toElems (getE d16 9)) (Int.toNat (AV.toInt (getE d16 12))))
                     brO (keq (eta s34 (AV.item v45 0)) (eta s34 (AV.item (getE d16 11) 0)))
                      (inl (let v46 : AV := (eta s48 v45)
                      some [(.tup (AV.toElems (getE d16 0))), (.tup (AV.toElems (getE d16 1))), (.tup (AV.toElems (getE d16 2))), (.tup (AV.toElems (getE d16 3))), (.fv s36 (AV.toElems (getE d16 4))), (eta s26 (getE d16 5)), (.pt 2 (AV.toPt (getE d16 6))), (eta s34 (getE d16 7)), (.int .i64 (AV.toInt (getE d16 8))), (.fv s48 (AV.toElems (getE d16 9))), (.int .i64 (AV.toInt (getE d16 10))), (eta s48 (getE d16 11)), (.int .i64 (AV.toInt (getE d16 12))), v46, (.bool true)]))
                      (let v47 : AV := (eta s48 v45)
                      ((F16 n [(eta s26 (getE d16 5)), v47])).bind fun r18 =>
                      brO (Nat.beq (List.length r18) 1)
                       (((F16 n [(eta s26 (getE d16 5)), (eta s48 (getE d16 11))])).bind fun r19 =>
                       brO (Nat.beq (List.length r19) 1)
                        (inl (some [(.tup (AV.toElems (getE d16 0))), (.tup (AV.toElems (getE d16 1))), (.tup (AV.toElems (getE d16 2))), (.tup (AV.toElems (getE d16 3))), (.fv s36 (AV.toElems (getE d16 4))), (eta s26 (getE d16 5)), (.pt 2 (AV.toPt (getE d16 6))), (eta s34 (getE d16 7)), (.int .i64 (AV.toInt (getE d16 8))), (.fv s48 (AV.toElems (getE d16 9))), (.int .i64 (AV.toInt (getE d16 10))), (eta s48 (getE d16 11)), (.int .i64 (AV.toInt (getE d16 12))), v47, (.bool (keq (eta s34 (getE r18 0)) (eta s34 (getE r19 0))))]))
                        (none))
                       (none))) fun d20 =>
                    brO (AV.toBool (getE d20 14))
                     (inr (inr (inr (inr (inr (some [(.bool false)]))))))
                     (inl (some [(.tup (AV.toElems (getE d20 0))), (.tup (AV.toElems (getE d20 1))), (.tup (AV.toElems (getE d20 2))), (.tup (AV.toElems (getE d20 3))), (.fv s36 (AV.toElems (getE d20 4))), (eta s26 (getE d20 5)), (.pt 2 (AV.toPt (getE d20 6))), (eta s34 (getE d20 7)), (.int .i64 (AV.toInt (getE d20 8))), (.fv s48 (AV.toElems (getE d20 9))), (.int .i64 (AV.toInt (getE d20 10))), (eta s48 (getE d20 11)), (.int .i64 (AV.toInt (getE d20 12))), (eta s48 (getE d20 13))]))) fun d21 =>
                   jn
                    (let v48 : AV := (AV.item (getE d21 13) 0)
                    brO ((AV.toInt (AV.item (AV.item v48 1) 0)) == 4)
                     (let v49 : AV := (AV.item (getE d21 11) 0)
                     brO ((AV.toInt (AV.item (AV.item v49 1) 0)) == 4)
                      (brO ((AV.toInt (AV.item v48 0)) == (AV.toInt (AV.item v49 0)))
                       (inl (some [(.tup (AV.toElems (getE d21 0))), (.tup (AV.toElems (getE d21 1))), (.tup (AV.toElems (getE d21 2))), (.tup (AV.toElems (getE d21 3))), (.fv s36 (AV.toElems (getE d21 4))), (eta s26 (getE d21 5)), (.pt 2 (AV.toPt (getE d21 6))), (eta s34 (getE d21 7)), (.int .i64 (AV.toInt (getE d21 8))), (.fv s48 (AV.toElems (getE d21 9))), (.int .i64 (AV.toInt (getE d21 10))), (eta s48 (getE d21 11)), (.int .i64 (AV.toInt (getE d21 12))), (.bool ((AV.toInt (AV.item (getE d21 13) 1)) == (AV.toInt (AV.item (getE d21 11) 1))))]))
                       (inl (some [(.tup (AV.toElems (getE d21 0))), (.tup (AV.toElems (getE d21 1))), (.tup (AV.toElems (getE d21 2))), (.tup (AV.toElems (getE d21 3))), (.fv s36 (AV.toElems (getE d21 4))), (eta s26 (getE d21 5)), (.pt 2 (AV.toPt (getE d21 6))), (eta s34 (getE d21 7)), (.int .i64 (AV.toInt (getE d21 8))), (.fv s48 (AV.toElems (getE d21 9))), (.int .i64 (AV.toInt (getE d21 10))), (eta s48 (getE d21 11)), (.int .i64 (AV.toInt (getE d21 12))), (.bool false)])))
                      (inl (some [(.tup (AV.toElems (getE d21 0))), (.tup (AV.toElems (getE d21 1))), (.tup (AV.toElems (getE d21 2))), (.tup (AV.toElems (getE d21 3))), (.fv s36 (AV.toElems (getE d21 4))), (eta s26 (getE d21 5)), (.pt 2 (AV.toPt (getE d21 6))), (eta s34 (getE d21 7)), (.int .i64 (AV.toInt (getE d21 8))), (.fv s48 (AV.toElems (getE d21 9))), (.int .i64 (AV.toInt (getE d21 10))), (eta s48 (getE d21 11)), (.int .i64 (AV.toInt (getE d21 12))), (.bool false)])))
                     (inl (some [(.tup (AV.toElems (getE d21 0))), (.tup (AV.toElems (getE d21 1))), (.tup (AV.toElems (getE d21 2))), (.tup (AV.toElems (getE d21 3))), (.fv s36 (AV.toElems (getE d21 4))), (eta s26 (getE d21 5)), (.pt 2 (AV.toPt (getE d21 6))), (eta s34 (getE d21 7)), (.int .i64 (AV.toInt (getE d21 8))), (.fv s48 (AV.toElems (getE d21 9))), (.int .i64 (AV.toInt (getE d21 10))), (eta s48 (getE d21 11)), (.int .i64 (AV.toInt (getE d21 12))), (.bool false)]))) fun d22 =>
                   brO (AV.toBool (getE d22 13))
                    (inr (inr (inr (inr (some [(.bool false)])))))
                    (inl (some [(.tup (AV.toElems (getE d22 0))), (.tup (AV.toElems (getE d22 1))), (.tup (AV.toElems (getE d22 2))), (.tup (AV.toElems (getE d22 3))), (.fv s36 (AV.toElems (getE d22 4))), (eta s26 (getE d22 5)), (.pt 2 (AV.toPt (getE d22 6))), (eta s34 (getE d22 7)), (.int .i64 (AV.toInt (getE d22 8))), (.fv s48 (AV.toElems (getE d22 9))), (.int .i64 (AV.toInt (getE d22 10))), (eta s48 (getE d22 11)), (.int .i64 (AV.toInt (getE d22 12)))])))
                   (none))
                  (none)) fun d23 =>
                (k17 [(.tup (AV.toElems (getE d23 0))), (.tup (AV.toElems (getE d23 1))), (.tup (AV.toElems (getE d23 2))), (.tup (AV.toElems (getE d23 3))), (.fv s36 (AV.toElems (getE d23 4))), (eta s26 (getE d23 5)), (.pt 2 (AV.toPt (getE d23 6))), (eta s34 (getE d23 7)), (.int .i64 (AV.toInt (getE d23 8))), (.fv s48 (AV.toElems (getE d23 9))), (.int .i64 (AV.toInt (getE d23 10))), (eta s48 (getE d23 11)), (.int .i64 (IntKind.wrap .i64 ((AV.toInt (getE d23 12)) + 1)))]))
                (inl (some [(.tup (AV.toElems (getE d16 0))), (.tup (AV.toElems (getE d16 1))), (.tup (AV.toElems (getE d16 2))), (.tup (AV.toElems (getE d16 3))), (.fv s36 (AV.toElems (getE d16 4))), (eta s26 (getE d16 5)), (.pt 2 (AV.toPt (getE d16 6))), (eta s34 (getE d16 7)), (.int .i64 (AV.toInt (getE d16 8))), (.fv s48 (AV.toElems (getE d16 9))), (.int .i64 (AV.toInt (getE d16 10)))]))) n [(.tup (AV.toElems (getE d15 0))), (.tup (AV.toElems (getE d15 1))), (.tup (AV.toElems (getE d15 2))), (.tup (AV.toElems (getE d15 3))), (.fv s36 (AV.toElems (getE d15 4))), (eta s26 (getE d15 5)), (.pt 2 (AV.toPt (getE d15 6))), (eta s34 (getE d15 7)), (.int .i64 (AV.toInt (getE d15 8))), (.fv s48 (AV.toElems (getE d15 9))), (.int .i64 (AV.toInt (getE d15 10))), (eta s48 (getE d15 11)), (.int .i64 0)])
              (none))
             (none)) fun d24 =>
           (k13 [(.tup (AV.toElems (getE d24 0))), (.tup (AV.toElems (getE d24 1))), (.tup (AV.toElems (getE d24 2))), (.tup (AV.toElems (getE d24 3))), (.fv s36 (AV.toElems (getE d24 4))), (eta s26 (getE d24 5)), (.pt 2 (AV.toPt (getE d24 6))), (eta s34 (getE d24 7)), (.int .i64 (AV.toInt (getE d24 8))), (.fv s48 (AV.toElems (getE d24 9))), (.int .i64 (IntKind.wrap .i64 ((AV.toInt (getE d24 10)) + 1)))]))
           (inl (some [(.tup (AV.toElems (getE d12 0))), (.tup (AV.toElems (getE d12 1))), (.tup (AV.toElems (getE d12 2))), (.tup (AV.toElems (getE d12 3))), (.fv s36 (AV.toElems (getE d12 4))), (eta s26 (getE d12 5)), (.pt 2 (AV.toPt (getE d12 6))), (eta s34 (getE d12 7)), (.int .i64 (AV.toInt (getE d12 8)))]))) n [(.tup (AV.toElems (getE d11 0))), (.tup (AV.toElems (getE d11 1))), (.tup (AV.toElems (getE d11 2))), (.tup (AV.toElems (getE d11 3))), (.fv s36 (AV.toElems (getE d11 4))), (eta s26 (getE d11 5)), (.pt 2 (AV.toPt (getE d11 6))), (eta s34 (getE d11 7)), (.int .i64 (AV.toInt (getE d11 8))), (.fv s48 (AV.toElems (getE d11 9))), (.int .i64 0)])
         (none))
        (none))
       (none)) fun d25 =>
     (k5 [(.tup (AV.toElems (getE d25 0))), (.tup (AV.toElems (getE d25 1))), (.tup (AV.toElems (getE d25 2))), (.tup (AV.toElems (getE d25 3))), (.fv s36 (AV.toElems (getE d25 4))), (eta s26 (getE d25 5)), (.pt 2 (AV.toPt (getE d25 6))), (eta s34 (getE d25 7)), (.int .i64 (IntKind.wrap .i64 ((AV.toInt (getE d25 8)) + 1)))])) n [(.tup (AV.toElems (getE d3 0))), (.tup (AV.toElems (getE d3 1))), (.tup (AV.toElems (getE d3 2))), (.tup (AV.toElems (getE d3 3))), (.fv s36 (AV.toElems (getE d3 4))), (eta s26 (getE d3 5)), (.pt 2 (AV.toPt (getE d3 6))), z34, (.int .i64 0)]) fun d26 =>
   some [(.bool true)])
   (none) := by kernel_rfl

theorem eq5 (F8 : Fun) (F9 : Fun) (F11 : Fun) (F14 : Fun) (F15 : Fun) (F17 : Fun) (F18 : Fun) (F19 : Fun) (n : Nat) (x0 : AV) (x1 : List AV) : run5 F8 F9 F11 F14 F15 F17 F18 F19 n x0 x1 =
  ((F8 n [(eta s26 x0), (.tup []), (.tup []), (.tup []), (.tup [])])).bind fun r0 =>
  brO (Nat.beq (List.length r0) 6)
   (jn
    (jn
     (brO (Option.isNone (AV.toPt (getE r0 0)))
      (inl (some [(.tup (AV.toElems (getE r0 2))), (.tup (AV.toElems (getE r0 3))), (.tup (AV.toElems (getE r0 4))), (.tup (AV.toElems (getE r0 5))), (.fv s36 x1), (.pt 2 (AV.toPt (getE r0 0))), (.bool true)]))
      (((F9 n [])).bind fun r1 =>
      brO (Nat.beq (List.length r1) 1)
       (inl (some [(.tup (AV.toElems (getE r0 2))), (.tup (AV.toElems (getE r0 3))), (.tup (AV.toElems (getE r0 4))), (.tup (AV.toElems (getE r0 5))), (.fv s36 x1), (.pt 2 (AV.toPt (getE r0 0))), (.bool (!(AV.toBool (getE r1 0))))]))
       (none))) fun d2 =>
    brO (AV.toBool (getE d2 6))
     (inr (some [(.bool false)]))
     (inl (some [(.tup (AV.toElems (getE d2 0))), (.tup (AV.toElems (getE d2 1))), (.tup (AV.toElems (getE d2 2))), (.tup (AV.toElems (getE d2 3))), (.fv s36 (AV.toElems (getE d2 4))), (.pt 2 (AV.toPt (getE d2 5)))]))) fun d3 =>
   jn
    (iter (fun d4 k5 =>
     jn
      (brO (decide ((AV.toInt (getE d4 7)) < (Int.ofNat (List.length (AV.toElems (getE d4 4))))))
       (brO (decide ((AV.toInt (getE d4 7)) < 400))
        (inl (some [(.tup (AV.toElems (getE d4 0))), (.tup (AV.toElems (getE d4 1))), (.tup (AV.toElems (getE d4 2))), (.tup (AV.toElems (getE d4 3))), (.fv s36 (AV.toElems (getE d4 4))), (.pt 2 (AV.toPt (getE d4 5))), (eta s34 (getE d4 6)), (.int .i64 (AV.toInt (getE d4 7)))]))
        (inr (inl (some [(.tup (AV.toElems (getE d4 0))), (.tup (AV.toElems (getE d4 1))), (.tup (AV.toElems (getE d4 2))), (.tup (AV.toElems (getE d4 3))), (.pt 2 (AV.toPt (getE d4 5)))]))))
       (inr (inl (some [(.tup (AV.toElems (getE d4 0))), (.tup (AV.toElems (getE d4 1))), (.tup (AV.toElems (getE d4 2))), (.tup (AV.toElems (getE d4 3))), (.pt 2 (AV.toPt (getE d4 5)))])))) fun d6 =>
     brO (inR (AV.toInt (getE d6 7)) (List.length (AV.toElems (getE d6 4))))
      (((F14 n [(.pt 2 (AV.toPt (getE d6 5))), (eta s36 (getE (AV.toElems (getE d6 4)) (Int.toNat (AV.toInt (getE d6 7))))), (eta s34 (getE d6 6)), (.tup (AV.toElems (getE d6 0))), (.tup (AV.toElems (getE d6 1))), (.tup (AV.toElems (getE d6 2))), (.tup (AV.toElems (getE d6 3)))])).bind fun r7 =>
      brO (Nat.beq (List.length r7) 6)
       ((k5 [(.tup (AV.toElems (getE r7 2))), (.tup (AV.toElems (getE r7 3))), (.tup (AV.toElems (getE r7 4))), (.tup (AV.toElems (getE r7 5))), (.fv s36 (AV.toElems (getE d6 4))), (.pt 2 (AV.toPt (getE d6 5))), (eta s34 (getE r7 0)), (.int .i64 (IntKind.wrap .i64 ((AV.toInt (getE d6 7)) + 1)))]))
       (none))
      (none)) n [(.tup (AV.toElems (getE d3 0))), (.tup (AV.toElems (getE d3 1))), (.tup (AV.toElems (getE d3 2))), (.tup (AV.toElems (getE d3 3))), (.fv s36 (AV.toElems (getE d3 4))), (.pt 2 (AV.toPt (getE d3 5))), z34, (.int .i64 0)]) fun d8 =>
   ((F17 n [])).bind fun r9 =>
   brO (Nat.beq (List.length r9) 1)
    (((F11 n [(.pt 2 (AV.toPt (getE d8 4))), (eta s34 (getE r9 0)), (.int .i64 0), (.tup (AV.toElems (getE d8 0))), (.tup (AV.toElems (getE d8 1))), (.tup (AV.toElems (getE d8 2))), (.tup (AV.toElems (getE d8 3)))])).bind fun r10 =>
    brO (Nat.beq (List.length r10) 6)
     (((F15 n [(.pt 2 (AV.toPt (getE d8 4))), (.tup (AV.toElems (getE r10 2))), (.tup (AV.toElems (getE r10 3))), (.tup (AV.toElems (getE r10 4))), (.tup (AV.toElems (getE r10 5)))])).bind fun r11 =>
     brO (Nat.beq (List.length r11) 5)
      (jn
       (iter (fun d12 k13 =>
        brO (decide ((AV.toInt (getE d12 6)) ≤ 60))
         (jn
          (jn
           (iter (fun d14 k15 =>
            brO (decide ((AV.toInt (getE d14 9)) < (Int.ofNat (List.length (AV.toElems (getE d14 5))))))
             (jn
              (jn
               (brO (inR (AV.toInt (getE d14 9)) (List.length (AV.toElems (getE d14 5))))
                (brO (Nat.ble ((Int.toNat (AV.toInt (getE d14 9))) + 1) (List.length (AV.toElems (getE d14 5))))
                 (brO ((AV.toInt (AV.item (getE (AV.toElems (getE d14 5)) (Int.toNat (AV.toInt (getE d14 9)))) 3)) == (AV.toInt (getE d14 6)))
                  (inl (some [(.tup (AV.toElems (getE d14 0))), (.tup (AV.toElems (getE d14 1))), (.tup (AV.toElems (getE d14 2))), (.tup (AV.toElems (getE d14 3))), (.pt 2 (AV.toPt (getE d14 4))), (.fv s48 (AV.toElems (getE d14 5))), (.int .i64 (AV.toInt (getE d14 6))), (.int .i64 (IntKind.wrap .i64 ((AV.toInt (getE d14 7)) + 1))), (.fv s48 (AV.toElems (getE d14 8))), (.int .i64 (AV.toInt (getE d14 9)))]))
                  (inl (some [(.tup (AV.toElems (getE d14 0))), (.tup (AV.toElems (getE d14 1))), (.tup (AV.toElems (getE d14 2))), (.tup (AV.toElems (getE d14 3))), (.pt 2 (AV.toPt (getE d14 4))), (.fv s48 (AV.toElems (getE d14 5))), (.int .i64 (AV.toInt (getE d14 6))), (.int .i64 (AV.toInt (getE d14 7))), (.fv s48 (AV.toElems (getE d14 8))), (.int .i64 (AV.toInt (getE d14 9)))])))
                 (none))
                (none)) fun d16 =>
              let v25 : Bool := (inR (AV.toInt (getE d16 9)) (List.length (AV.toElems (getE d16 5))))
              brO (v25)
               (let v26 : Bool := (Nat.ble ((Int.toNat (AV.toInt (getE d16 9))) + 1) (List.length (AV.toElems (getE d16 5))))
               brO (v26)
                (let v27 : AV := (getE (AV.toElems (getE d16 5)) (Int.toNat (AV.toInt (getE d16 9))))
                let v28 : Int := (AV.toInt (AV.item v27 3))
                brO (decide (v28 > (AV.toInt (getE d16 6))))
                 (brO (v25)
                  (brO (v26)
                   (brO (Nat.ble (((List.length (AV.toElems (getE d16 8))) + 1) * 96) 140737488355328)
                    (inl (some [(.tup (AV.toElems (getE d16 0))), (.tup (AV.toElems (getE d16 1))), (.tup (AV.toElems (getE d16 2))), (.tup (AV.toElems (getE d16 3))), (.pt 2 (AV.toPt (getE d16 4))), (.fv s48 (AV.toElems (getE d16 5))), (.int .i64 (AV.toInt (getE d16 6))), (.int .i64 (AV.toInt (getE d16 7))), (.fv s48 (HAppend.hAppend (AV.toElems (getE d16 8)) [(.agg [(eta s34 (AV.item v27 0)), (.int .i64 (AV.toInt (AV.item v27 1))), (.int .i64 (AV.toInt (AV.item v27 2))), (.int .i64 (IntKind.wrap .i64 (v28 - (AV.toInt (getE d16 6)))))])])), (.int .i64 (AV.toInt (getE d16 9)))]))
                    (none))
                   (none))
                  (none))
                 (inl (some [(.tup (AV.toElems (getE d16 0))), (.tup (AV.toElems (getE d16 1))), (.tup (AV.toElems (getE d16 2))), (.tup (AV.toElems (getE d16 3))), (.pt 2 (AV.toPt (getE d16 4))), (.fv s48 (AV.toElems (getE d16 5))), (.int .i64 (AV.toInt (getE d16 6))), (.int .i64 (AV.toInt (getE d16 7))), (.fv s48 (AV.toElems (getE d16 8))), (.int .i64 (AV.toInt (getE d16 9)))])))
                (none))
               (none)) fun d17 =>
             (k15 [(.tup (AV.toElems (getE d17 0))), (.tup (AV.toElems (getE d17 1))), (.tup (AV.toElems (getE d17 2))), (.tup (AV.toElems (getE d17 3))), (.pt 2 (AV.toPt (getE d17 4))), (.fv s48 (AV.toElems (getE d17 5))), (.int .i64 (AV.toInt (getE d17 6))), (.int .i64 (AV.toInt (getE d17 7))), (.fv s48 (AV.toElems (getE d17 8))), (.int .i64 (IntKind.wrap .i64 ((AV.toInt (getE d17 9)) + 1)))]))
             (inl (some [(.tup (AV.toElems (getE d14 0))), (.tup (AV.toElems (getE d14 1))), (.tup (AV.toElems (getE d14 2))), (.tup (AV.toElems (getE d14 3))), (.pt 2 (AV.toPt (getE d14 4))), (.fv s48 (AV.toElems (getE d14 5))), (.int .i64 (AV.toInt (getE d14 6))), (.int .i64 (AV.toInt (getE d14 7))), (.fv s48 (AV.toElems (getE d14 8)))]))) n [(.tup (AV.toElems (getE d12 0))), (.tup (AV.toElems (getE d12 1))), (.tup (AV.toElems (getE d12 2))), (.tup (AV.toElems (getE d12 3))), (.pt 2 (AV.toPt (getE d12 4))), (.fv s48 (AV.toElems (getE d12 5))), (.int .i64 (AV.toInt (getE d12 6))), (.int .i64 0), (.fv s48 []), (.int .i64 0)]) fun d18 =>
          jn
           (((F18 n [(.pt 2 (AV.toPt (getE d18 4))), (.tup (AV.toElems (getE d18 0))), (.tup (AV.toElems (getE d18 1))), (.tup (AV.toElems (getE d18 2))), (.tup (AV.toElems (getE d18 3)))])).bind fun r19 =>
           brO (Nat.beq (List.length r19) 5)
            (brO ((AV.toInt (getE r19 0)) != (AV.toInt (getE d18 7)))
             (inl (some [(.tup (AV.toElems (getE r19 1))), (.tup (AV.toElems (getE r19 2))), (.tup (AV.toElems (getE r19 3))), (.tup (AV.toElems (getE r19 4))), (.pt 2 (AV.toPt (getE d18 4))), (.fv s48 (AV.toElems (getE d18 5))), (.int .i64 (AV.toInt (getE d18 6))), (.bool true)]))
             (((F15 n [(.pt 2 (AV.toPt (getE d18 4))), (.tup (AV.toElems (getE r19 1))), (.tup (AV.toElems (getE r19 2))), (.tup (AV.toElems (getE r19 3))), (.tup (AV.toElems (getE r19 4)))])).bind fun r20 =>
             brO (Nat.beq (List.length r20) 5)
              (((F19 n [(.fv s48 (AV.toElems (getE r20 0))), (.fv s48 (AV.toElems (getE d18 8)))])).bind fun r21 =>
              brO (Nat.beq (List.length r21) 1)
               (inl (some [(.tup (AV.toElems (getE r20 1))), (.tup (AV.toElems (getE r20 2))), (.tup (AV.toElems (getE r20 3))), (.tup (AV.toElems (getE r20 4))), (.pt 2 (AV.toPt (getE d18 4))), (.fv s48 (AV.toElems (getE d18 5))), (.int .i64 (AV.toInt (getE d18 6))), (.bool (!(AV.toBool (getE r21 0))))]))
               (none))
              (none)))
            (none)) fun d22 =>
          brO (AV.toBool (getE d22 7))
           (inr (inr (some [(.bool false)])))
           (inl (some [(.tup (AV.toElems (getE d22 0))), (.tup (AV.toElems (getE d22 1))), (.tup (AV.toElems (getE d22 2))), (.tup (AV.toElems (getE d22 3))), (.pt 2 (AV.toPt (getE d22 4))), (.fv s48 (AV.toElems (getE d22 5))), (.int .i64 (AV.toInt (getE d22 6)))]))) fun d23 =>
         (k13 [(.tup (AV.toElems (getE d23 0))), (.tup (AV.toElems (getE d23 1))), (.tup (AV.toElems (getE d23 2))), (.tup (AV.toElems (getE d23 3))), (.pt 2 (AV.toPt (getE d23 4))), (.fv s48 (AV.toElems (getE d23 5))), (.int .i64 (IntKind.wrap .i64 ((AV.toInt (getE d23 6)) + 1)))]))
         (inl (some [(.tup (AV.toElems (getE d12 0))), (.tup (AV.toElems (getE d12 1))), (.tup (AV.toElems (getE d12 2))), (.tup (AV.toElems (getE d12 3)))]))) n [(.tup (AV.toElems (getE r11 1))), (.tup (AV.toElems (getE r11 2))), (.tup (AV.toElems (getE r11 3))), (.tup (AV.toElems (getE r11 4))), (.pt 2 (AV.toPt (getE d8 4))), (.fv s48 (AV.toElems (getE r11 0))), (.int .i64 1)]) fun d24 =>
      some [(.bool true)])
      (none))
     (none))
    (none))
   (none) := by kernel_rfl

theorem eq6 (F9 : Fun) (F10 : Fun) (F11 : Fun) (F12 : Fun) (F13 : Fun) (F15 : Fun) (F18 : Fun) (F20 : Fun) (F21 : Fun) (F22 : Fun) (n : Nat) (x0 : Int) (x1 : Int) : run6 F9 F10 F11 F12 F13 F15 F18 F20 F21 F22 n x0 x1 =
  ((F20 n [])).bind fun r0 =>
  brO (Nat.beq (List.length r0) 1)
   (let v40 : Int := (match Decidable.decide (1 > x1) with | Bool.true => 1 | Bool.false => x1)
   let v41 : AV := (.agg [(.int .i64 (match Decidable.decide (4096 < v40) with | Bool.true => 4096 | Bool.false => v40)), (eta s24 (AV.item (getE r0 0) 1)), (.int .i64 20000), (.int .i64 60000), (.int .i64 (AV.toInt (AV.item (getE r0 0) 4))), (.int .i64 (AV.toInt (AV.item (getE r0 0) 5))), (.int .i64 (AV.toInt (AV.item (getE r0 0) 6))), (.int .i64 (AV.toInt (AV.item (getE r0 0) 7))), (.int .i64 (AV.toInt (AV.item (getE r0 0) 8)))])
   ((F21 n [v41, (.tup []), (.tup []), (.tup []), (.tup [])])).bind fun r1 =>
   brO (Nat.beq (List.length r1) 6)
    (jn
     (jn
      (brO (Option.isNone (AV.toPt (getE r1 0)))
       (inl (let v42 : Int := (match Decidable.decide (1 > x0) with | Bool.true => 1 | Bool.false => x0)
       some [(.tup (AV.toElems (getE r1 2))), (.tup (AV.toElems (getE r1 3))), (.tup (AV.toElems (getE r1 4))), (.tup (AV.toElems (getE r1 5))), (.tup []), (.int .i64 (match Decidable.decide (4200 < v42) with | Bool.true => 4200 | Bool.false => v42)), (.int .i64 (match Decidable.decide (4096 < v40) with | Bool.true => 4096 | Bool.false => v40)), v41, (.pt 2 (AV.toPt (getE r1 0))), (.bool true)]))
       (brO ((AV.toInt (getE r1 1)) != 0)
        (inl (let v43 : Int := (match Decidable.decide (1 > x0) with | Bool.true => 1 | Bool.false => x0)
        some [(.tup (AV.toElems (getE r1 2))), (.tup (AV.toElems (getE r1 3))), (.tup (AV.toElems (getE r1 4))), (.tup (AV.toElems (getE r1 5))), (.tup []), (.int .i64 (match Decidable.decide (4200 < v43) with | Bool.true => 4200 | Bool.false => v43)), (.int .i64 (match Decidable.decide (4096 < v40) with | Bool.true => 4096 | Bool.false => v40)), v41, (.pt 2 (AV.toPt (getE r1 0))), (.bool true)]))
        (((F9 n [])).bind fun r2 =>
        brO (Nat.beq (List.length r2) 1)
         (inl (let v44 : Int := (match Decidable.decide (1 > x0) with | Bool.true => 1 | Bool.false => x0)
         some [(.tup (AV.toElems (getE r1 2))), (.tup (AV.toElems (getE r1 3))), (.tup (AV.toElems (getE r1 4))), (.tup (AV.toElems (getE r1 5))), (.tup []), (.int .i64 (match Decidable.decide (4200 < v44) with | Bool.true => 4200 | Bool.false => v44)), (.int .i64 (match Decidable.decide (4096 < v40) with | Bool.true => 4096 | Bool.false => v40)), v41, (.pt 2 (AV.toPt (getE r1 0))), (.bool (!(AV.toBool (getE r2 0))))]))
         (none)))) fun d3 =>
     brO (AV.toBool (getE d3 9))
      (inr (some [(.bool false)]))
      (inl (some [(.tup (AV.toElems (getE d3 0))), (.tup (AV.toElems (getE d3 1))), (.tup (AV.toElems (getE d3 2))), (.tup (AV.toElems (getE d3 3))), (.tup (AV.toElems (getE d3 4))), (.int .i64 (AV.toInt (getE d3 5))), (.int .i64 (AV.toInt (getE d3 6))), (eta s26 (getE d3 7)), (.pt 2 (AV.toPt (getE d3 8)))]))) fun d4 =>
    jn
     (iter (fun d5 k6 =>
      brO (decide ((AV.toInt (getE d5 10)) < (AV.toInt (getE d5 5))))
       (jn
        (((F22 n [(.int .i64 (AV.toInt (getE d5 10)))])).bind fun r7 =>
        brO (Nat.beq (List.length r7) 1)
         (((F11 n [(.pt 2 (AV.toPt (getE d5 8))), (eta s34 (getE r7 0)), (.int .i64 0), (.tup (AV.toElems (getE d5 0))), (.tup (AV.toElems (getE d5 1))), (.tup (AV.toElems (getE d5 2))), (.tup (AV.toElems (getE d5 3)))])).bind fun r8 =>
         brO (Nat.beq (List.length r8) 6)
          (brO (decide ((AV.toInt (getE d5 10)) ≥ (AV.toInt (getE d5 6))))
           (jn
            (brO ((AV.toInt (getE r8 1)) != 171)
             (inl (some [(.tup (AV.toElems (getE r8 2))), (.tup (AV.toElems (getE r8 3))), (.tup (AV.toElems (getE r8 4))), (.tup (AV.toElems (getE r8 5))), (.tup (AV.toElems (getE d5 4))), (.int .i64 (AV.toInt (getE d5 5))), (.int .i64 (AV.toInt (getE d5 6))), (eta s26 (getE d5 7)), (.pt 2 (AV.toPt (getE d5 8))), (.mp 6 (AV.toPt (getE d5 9))), (.int .i64 (AV.toInt (getE d5 10))), (.bool true)]))
             (brO (!(keq (eta s34 (getE r8 0)) z34))
              (inl (some [(.tup (AV.toElems (getE r8 2))), (.tup (AV.toElems (getE r8 3))), (.tup (AV.toElems (getE r8 4))), (.tup (AV.toElems (getE r8 5))), (.tup (AV.toElems (getE d5 4))), (.int .i64 (AV.toInt (getE d5 5))), (.int .i64 (AV.toInt (getE d5 6))), (eta s26 (getE d5 7)), (.pt 2 (AV.toPt (getE d5 8))), (.mp 6 (AV.toPt (getE d5 9))), (.int .i64 (AV.toInt (getE d5 10))), (.bool true)]))
              (((F10 n [(.pt 2 (AV.toPt (getE d5 8))), (.tup (AV.toElems (getE r8 2))), (.tup (AV.toElems (getE r8 3))), (.tup (AV.toElems (getE r8 4))), (.tup (AV.toElems (getE r8 5)))])).bind fun r9 =>
              brO (Nat.beq (List.length r9) 1)
               (inl (some [(.tup (AV.toElems (getE r8 2))), (.tup (AV.toElems (getE r8 3))), (.tup (AV.toElems (getE r8 4))), (.tup (AV.toElems (getE r8 5))), (.tup (AV.toElems (getE d5 4))), (.int .i64 (AV.toInt (getE d5 5))), (.int .i64 (AV.toInt (getE d5 6))), (eta s26 (getE d5 7)), (.pt 2 (AV.toPt (getE d5 8))), (.mp 6 (AV.toPt (getE d5 9))), (.int .i64 (AV.toInt (getE d5 10))), (.bool ((AV.toInt (getE r9 0)) != (AV.toInt (getE d5 6))))]))
               (none)))) fun d10 =>
           brO (AV.toBool (getE d10 11))
            (inr (inr (some [(.bool false)])))
            (inl (some [(.tup (AV.toElems (getE d10 0))), (.tup (AV.toElems (getE d10 1))), (.tup (AV.toElems (getE d10 2))), (.tup (AV.toElems (getE d10 3))), (.tup (AV.toElems (getE d10 4))), (.int .i64 (AV.toInt (getE d10 5))), (.int .i64 (AV.toInt (getE d10 6))), (eta s26 (getE d10 7)), (.pt 2 (AV.toPt (getE d10 8))), (.mp 6 (AV.toPt (getE d10 9))), (.int .i64 (AV.toInt (getE d10 10)))])))
           (jn
            (jn
             (brO ((AV.toInt (getE r8 1)) != 0)
              (inl (some [(.tup (AV.toElems (getE r8 2))), (.tup (AV.toElems (getE r8 3))), (.tup (AV.toElems (getE r8 4))), (.tup (AV.toElems (getE r8 5))), (.tup (AV.toElems (getE d5 4))), (.int .i64 (AV.toInt (getE d5 5))), (.int .i64 (AV.toInt (getE d5 6))), (eta s26 (getE d5 7)), (.pt 2 (AV.toPt (getE d5 8))), (.mp 6 (AV.toPt (getE d5 9))), (.int .i64 (AV.toInt (getE d5 10))), (eta s34 (getE r8 0)), (.bool true)]))
              (let v45 : Int := (AV.toInt (AV.item (getE r8 0) 3))
              brO (AV.toBool (mget (.int .i64 v45) (.bool false) (AV.ments (mapAt (AV.toElems (getE d5 4)) (AV.toPt (getE d5 9))))))
               (inl (some [(.tup (AV.toElems (getE r8 2))), (.tup (AV.toElems (getE r8 3))), (.tup (AV.toElems (getE r8 4))), (.tup (AV.toElems (getE r8 5))), (.tup (AV.toElems (getE d5 4))), (.int .i64 (AV.toInt (getE d5 5))), (.int .i64 (AV.toInt (getE d5 6))), (eta s26 (getE d5 7)), (.pt 2 (AV.toPt (getE d5 8))), (.mp 6 (AV.toPt (getE d5 9))), (.int .i64 (AV.toInt (getE d5 10))), (eta s34 (getE r8 0)), (.bool true)]))
               (let v46 : Int := (AV.toInt (AV.item (getE d5 7) 2))
               brO (decide (v45 < v46))
                (inl (some [(.tup (AV.toElems (getE r8 2))), (.tup (AV.toElems (getE r8 3))), (.tup (AV.toElems (getE r8 4))), (.tup (AV.toElems (getE r8 5))), (.tup (AV.toElems (getE d5 4))), (.int .i64 (AV.toInt (getE d5 5))), (.int .i64 (AV.toInt (getE d5 6))), (eta s26 (getE d5 7)), (.pt 2 (AV.toPt (getE d5 8))), (.mp 6 (AV.toPt (getE d5 9))), (.int .i64 (AV.toInt (getE d5 10))), (eta s34 (getE r8 0)), (.bool true)]))
                (let v47 : Int := (AV.toInt (AV.item (getE d5 7) 3))
                brO (decide (v45 > v47))
                 (inl (some [(.tup (AV.toElems (getE r8 2))), (.tup (AV.toElems (getE r8 3))), (.tup (AV.toElems (getE r8 4))), (.tup (AV.toElems (getE r8 5))), (.tup (AV.toElems (getE d5 4))), (.int .i64 (AV.toInt (getE d5 5))), (.int .i64 (AV.toInt (getE d5 6))), (eta s26 (getE d5 7)), (.pt 2 (AV.toPt (getE d5 8))), (.mp 6 (AV.toPt (getE d5 9))), (.int .i64 (AV.toInt (getE d5 10))), (eta s34 (getE r8 0)), (.bool true)]))
                 (brO (!(keq (eta s24 (AV.item (getE r8 0) 1)) (eta s24 (AV.item (getE d5 7) 1))))
                  (inl (some [(.tup (AV.toElems (getE r8 2))), (.tup (AV.toElems (getE r8 3))), (.tup (AV.toElems (getE r8 4))), (.tup (AV.toElems (getE r8 5))), (.tup (AV.toElems (getE d5 4))), (.int .i64 (AV.toInt (getE d5 5))), (.int .i64 (AV.toInt (getE d5 6))), (eta s26 (getE d5 7)), (.pt 2 (AV.toPt (getE d5 8))), (.mp 6 (AV.toPt (getE d5 9))), (.int .i64 (AV.toInt (getE d5 10))), (eta s34 (getE r8 0)), (.bool true)]))
                  (((F22 n [(.int .i64 (AV.toInt (getE d5 10)))])).bind fun r11 =>
                  brO (Nat.beq (List.length r11) 1)
                   (brO (!(keq (eta s24 (AV.item (getE r8 0) 2)) (eta s24 (AV.item (getE r11 0) 2))))
                    (inl (some [(.tup (AV.toElems (getE r8 2))), (.tup (AV.toElems (getE r8 3))), (.tup (AV.toElems (getE r8 4))), (.tup (AV.toElems (getE r8 5))), (.tup (AV.toElems (getE d5 4))), (.int .i64 (AV.toInt (getE d5 5))), (.int .i64 (AV.toInt (getE d5 6))), (eta s26 (getE d5 7)), (.pt 2 (AV.toPt (getE d5 8))), (.mp 6 (AV.toPt (getE d5 9))), (.int .i64 (AV.toInt (getE d5 10))), (eta s34 (getE r8 0)), (.bool true)]))
                    (((F10 n [(.pt 2 (AV.toPt (getE d5 8))), (.tup (AV.toElems (getE r8 2))), (.tup (AV.toElems (getE r8 3))), (.tup (AV.toElems (getE r8 4))), (.tup (AV.toElems (getE r8 5)))])).bind fun r12 =>
                    brO (Nat.beq (List.length r12) 1)
                     (inl (some [(.tup (AV.toElems (getE r8 2))), (.tup (AV.toElems (getE r8 3))), (.tup (AV.toElems (getE r8 4))), (.tup (AV.toElems (getE r8 5))), (.tup (AV.toElems (getE d5 4))), (.int .i64 (AV.toInt (getE d5 5))), (.int .i64 (AV.toInt (getE d5 6))), (eta s26 (getE d5 7)), (.pt 2 (AV.toPt (getE d5 8))), (.mp 6 (AV.toPt (getE d5 9))), (.int .i64 (AV.toInt (getE d5 10))), (eta s34 (getE r8 0)), (.bool ((AV.toInt (getE r12 0)) != (IntKind.wrap .i64 ((AV.toInt (getE d5 10)) + 1))))]))
                     (none)))
                   (none))))))) fun d13 =>
            brO (AV.toBool (getE d13 12))
             (inr (inr (inr (some [(.bool false)]))))
             (inl (some [(.tup (AV.toElems (getE d13 0))), (.tup (AV.toElems (getE d13 1))), (.tup (AV.toElems (getE d13 2))), (.tup (AV.toElems (getE d13 3))), (.tup (AV.toElems (getE d13 4))), (.int .i64 (AV.toInt (getE d13 5))), (.int .i64 (AV.toInt (getE d13 6))), (eta s26 (getE d13 7)), (.pt 2 (AV.toPt (getE d13 8))), (.mp 6 (AV.toPt (getE d13 9))), (.int .i64 (AV.toInt (getE d13 10))), (eta s34 (getE d13 11))]))) fun d14 =>
           brO (Option.isSome (AV.toPt (getE d14 9)))
            (((F13 n [(eta s34 (getE d14 11))])).bind fun r15 =>
            brO (Nat.beq (List.length r15) 1)
             (((F12 n [(.pt 2 (AV.toPt (getE d14 8))), (eta s34 (getE r15 0)), (.int .i64 0), (.tup (AV.toElems (getE d14 0))), (.tup (AV.toElems (getE d14 1))), (.tup (AV.toElems (getE d14 2))), (.tup (AV.toElems (getE d14 3)))])).bind fun r16 =>
             brO (Nat.beq (List.length r16) 6)
              (jn
               (brO ((AV.toInt (getE r16 1)) != 0)
                (inl (let v48 : AV := (getE (AV.toElems (getE d14 4)) (Option.getD (AV.toPt (getE d14 9)) 0))
                let v49 : (List AV) := (AV.ments v48)
                let v50 : Int := (AV.mclk v48)
                let v51 : AV := (.tup (List.set (AV.toElems (getE d14 4)) (Option.getD (AV.toPt (getE d14 9)) 0) (.mc (mput (.int .i64 (AV.toInt (AV.item (getE d14 11) 3))) (.bool true) v49 v50) (mputC (.int .i64 (AV.toInt (AV.item (getE d14 11) 3))) v49 v50))))
                some [(.tup (AV.toElems (getE r16 2))), (.tup (AV.toElems (getE r16 3))), (.tup (AV.toElems (getE r16 4))), (.tup (AV.toElems (getE r16 5))), v51, (.int .i64 (AV.toInt (getE d14 5))), (.int .i64 (AV.toInt (getE d14 6))), (eta s26 (getE d14 7)), (.pt 2 (AV.toPt (getE d14 8))), (.mp 6 (AV.toPt (getE d14 9))), (.int .i64 (AV.toInt (getE d14 10))), (.bool true)]))
                (((F22 n [(.int .i64 (AV.toInt (getE d14 10)))])).bind fun r17 =>
                brO (Nat.beq (List.length r17) 1)
                 (((F13 n [(eta s34 (getE r17 0))])).bind fun r18 =>
                 brO (Nat.beq (List.length r18) 1)
                  (inl (let v52 : AV := (getE (AV.toElems (getE d14 4)) (Option.getD (AV.toPt (getE d14 9)) 0))
                  let v53 : (List AV) := (AV.ments v52)
                  let v54 : Int := (AV.mclk v52)
                  let v55 : AV := (.tup (List.set (AV.toElems (getE d14 4)) (Option.getD (AV.toPt (getE d14 9)) 0) (.mc (mput (.int .i64 (AV.toInt (AV.item (getE d14 11) 3))) (.bool true) v53 v54) (mputC (.int .i64 (AV.toInt (AV.item (getE d14 11) 3))) v53 v54))))
                  some [(.tup (AV.toElems (getE r16 2))), (.tup (AV.toElems (getE r16 3))), (.tup (AV.toElems (getE r16 4))), (.tup (AV.toElems (getE r16 5))), v55, (.int .i64 (AV.toInt (getE d14 5))), (.int .i64 (AV.toInt (getE d14 6))), (eta s26 (getE d14 7)), (.pt 2 (AV.toPt (getE d14 8))), (.mp 6 (AV.toPt (getE d14 9))), (.int .i64 (AV.toInt (getE d14 10))), (.bool (!(keq (eta s34 (getE r16 0)) (eta s34 (getE r18 0)))))]))
                  (none))
                 (none))) fun d19 =>
              brO (AV.toBool (getE d19 11))
               (inr (inr (some [(.bool false)])))
               (inl (some [(.tup (AV.toElems (getE d19 0))), (.tup (AV.toElems (getE d19 1))), (.tup (AV.toElems (getE d19 2))), (.tup (AV.toElems (getE d19 3))), (.tup (AV.toElems (getE d19 4))), (.int .i64 (AV.toInt (getE d19 5))), (.int .i64 (AV.toInt (getE d19 6))), (eta s26 (getE d19 7)), (.pt 2 (AV.toPt (getE d19 8))), (.mp 6 (AV.toPt (getE d19 9))), (.int .i64 (AV.toInt (getE d19 10)))])))
              (none))
             (none))
            (none)))
          (none))
         (none)) fun d20 =>
       (k6 [(.tup (AV.toElems (getE d20 0))), (.tup (AV.toElems (getE d20 1))), (.tup (AV.toElems (getE d20 2))), (.tup (AV.toElems (getE d20 3))), (.tup (AV.toElems (getE d20 4))), (.int .i64 (AV.toInt (getE d20 5))), (.int .i64 (AV.toInt (getE d20 6))), (eta s26 (getE d20 7)), (.pt 2 (AV.toPt (getE d20 8))), (.mp 6 (AV.toPt (getE d20 9))), (.int .i64 (IntKind.wrap .i64 ((AV.toInt (getE d20 10)) + 1)))]))
       (inl (some [(.tup (AV.toElems (getE d5 0))), (.tup (AV.toElems (getE d5 1))), (.tup (AV.toElems (getE d5 2))), (.tup (AV.toElems (getE d5 3))), (.tup (AV.toElems (getE d5 4))), (.int .i64 (AV.toInt (getE d5 5))), (.int .i64 (AV.toInt (getE d5 6))), (eta s26 (getE d5 7)), (.pt 2 (AV.toPt (getE d5 8)))]))) n [(.tup (AV.toElems (getE d4 0))), (.tup (AV.toElems (getE d4 1))), (.tup (AV.toElems (getE d4 2))), (.tup (AV.toElems (getE d4 3))), (.tup (HAppend.hAppend (AV.toElems (getE d4 4)) [(.mc [] 0)])), (.int .i64 (AV.toInt (getE d4 5))), (.int .i64 (AV.toInt (getE d4 6))), (eta s26 (getE d4 7)), (.pt 2 (AV.toPt (getE d4 8))), (.mp 6 (Option.some (List.length (AV.toElems (getE d4 4))))), (.int .i64 0)]) fun d21 =>
    ((F15 n [(.pt 2 (AV.toPt (getE d21 8))), (.tup (AV.toElems (getE d21 0))), (.tup (AV.toElems (getE d21 1))), (.tup (AV.toElems (getE d21 2))), (.tup (AV.toElems (getE d21 3)))])).bind fun r22 =>
    brO (Nat.beq (List.length r22) 5)
     (let v56 : Int := (match Decidable.decide (Go.Am.AV.toInt (Go.Am.getE d21 6) < Go.Am.AV.toInt (Go.Am.getE d21 5)) with | Bool.true => Go.Am.AV.toInt (Go.Am.getE d21 6) | Bool.false => Go.Am.AV.toInt (Go.Am.getE d21 5))
     brO ((Int.ofNat (List.length (AV.toElems (getE r22 0)))) != v56)
      (some [(.bool false)])
      (jn
       (iter (fun d23 k24 =>
        brO (decide ((AV.toInt (getE d23 9)) < (AV.toInt (getE d23 7))))
         (jn
          (jn
           (let v57 : Bool := (inR (AV.toInt (getE d23 9)) (List.length (AV.toElems (getE d23 8))))
           brO (v57)
            (let v58 : Bool := (Nat.ble ((Int.toNat (AV.toInt (getE d23 9))) + 1) (List.length (AV.toElems (getE d23 8))))
            brO (v58)
             (((F22 n [(.int .i64 (AV.toInt (getE d23 9)))])).bind fun r25 =>
             brO (Nat.beq (List.length r25) 1)
              (let v59 : AV := (getE (AV.toElems (getE d23 8)) (Int.toNat (AV.toInt (getE d23 9))))
              brO (!(keq (eta s34 (AV.item v59 0)) (eta s34 (getE r25 0))))
               (inl (some [(.tup (AV.toElems (getE d23 0))), (.tup (AV.toElems (getE d23 1))), (.tup (AV.toElems (getE d23 2))), (.tup (AV.toElems (getE d23 3))), (.tup (AV.toElems (getE d23 4))), (eta s26 (getE d23 5)), (.pt 2 (AV.toPt (getE d23 6))), (.int .i64 (AV.toInt (getE d23 7))), (.fv s48 (AV.toElems (getE d23 8))), (.int .i64 (AV.toInt (getE d23 9))), (.bool true)]))
               (brO (v57)
                (brO (v58)
                 (brO ((AV.toInt (AV.item v59 3)) != (AV.toInt (AV.item (getE d23 5) 7)))
                  (inl (some [(.tup (AV.toElems (getE d23 0))), (.tup (AV.toElems (getE d23 1))), (.tup (AV.toElems (getE d23 2))), (.tup (AV.toElems (getE d23 3))), (.tup (AV.toElems (getE d23 4))), (eta s26 (getE d23 5)), (.pt 2 (AV.toPt (getE d23 6))), (.int .i64 (AV.toInt (getE d23 7))), (.fv s48 (AV.toElems (getE d23 8))), (.int .i64 (AV.toInt (getE d23 9))), (.bool true)]))
                  (brO (v57)
                   (brO (v58)
                    (inl (some [(.tup (AV.toElems (getE d23 0))), (.tup (AV.toElems (getE d23 1))), (.tup (AV.toElems (getE d23 2))), (.tup (AV.toElems (getE d23 3))), (.tup (AV.toElems (getE d23 4))), (eta s26 (getE d23 5)), (.pt 2 (AV.toPt (getE d23 6))), (.int .i64 (AV.toInt (getE d23 7))), (.fv s48 (AV.toElems (getE d23 8))), (.int .i64 (AV.toInt (getE d23 9))), (.bool ((AV.toInt (AV.item v59 2)) != 7))]))
                    (none))
                   (none)))
                 (none))
                (none)))
              (none))
             (none))
            (none)) fun d26 =>
          brO (AV.toBool (getE d26 10))
           (inr (inr (some [(.bool false)])))
           (inl (some [(.tup (AV.toElems (getE d26 0))), (.tup (AV.toElems (getE d26 1))), (.tup (AV.toElems (getE d26 2))), (.tup (AV.toElems (getE d26 3))), (.tup (AV.toElems (getE d26 4))), (eta s26 (getE d26 5)), (.pt 2 (AV.toPt (getE d26 6))), (.int .i64 (AV.toInt (getE d26 7))), (.fv s48 (AV.toElems (getE d26 8))), (.int .i64 (AV.toInt (getE d26 9)))]))) fun d27 =>
         (k24 [(.tup (AV.toElems (getE d27 0))), (.tup (AV.toElems (getE d27 1))), (.tup (AV.toElems (getE d27 2))), (.tup (AV.toElems (getE d27 3))), (.tup (AV.toElems (getE d27 4))), (eta s26 (getE d27 5)), (.pt 2 (AV.toPt (getE d27 6))), (.int .i64 (AV.toInt (getE d27 7))), (.fv s48 (AV.toElems (getE d27 8))), (.int .i64 (IntKind.wrap .i64 ((AV.toInt (getE d27 9)) + 1)))]))
         (inl (some [(.tup (AV.toElems (getE d23 0))), (.tup (AV.toElems (getE d23 1))), (.tup (AV.toElems (getE d23 2))), (.tup (AV.toElems (getE d23 3))), (.tup (AV.toElems (getE d23 4))), (eta s26 (getE d23 5)), (.pt 2 (AV.toPt (getE d23 6))), (.int .i64 (AV.toInt (getE d23 7)))]))) n [(.tup (AV.toElems (getE r22 1))), (.tup (AV.toElems (getE r22 2))), (.tup (AV.toElems (getE r22 3))), (.tup (AV.toElems (getE r22 4))), (.tup (AV.toElems (getE d21 4))), (eta s26 (getE d21 7)), (.pt 2 (AV.toPt (getE d21 8))), (.int .i64 v56), (.fv s48 (AV.toElems (getE r22 0))), (.int .i64 0)]) fun d28 =>
      jn
       (iter (fun d29 k30 =>
        let v60 : Int := (AV.toInt (AV.item (getE d29 5) 7))
        brO (decide ((AV.toInt (getE d29 8)) ≤ v60))
         (jn
          (jn
           (brO ((AV.toInt (getE d29 8)) == v60)
            (inl (some [(.tup (AV.toElems (getE d29 0))), (.tup (AV.toElems (getE d29 1))), (.tup (AV.toElems (getE d29 2))), (.tup (AV.toElems (getE d29 3))), (.tup (AV.toElems (getE d29 4))), (eta s26 (getE d29 5)), (.pt 2 (AV.toPt (getE d29 6))), (.int .i64 (AV.toInt (getE d29 7))), (.int .i64 (AV.toInt (getE d29 8))), (.int .i64 (AV.toInt (getE d29 7)))]))
            (inl (some [(.tup (AV.toElems (getE d29 0))), (.tup (AV.toElems (getE d29 1))), (.tup (AV.toElems (getE d29 2))), (.tup (AV.toElems (getE d29 3))), (.tup (AV.toElems (getE d29 4))), (eta s26 (getE d29 5)), (.pt 2 (AV.toPt (getE d29 6))), (.int .i64 (AV.toInt (getE d29 7))), (.int .i64 (AV.toInt (getE d29 8))), (.int .i64 0)]))) fun d31 =>
          jn
           (((F18 n [(.pt 2 (AV.toPt (getE d31 6))), (.tup (AV.toElems (getE d31 0))), (.tup (AV.toElems (getE d31 1))), (.tup (AV.toElems (getE d31 2))), (.tup (AV.toElems (getE d31 3)))])).bind fun r32 =>
           brO (Nat.beq (List.length r32) 5)
            (brO ((AV.toInt (getE r32 0)) != (AV.toInt (getE d31 9)))
             (inl (some [(.tup (AV.toElems (getE r32 1))), (.tup (AV.toElems (getE r32 2))), (.tup (AV.toElems (getE r32 3))), (.tup (AV.toElems (getE r32 4))), (.tup (AV.toElems (getE d31 4))), (eta s26 (getE d31 5)), (.pt 2 (AV.toPt (getE d31 6))), (.int .i64 (AV.toInt (getE d31 7))), (.int .i64 (AV.toInt (getE d31 8))), (.bool true)]))
             (((F10 n [(.pt 2 (AV.toPt (getE d31 6))), (.tup (AV.toElems (getE r32 1))), (.tup (AV.toElems (getE r32 2))), (.tup (AV.toElems (getE r32 3))), (.tup (AV.toElems (getE r32 4)))])).bind fun r33 =>
             brO (Nat.beq (List.length r33) 1)
              (inl (some [(.tup (AV.toElems (getE r32 1))), (.tup (AV.toElems (getE r32 2))), (.tup (AV.toElems (getE r32 3))), (.tup (AV.toElems (getE r32 4))), (.tup (AV.toElems (getE d31 4))), (eta s26 (getE d31 5)), (.pt 2 (AV.toPt (getE d31 6))), (.int .i64 (AV.toInt (getE d31 7))), (.int .i64 (AV.toInt (getE d31 8))), (.bool ((AV.toInt (getE r33 0)) != (IntKind.wrap .i64 ((AV.toInt (getE d31 7)) - (AV.toInt (getE d31 9))))))]))
              (none)))
            (none)) fun d34 =>
          brO (AV.toBool (getE d34 9))
           (inr (inr (some [(.bool false)])))
           (inl (some [(.tup (AV.toElems (getE d34 0))), (.tup (AV.toElems (getE d34 1))), (.tup (AV.toElems (getE d34 2))), (.tup (AV.toElems (getE d34 3))), (.tup (AV.toElems (getE d34 4))), (eta s26 (getE d34 5)), (.pt 2 (AV.toPt (getE d34 6))), (.int .i64 (AV.toInt (getE d34 7))), (.int .i64 (AV.toInt (getE d34 8)))]))) fun d35 =>
         (k30 [(.tup (AV.toElems (getE d35 0))), (.tup (AV.toElems (getE d35 1))), (.tup (AV.toElems (getE d35 2))), (.tup (AV.toElems (getE d35 3))), (.tup (AV.toElems (getE d35 4))), (eta s26 (getE d35 5)), (.pt 2 (AV.toPt (getE d35 6))), (.int .i64 (AV.toInt (getE d35 7))), (.int .i64 (IntKind.wrap .i64 ((AV.toInt (getE d35 8)) + 1)))]))
         (inl (some [(.tup (AV.toElems (getE d29 0))), (.tup (AV.toElems (getE d29 1))), (.tup (AV.toElems (getE d29 2))), (.tup (AV.toElems (getE d29 3))), (.tup (AV.toElems (getE d29 4))), (.pt 2 (AV.toPt (getE d29 6)))]))) n [(.tup (AV.toElems (getE d28 0))), (.tup (AV.toElems (getE d28 1))), (.tup (AV.toElems (getE d28 2))), (.tup (AV.toElems (getE d28 3))), (.tup (AV.toElems (getE d28 4))), (eta s26 (getE d28 5)), (.pt 2 (AV.toPt (getE d28 6))), (.int .i64 (AV.toInt (getE d28 7))), (.int .i64 1)]) fun d36 =>
      ((F22 n [(.int .i64 0)])).bind fun r37 =>
      brO (Nat.beq (List.length r37) 1)
       (((F11 n [(.pt 2 (AV.toPt (getE d36 5))), (eta s34 (getE r37 0)), (.int .i64 0), (.tup (AV.toElems (getE d36 0))), (.tup (AV.toElems (getE d36 1))), (.tup (AV.toElems (getE d36 2))), (.tup (AV.toElems (getE d36 3)))])).bind fun r38 =>
       brO (Nat.beq (List.length r38) 6)
        (brO ((AV.toInt (getE r38 1)) == 0)
         (brO ((AV.toInt (AV.item (getE r38 0) 3)) == 40000)
          (((F15 n [(.pt 2 (AV.toPt (getE d36 5))), (.tup (AV.toElems (getE r38 2))), (.tup (AV.toElems (getE r38 3))), (.tup (AV.toElems (getE r38 4))), (.tup (AV.toElems (getE r38 5)))])).bind fun r39 =>
          brO (Nat.beq (List.length r39) 5)
           (some [(.bool ((Int.ofNat (List.length (AV.toElems (getE r39 0)))) == 1))])
           (none))
          (some [(.bool false)]))
         (some [(.bool false)]))
        (none))
       (none)))
     (none))
    (none))
   (none) := by kernel_rfl

theorem eq7 (F9 : Fun) (F10 : Fun) (F11 : Fun) (F15 : Fun) (F17 : Fun) (F18 : Fun) (F20 : Fun) (F21 : Fun) (n : Nat) (x0 : Int) (x1 : Int) : run7 F9 F10 F11 F15 F17 F18 F20 F21 n x0 x1 =
  ((F20 n [])).bind fun r0 =>
  brO (Nat.beq (List.length r0) 1)
   (let v21 : Int := (match Decidable.decide (1 > x0) with | Bool.true => 1 | Bool.false => x0)
   let v22 : Int := (match Decidable.decide (1 > x1) with | Bool.true => 1 | Bool.false => x1)
   ((F21 n [(.agg [(.int .i64 (AV.toInt (AV.item (getE r0 0) 0))), (eta s24 (AV.item (getE r0 0) 1)), (.int .i64 (AV.toInt (AV.item (getE r0 0) 2))), (.int .i64 (AV.toInt (AV.item (getE r0 0) 3))), (.int .i64 (AV.toInt (AV.item (getE r0 0) 4))), (.int .i64 (AV.toInt (AV.item (getE r0 0) 5))), (.int .i64 (AV.toInt (AV.item (getE r0 0) 6))), (.int .i64 (match Decidable.decide (1048576 < v21) with | Bool.true => 1048576 | Bool.false => v21)), (.int .i64 (match Decidable.decide (1048576 < v22) with | Bool.true => 1048576 | Bool.false => v22))]), (.tup []), (.tup []), (.tup []), (.tup [])])).bind fun r1 =>
   brO (Nat.beq (List.length r1) 6)
    (jn
     (jn
      (brO (Option.isNone (AV.toPt (getE r1 0)))
       (inl (some [(.tup (AV.toElems (getE r1 2))), (.tup (AV.toElems (getE r1 3))), (.tup (AV.toElems (getE r1 4))), (.tup (AV.toElems (getE r1 5))), (.int .i64 (match Decidable.decide (1048576 < v21) with | Bool.true => 1048576 | Bool.false => v21)), (.int .i64 (match Decidable.decide (1048576 < v22) with | Bool.true => 1048576 | Bool.false => v22)), (.pt 2 (AV.toPt (getE r1 0))), (.bool true)]))
       (brO ((AV.toInt (getE r1 1)) != 0)
        (inl (some [(.tup (AV.toElems (getE r1 2))), (.tup (AV.toElems (getE r1 3))), (.tup (AV.toElems (getE r1 4))), (.tup (AV.toElems (getE r1 5))), (.int .i64 (match Decidable.decide (1048576 < v21) with | Bool.true => 1048576 | Bool.false => v21)), (.int .i64 (match Decidable.decide (1048576 < v22) with | Bool.true => 1048576 | Bool.false => v22)), (.pt 2 (AV.toPt (getE r1 0))), (.bool true)]))
        (((F9 n [])).bind fun r2 =>
        brO (Nat.beq (List.length r2) 1)
         (inl (some [(.tup (AV.toElems (getE r1 2))), (.tup (AV.toElems (getE r1 3))), (.tup (AV.toElems (getE r1 4))), (.tup (AV.toElems (getE r1 5))), (.int .i64 (match Decidable.decide (1048576 < v21) with | Bool.true => 1048576 | Bool.false => v21)), (.int .i64 (match Decidable.decide (1048576 < v22) with | Bool.true => 1048576 | Bool.false => v22)), (.pt 2 (AV.toPt (getE r1 0))), (.bool (!(AV.toBool (getE r2 0))))]))
         (none)))) fun d3 =>
     brO (AV.toBool (getE d3 7))
      (inr (some [(.bool false)]))
      (inl (some [(.tup (AV.toElems (getE d3 0))), (.tup (AV.toElems (getE d3 1))), (.tup (AV.toElems (getE d3 2))), (.tup (AV.toElems (getE d3 3))), (.int .i64 (AV.toInt (getE d3 4))), (.int .i64 (AV.toInt (getE d3 5))), (.pt 2 (AV.toPt (getE d3 6)))]))) fun d4 =>
    ((F17 n [])).bind fun r5 =>
    brO (Nat.beq (List.length r5) 1)
     (((F17 n [])).bind fun r6 =>
     brO (Nat.beq (List.length r6) 1)
      (((F11 n [(.pt 2 (AV.toPt (getE d4 6))), (eta s34 (getE r6 0)), (.int .i64 0), (.tup (AV.toElems (getE d4 0))), (.tup (AV.toElems (getE d4 1))), (.tup (AV.toElems (getE d4 2))), (.tup (AV.toElems (getE d4 3)))])).bind fun r7 =>
      brO (Nat.beq (List.length r7) 6)
       (((F11 n [(.pt 2 (AV.toPt (getE d4 6))), (.agg [(.int .i64 1), (eta s24 (AV.item (getE r5 0) 1)), (eta s24 (AV.item (getE r5 0) 2)), (.int .i64 (AV.toInt (AV.item (getE r5 0) 3))), (.int .i64 0)]), (.int .i64 0), (.tup (AV.toElems (getE r7 2))), (.tup (AV.toElems (getE r7 3))), (.tup (AV.toElems (getE r7 4))), (.tup (AV.toElems (getE r7 5)))])).bind fun r8 =>
       brO (Nat.beq (List.length r8) 6)
        (jn
         (jn
          (brO ((AV.toInt (getE r7 1)) != 0)
           (inl (some [(.tup (AV.toElems (getE r8 2))), (.tup (AV.toElems (getE r8 3))), (.tup (AV.toElems (getE r8 4))), (.tup (AV.toElems (getE r8 5))), (.int .i64 (AV.toInt (getE d4 4))), (.int .i64 (AV.toInt (getE d4 5))), (.pt 2 (AV.toPt (getE d4 6))), (.bool true)]))
           (brO ((AV.toInt (getE r8 1)) != 0)
            (inl (some [(.tup (AV.toElems (getE r8 2))), (.tup (AV.toElems (getE r8 3))), (.tup (AV.toElems (getE r8 4))), (.tup (AV.toElems (getE r8 5))), (.int .i64 (AV.toInt (getE d4 4))), (.int .i64 (AV.toInt (getE d4 5))), (.pt 2 (AV.toPt (getE d4 6))), (.bool true)]))
            (((F10 n [(.pt 2 (AV.toPt (getE d4 6))), (.tup (AV.toElems (getE r8 2))), (.tup (AV.toElems (getE r8 3))), (.tup (AV.toElems (getE r8 4))), (.tup (AV.toElems (getE r8 5)))])).bind fun r9 =>
            brO (Nat.beq (List.length r9) 1)
             (inl (some [(.tup (AV.toElems (getE r8 2))), (.tup (AV.toElems (getE r8 3))), (.tup (AV.toElems (getE r8 4))), (.tup (AV.toElems (getE r8 5))), (.int .i64 (AV.toInt (getE d4 4))), (.int .i64 (AV.toInt (getE d4 5))), (.pt 2 (AV.toPt (getE d4 6))), (.bool ((AV.toInt (getE r9 0)) != 2))]))
             (none)))) fun d10 =>
         brO (AV.toBool (getE d10 7))
          (inr (some [(.bool false)]))
          (inl (some [(.tup (AV.toElems (getE d10 0))), (.tup (AV.toElems (getE d10 1))), (.tup (AV.toElems (getE d10 2))), (.tup (AV.toElems (getE d10 3))), (.int .i64 (AV.toInt (getE d10 4))), (.int .i64 (AV.toInt (getE d10 5))), (.pt 2 (AV.toPt (getE d10 6)))]))) fun d11 =>
        jn
         (iter (fun d12 k13 =>
          let v23 : Int := (match Decidable.decide (Go.Am.AV.toInt (Go.Am.getE d12 5) > Go.Am.AV.toInt (Go.Am.getE d12 4)) with | Bool.true => Go.Am.AV.toInt (Go.Am.getE d12 5) | Bool.false => Go.Am.AV.toInt (Go.Am.getE d12 4))
          brO (decide ((AV.toInt (getE d12 7)) ≤ v23))
           (jn
            (jn
             (brO ((AV.toInt (getE d12 7)) == (AV.toInt (getE d12 4)))
              (inl (some [(.tup (AV.toElems (getE d12 0))), (.tup (AV.toElems (getE d12 1))), (.tup (AV.toElems (getE d12 2))), (.tup (AV.toElems (getE d12 3))), (.int .i64 (AV.toInt (getE d12 4))), (.int .i64 (AV.toInt (getE d12 5))), (.pt 2 (AV.toPt (getE d12 6))), (.int .i64 (AV.toInt (getE d12 7))), (.int .i64 (Int.ofNat ((0 + 1) % (Int.natAbs (2 ^ (IntKind.bits .i64))))))]))
              (inl (some [(.tup (AV.toElems (getE d12 0))), (.tup (AV.toElems (getE d12 1))), (.tup (AV.toElems (getE d12 2))), (.tup (AV.toElems (getE d12 3))), (.int .i64 (AV.toInt (getE d12 4))), (.int .i64 (AV.toInt (getE d12 5))), (.pt 2 (AV.toPt (getE d12 6))), (.int .i64 (AV.toInt (getE d12 7))), (.int .i64 0)]))) fun d14 =>
            jn
             (brO ((AV.toInt (getE d14 7)) == (AV.toInt (getE d14 5)))
              (inl (some [(.tup (AV.toElems (getE d14 0))), (.tup (AV.toElems (getE d14 1))), (.tup (AV.toElems (getE d14 2))), (.tup (AV.toElems (getE d14 3))), (.int .i64 (AV.toInt (getE d14 4))), (.int .i64 (AV.toInt (getE d14 5))), (.pt 2 (AV.toPt (getE d14 6))), (.int .i64 (AV.toInt (getE d14 7))), (.int .i64 (IntKind.wrap .i64 ((AV.toInt (getE d14 8)) + 1)))]))
              (inl (some [(.tup (AV.toElems (getE d14 0))), (.tup (AV.toElems (getE d14 1))), (.tup (AV.toElems (getE d14 2))), (.tup (AV.toElems (getE d14 3))), (.int .i64 (AV.toInt (getE d14 4))), (.int .i64 (AV.toInt (getE d14 5))), (.pt 2 (AV.toPt (getE d14 6))), (.int .i64 (AV.toInt (getE d14 7))), (.int .i64 (AV.toInt (getE d14 8)))]))) fun d15 =>
            ((F18 n [(.pt 2 (AV.toPt (getE d15 6))), (.tup (AV.toElems (getE d15 0))), (.tup (AV.toElems (getE d15 1))), (.tup (AV.toElems (getE d15 2))), (.tup (AV.toElems (getE d15 3)))])).bind fun r16 =>
            brO (Nat.beq (List.length r16) 5)
             (brO ((AV.toInt (getE r16 0)) != (AV.toInt (getE d15 8)))
              (inr (inr (some [(.bool false)])))
              (inl (some [(.tup (AV.toElems (getE r16 1))), (.tup (AV.toElems (getE r16 2))), (.tup (AV.toElems (getE r16 3))), (.tup (AV.toElems (getE r16 4))), (.int .i64 (AV.toInt (getE d15 4))), (.int .i64 (AV.toInt (getE d15 5))), (.pt 2 (AV.toPt (getE d15 6))), (.int .i64 (AV.toInt (getE d15 7)))])))
             (none)) fun d17 =>
           (k13 [(.tup (AV.toElems (getE d17 0))), (.tup (AV.toElems (getE d17 1))), (.tup (AV.toElems (getE d17 2))), (.tup (AV.toElems (getE d17 3))), (.int .i64 (AV.toInt (getE d17 4))), (.int .i64 (AV.toInt (getE d17 5))), (.pt 2 (AV.toPt (getE d17 6))), (.int .i64 (IntKind.wrap .i64 ((AV.toInt (getE d17 7)) + 1)))]))
           (inl (some [(.tup (AV.toElems (getE d12 0))), (.tup (AV.toElems (getE d12 1))), (.tup (AV.toElems (getE d12 2))), (.tup (AV.toElems (getE d12 3))), (.pt 2 (AV.toPt (getE d12 6)))]))) n [(.tup (AV.toElems (getE d11 0))), (.tup (AV.toElems (getE d11 1))), (.tup (AV.toElems (getE d11 2))), (.tup (AV.toElems (getE d11 3))), (.int .i64 (AV.toInt (getE d11 4))), (.int .i64 (AV.toInt (getE d11 5))), (.pt 2 (AV.toPt (getE d11 6))), (.int .i64 1)]) fun d18 =>
        ((F10 n [(.pt 2 (AV.toPt (getE d18 4))), (.tup (AV.toElems (getE d18 0))), (.tup (AV.toElems (getE d18 1))), (.tup (AV.toElems (getE d18 2))), (.tup (AV.toElems (getE d18 3)))])).bind fun r19 =>
        brO (Nat.beq (List.length r19) 1)
         (brO ((AV.toInt (getE r19 0)) == 0)
          (((F15 n [(.pt 2 (AV.toPt (getE d18 4))), (.tup (AV.toElems (getE d18 0))), (.tup (AV.toElems (getE d18 1))), (.tup (AV.toElems (getE d18 2))), (.tup (AV.toElems (getE d18 3)))])).bind fun r20 =>
          brO (Nat.beq (List.length r20) 5)
           (some [(.bool ((Int.ofNat (List.length (AV.toElems (getE r20 0)))) == 0))])
           (none))
          (some [(.bool false)]))
         (none))
        (none))
       (none))
      (none))
     (none))
    (none))
   (none) := by kernel_rfl

end Go.Proofs.YtldnpibpbbcjgaaDoor.Am
end
