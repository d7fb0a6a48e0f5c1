/-
  What goes out: a new flow's port, time, entries.
  What goes out.
  What the table bears stays so.
  A step of a script: ticks.
  The closed ones: the configuration, the asks.
  A new table.
  The reference's leaves.
  An address's first bits.
  An address's class.
  The printed equations at laid-out data: how they reduce.
  The printed equations at laid-out data: tests.
  What holds of a table between calls.
  What a call does to a table.
-/
import Derived.Test.YtldnpibpbbcjgaaDoorFlD
section
set_option linter.unusedVariables false
set_option linter.unusedSimpArgs false
namespace Go.Proofs.YtldnpibpbbcjgaaDoor.Am
open Go Go.Am Go.Proofs

structure OutOk (n : Nat) (s : Tb) : Prop extends PortOk n s where
  blt : ∀ b ∈ s.bs, b.1 < s.bk

def tailO (s : Tb) (x : Tup) (j : Nat) (f0 : Flw) : Option (Tup × Int × Tb) :=
  if (s.es.length : Int) = s.c.max then some (zT, 171, s) else
    if (portOf s x).2 = false then some (zT, 172, setFl s j { f0 with port := (portOf s x).1 }) else
      let f1 : Flw := { f0 with port := (portOf s x).1 }
      let f2 : Flw := { f1 with left := time s.c f1 }
      match fnd (rev (out_ s.c f2)) s.bs with
      | some _ => none
      | none => some (out_ s.c f2, 0, { setFl s j f2 with es := addE s.es s.ck x j, ck := s.ck + 1, bs := addB s.bs s.bk (rev (out_ s.c f2)) x, bk := s.bk + 1 })

theorem out_tail (n : Nat) (s : Tb) (x : Tup) (j : Nat) (f0 : Flw) (ok : OutOk n s) (hf : s.F[j]? = some f0) (hx : fnd x s.es = none) (r : List AV) (hr : outI (tailO s x j f0) = some r) (d7 : List AV)
    (hd : d7 = [.tup s.m1, .tup s.m2, .tup s.m3, .tup s.m4, .pt 2 (some 0), x.av, z34, .pt 1 (some j)]) :
  brO (Option.isSome (AV.toPt (getE d7 4)))
       (brO (Option.isSome (AV.toPt (getE d7 4)))
        (let v16 : AV := (getE (AV.toElems (getE d7 1)) (Option.getD (AV.toPt (getE d7 4)) 0))
        brO ((Int.ofNat (List.length (AV.ments (mapAt (AV.toElems (getE d7 2)) (AV.toPt (AV.item v16 1)))))) == (AV.toInt (AV.item (AV.item v16 0) 0)))
         (some [z34, (.int .i64 171), (.tup (AV.toElems (getE d7 0))), (.tup (AV.toElems (getE d7 1))), (.tup (AV.toElems (getE d7 2))), (.tup (AV.toElems (getE d7 3)))])
         (((G29 n [(.pt 2 (AV.toPt (getE d7 4))), (eta s34 (getE d7 5)), (.tup (AV.toElems (getE d7 0))), (.tup (AV.toElems (getE d7 1))), (.tup (AV.toElems (getE d7 2))), (.tup (AV.toElems (getE d7 3)))])).bind fun r8 =>
         brO (Nat.beq (List.length r8) 6)
          (brO (Option.isSome (AV.toPt (getE d7 7)))
           (brO (!(AV.toBool (getE r8 1)))
            (let v17 : AV := (getE (AV.toElems (getE r8 2)) (Option.getD (AV.toPt (getE d7 7)) 0))
            let v18 : (List AV) := (List.set (AV.toElems (getE r8 2)) (Option.getD (AV.toPt (getE d7 7)) 0) (.agg [(eta s34 (AV.item v17 0)), (.int .i64 (AV.toInt (getE r8 0))), (.int .i64 (AV.toInt (AV.item v17 2))), (.int .i64 (AV.toInt (AV.item v17 3)))]))
            some [z34, (.int .i64 172), (.tup v18), (.tup (AV.toElems (getE r8 3))), (.tup (AV.toElems (getE r8 4))), (.tup (AV.toElems (getE r8 5)))])
            (brO (Option.isSome (AV.toPt (getE d7 7)))
             (let v19 : AV := (getE (AV.toElems (getE r8 2)) (Option.getD (AV.toPt (getE d7 7)) 0))
             let v20 : (List AV) := (List.set (AV.toElems (getE r8 2)) (Option.getD (AV.toPt (getE d7 7)) 0) (.agg [(eta s34 (AV.item v19 0)), (.int .i64 (AV.toInt (getE r8 0))), (.int .i64 (AV.toInt (AV.item v19 2))), (.int .i64 (AV.toInt (AV.item v19 3)))]))
             let v21 : AV := (getE v20 (Option.getD (AV.toPt (getE d7 7)) 0))
             ((G30 n [(.pt 2 (AV.toPt (getE d7 4))), (eta s48 v21), (.tup v20), (.tup (AV.toElems (getE r8 3))), (.tup (AV.toElems (getE r8 4))), (.tup (AV.toElems (getE r8 5)))])).bind fun r9 =>
             brO (Nat.beq (List.length r9) 1)
              (brO (Option.isSome (AV.toPt (getE d7 7)))
               (brO (Option.isSome (AV.toPt (getE d7 7)))
                (let v22 : (List AV) := (List.set v20 (Option.getD (AV.toPt (getE d7 7)) 0) (.agg [(eta s34 (AV.item v21 0)), (.int .i64 (AV.toInt (AV.item v21 1))), (.int .i64 (AV.toInt (AV.item v21 2))), (.int .i64 (AV.toInt (getE r9 0)))]))
                let v23 : AV := (.tup v22)
                ((G25 n [(.pt 2 (AV.toPt (getE d7 4))), (eta s48 (getE v22 (Option.getD (AV.toPt (getE d7 7)) 0))), v23, (.tup (AV.toElems (getE r8 3))), (.tup (AV.toElems (getE r8 4))), (.tup (AV.toElems (getE r8 5)))])).bind fun r10 =>
                brO (Nat.beq (List.length r10) 1)
                 (brO (Option.isSome (AV.toPt (getE d7 4)))
                  (brO (Option.isSome (AV.toPt (getE d7 4)))
                   (((G13 n [(eta s34 (getE r10 0))])).bind fun r11 =>
                   brO (Nat.beq (List.length r11) 1)
                    (let v24 : AV := (getE (AV.toElems (getE r8 3)) (Option.getD (AV.toPt (getE d7 4)) 0))
                    let v25 : Bool := (Option.isSome (AV.toPt (AV.item v24 1)))
                    brO (v25)
                     (let v26 : AV := (getE (AV.toElems (getE r8 4)) (Option.getD (AV.toPt (AV.item v24 1)) 0))
                     let v27 : (List AV) := (AV.ments v26)
                     let v28 : Int := (AV.mclk v26)
                     let v29 : Int := (mstamp (eta s34 (getE d7 5)) v27 v28)
                     let v30 : (List AV) := (List.set (AV.toElems (getE r8 4)) (Option.getD (AV.toPt (AV.item v24 1)) 0) (.mc (mput (eta s34 (getE d7 5)) (mget (eta s34 (getE d7 5)) (.pt 1 Option.none) v27) v27 v28) (mputC (eta s34 (getE d7 5)) v27 v28)))
                     let v31 : AV := (getE v30 (Option.getD (AV.toPt (AV.item v24 1)) 0))
                     let v32 : (List AV) := (AV.ments v31)
                     brO (v25 && (match Go.Am.mfindB v29 v32 with | Option.some val => Bool.true | Option.none => Bool.false))
                      (let v33 : Bool := (Option.isSome (AV.toPt (AV.item v24 2)))
                      brO (v33)
                       (let v34 : AV := (getE (AV.toElems (getE r8 5)) (Option.getD (AV.toPt (AV.item v24 2)) 0))
                       let v35 : (List AV) := (AV.ments v34)
                       let v36 : Int := (AV.mclk v34)
                       let v37 : Int := (mstamp (eta s34 (getE r11 0)) v35 v36)
                       let v38 : (List AV) := (List.set (AV.toElems (getE r8 5)) (Option.getD (AV.toPt (AV.item v24 2)) 0) (.mc (mput (eta s34 (getE r11 0)) (mget (eta s34 (getE r11 0)) z34 v35) v35 v36) (mputC (eta s34 (getE r11 0)) v35 v36)))
                       let v39 : AV := (getE v38 (Option.getD (AV.toPt (AV.item v24 2)) 0))
                       let v40 : (List AV) := (AV.ments v39)
                       brO (v33 && (match Go.Am.mfindB v37 v40 with | Option.some val => Bool.true | Option.none => Bool.false))
                        (some [(eta s34 (getE r10 0)), (.int .i64 0), v23, (.tup (AV.toElems (getE r8 3))), (.tup (List.set v30 (Option.getD (AV.toPt (AV.item v24 1)) 0) (.mc (mst v29 (.pt 1 (AV.toPt (getE d7 7))) v32) (AV.mclk v31)))), (.tup (List.set v38 (Option.getD (AV.toPt (AV.item v24 2)) 0) (.mc (mst v37 (eta s34 (getE d7 5)) v40) (AV.mclk v39))))])
                        (none))
                       (none))
                      (none))
                     (none))
                    (none))
                   (none))
                  (none))
                 (none))
                (none))
               (none))
              (none))
             (none)))
           (none))
          (none)))
        (none))
       (none) = some r := by
  subst hd
  dsimp only [ge0, ge1, ge2, ge3, ge4, ge5, ge6, ge7, ge8, tI, tB, tT, tV, tF, tM, tC, tP, tQ, Option.getD_some, Option.isSome_some]
  unfold tailO at hr
  rw [brO_t rfl, brO_t rfl]
  show brO ((Int.ofNat (List.length (s.es.map eAv))) == s.c.max) _ (Option.bind (G29 n [.pt 2 (some 0), x.av, .tup s.m1, .tup s.m2, .tup s.m3, .tup s.m4]) _) = _
  rw [List.length_map]
  by_cases hm : (s.es.length : Int) = s.c.max
  · rw [if_pos hm] at hr
    rw [brO_t (by simpa using hm)]
    exact hr
  · rw [if_neg hm] at hr
    rw [brO_f (by simpa using hm)]
    rw [show G29 n [.pt 2 (some 0), x.av, .tup s.m1, .tup s.m2, .tup s.m3, .tup s.m4] = some (.int .i64 (portOf s x).1 :: .bool (portOf s x).2 :: s.ms) from g29 n x s ok.toPortOk]
    have hg : getE s.m1 j = f0.av := m1_at hf
    have hs1 : List.set s.m1 j (.agg [eta s34 (AV.item (getE s.m1 j) 0), .int .i64 (portOf s x).1, .int .i64 (AV.toInt (AV.item (getE s.m1 j) 2)), .int .i64 (AV.toInt (AV.item (getE s.m1 j) 3))]) = (setFl s j { f0 with port := (portOf s x).1 }).m1 := by
      rw [hg, ← setFl_m1]
      rfl
    show brO (!(portOf s x).2) _ _ = _
    cases hq : (portOf s x).2 with
    | false =>
      rw [hq, if_pos rfl] at hr
      rw [brO_t (b := !false) rfl]
      show some [z34, AV.int .i64 172, .tup (List.set s.m1 j (.agg [eta s34 (AV.item (getE s.m1 j) 0), .int .i64 (portOf s x).1, .int .i64 (AV.toInt (AV.item (getE s.m1 j) 2)), .int .i64 (AV.toInt (AV.item (getE s.m1 j) 3))])), .tup s.m2, .tup s.m3, .tup s.m4] = _
      rw [hs1]
      exact hr
    | true =>
      rw [hq, if_neg (by simp)] at hr
      dsimp only at hr
      rw [brO_f (b := !true) rfl]
      let f1 : Flw := { f0 with port := (portOf s x).1 }
      let f2 : Flw := { f1 with left := time s.c f1 }
      have h1 : (setFl s j f1).F[j]? = some f1 := setFl_at hf
      have hg1 : getE (setFl s j f1).m1 j = f1.av := m1_at h1
      have hg2 : getE (setFl s j f2).m1 j = f2.av := m1_at (setFl_at hf)
      have hs2 : List.set (setFl s j f1).m1 j (.agg [eta s34 (AV.item (getE (setFl s j f1).m1 j) 0), .int .i64 (AV.toInt (AV.item (getE (setFl s j f1).m1 j) 1)), .int .i64 (AV.toInt (AV.item (getE (setFl s j f1).m1 j) 2)), .int .i64 (time s.c f1)]) = (setFl s j f2).m1 := by
        rw [hg1]
        have := setFl_m1 (setFl s j f1) j f2
        rw [setFl_set] at this
        exact this
      show Option.bind (G30 n [.pt 2 (some 0), eta s48 (getE (List.set s.m1 j (.agg [eta s34 (AV.item (getE s.m1 j) 0), .int .i64 (portOf s x).1, .int .i64 (AV.toInt (AV.item (getE s.m1 j) 2)), .int .i64 (AV.toInt (AV.item (getE s.m1 j) 3))])) j), .tup (List.set s.m1 j (.agg [eta s34 (AV.item (getE s.m1 j) 0), .int .i64 (portOf s x).1, .int .i64 (AV.toInt (AV.item (getE s.m1 j) 2)), .int .i64 (AV.toInt (AV.item (getE s.m1 j) 3))])), .tup s.m2, .tup s.m3, .tup s.m4]) _ = _
      rw [hs1]
      rw [show getE (setFl s j { f0 with port := (portOf s x).1 }).m1 j = f1.av from hg1]
      rw [show G30 n [.pt 2 (some 0), eta s48 f1.av, .tup (setFl s j { f0 with port := (portOf s x).1 }).m1, .tup s.m2, .tup s.m3, .tup s.m4] = some [.int .i64 (time s.c f1)] from g30 n f1 (setFl s j f1)]
      show Option.bind (G25 n [.pt 2 (some 0), eta s48 (getE (List.set (List.set s.m1 j (.agg [eta s34 (AV.item (getE s.m1 j) 0), .int .i64 (portOf s x).1, .int .i64 (AV.toInt (AV.item (getE s.m1 j) 2)), .int .i64 (AV.toInt (AV.item (getE s.m1 j) 3))])) j (.agg [eta s34 (AV.item (getE (List.set s.m1 j (.agg [eta s34 (AV.item (getE s.m1 j) 0), .int .i64 (portOf s x).1, .int .i64 (AV.toInt (AV.item (getE s.m1 j) 2)), .int .i64 (AV.toInt (AV.item (getE s.m1 j) 3))])) j) 0), .int .i64 (AV.toInt (AV.item (getE (List.set s.m1 j (.agg [eta s34 (AV.item (getE s.m1 j) 0), .int .i64 (portOf s x).1, .int .i64 (AV.toInt (AV.item (getE s.m1 j) 2)), .int .i64 (AV.toInt (AV.item (getE s.m1 j) 3))])) j) 1)), .int .i64 (AV.toInt (AV.item (getE (List.set s.m1 j (.agg [eta s34 (AV.item (getE s.m1 j) 0), .int .i64 (portOf s x).1, .int .i64 (AV.toInt (AV.item (getE s.m1 j) 2)), .int .i64 (AV.toInt (AV.item (getE s.m1 j) 3))])) j) 2)), .int .i64 (time s.c f1)])) j), .tup (List.set (List.set s.m1 j (.agg [eta s34 (AV.item (getE s.m1 j) 0), .int .i64 (portOf s x).1, .int .i64 (AV.toInt (AV.item (getE s.m1 j) 2)), .int .i64 (AV.toInt (AV.item (getE s.m1 j) 3))])) j (.agg [eta s34 (AV.item (getE (List.set s.m1 j (.agg [eta s34 (AV.item (getE s.m1 j) 0), .int .i64 (portOf s x).1, .int .i64 (AV.toInt (AV.item (getE s.m1 j) 2)), .int .i64 (AV.toInt (AV.item (getE s.m1 j) 3))])) j) 0), .int .i64 (AV.toInt (AV.item (getE (List.set s.m1 j (.agg [eta s34 (AV.item (getE s.m1 j) 0), .int .i64 (portOf s x).1, .int .i64 (AV.toInt (AV.item (getE s.m1 j) 2)), .int .i64 (AV.toInt (AV.item (getE s.m1 j) 3))])) j) 1)), .int .i64 (AV.toInt (AV.item (getE (List.set s.m1 j (.agg [eta s34 (AV.item (getE s.m1 j) 0), .int .i64 (portOf s x).1, .int .i64 (AV.toInt (AV.item (getE s.m1 j) 2)), .int .i64 (AV.toInt (AV.item (getE s.m1 j) 3))])) j) 2)), .int .i64 (time s.c f1)])), .tup s.m2, .tup s.m3, .tup s.m4]) _ = _
      rw [hs1]
      rw [show List.set (setFl s j { f0 with port := (portOf s x).1 }).m1 j (.agg [eta s34 (AV.item (getE (setFl s j { f0 with port := (portOf s x).1 }).m1 j) 0), .int .i64 (AV.toInt (AV.item (getE (setFl s j { f0 with port := (portOf s x).1 }).m1 j) 1)), .int .i64 (AV.toInt (AV.item (getE (setFl s j { f0 with port := (portOf s x).1 }).m1 j) 2)), .int .i64 (time s.c f1)]) = (setFl s j f2).m1 from hs2]
      rw [hg2]
      rw [show G25 n [.pt 2 (some 0), eta s48 f2.av, .tup (setFl s j f2).m1, .tup s.m2, .tup s.m3, .tup s.m4] = some [(out_ s.c f2).av] from g25 n f2 (setFl s j f2)]
      show Option.bind (G13 n [(out_ s.c f2).av]) _ = _
      rw [g13]
      have hr' : outI (match fnd (rev (out_ s.c f2)) s.bs with
        | some _ => none
        | none => some (out_ s.c f2, 0, { setFl s j f2 with es := addE s.es s.ck x j, ck := s.ck + 1, bs := addB s.bs s.bk (rev (out_ s.c f2)) x, bk := s.bk + 1 })) = some r := hr
      cases hb : fnd (rev (out_ s.c f2)) s.bs with
      | some v => rw [hb] at hr'; cases hr'
      | none =>
        rw [hb] at hr'
        obtain ⟨e1, e2, e3, e4, e5, e6⟩ := entry_new (enc := eAv) (born := fun e => e.1) (l := s.es) (k := x.av) (v := .pt 1 (some j)) (z := .pt 1 none) (c := s.ck) (fun _ => rfl) ok.inv.lt (by rw [mhas_e, hx]; rfl)
        obtain ⟨d1, d2, d3, d4, d5, d6⟩ := entry_new (enc := bAv) (born := fun e => e.1) (l := s.bs) (k := (rev (out_ s.c f2)).av) (v := x.av) (z := z34) (c := s.bk) (fun _ => rfl) ok.blt (by rw [mhas_b, hb]; rfl)
        have fin : ∀ (c1 c2 : Bool) (A : Option (List AV)), c1 = true → c2 = true → A = some r → brO (true && c1) (brO (true && c2) A none) none = some r := fun c1 c2 A h1 h2 h3 => by rw [h1, h2]; exact h3
        refine fin (match mfindB (mstamp x.av (s.es.map eAv) s.ck) (mput x.av (mget x.av (.pt 1 none) (s.es.map eAv)) (s.es.map eAv) s.ck) with | some _ => true | none => false) (match mfindB (mstamp (rev (out_ s.c f2)).av (s.bs.map bAv) s.bk) (mput (rev (out_ s.c f2)).av (mget (rev (out_ s.c f2)).av z34 (s.bs.map bAv)) (s.bs.map bAv) s.bk) with | some _ => true | none => false)
          (some [(out_ s.c f2).av, .int .i64 0, .tup (List.set (List.set s.m1 j (.agg [eta s34 (AV.item (getE s.m1 j) 0), .int .i64 (portOf s x).1, .int .i64 (AV.toInt (AV.item (getE s.m1 j) 2)), .int .i64 (AV.toInt (AV.item (getE s.m1 j) 3))])) j (.agg [eta s34 (AV.item (getE (List.set s.m1 j (.agg [eta s34 (AV.item (getE s.m1 j) 0), .int .i64 (portOf s x).1, .int .i64 (AV.toInt (AV.item (getE s.m1 j) 2)), .int .i64 (AV.toInt (AV.item (getE s.m1 j) 3))])) j) 0), .int .i64 (AV.toInt (AV.item (getE (List.set s.m1 j (.agg [eta s34 (AV.item (getE s.m1 j) 0), .int .i64 (portOf s x).1, .int .i64 (AV.toInt (AV.item (getE s.m1 j) 2)), .int .i64 (AV.toInt (AV.item (getE s.m1 j) 3))])) j) 1)), .int .i64 (AV.toInt (AV.item (getE (List.set s.m1 j (.agg [eta s34 (AV.item (getE s.m1 j) 0), .int .i64 (portOf s x).1, .int .i64 (AV.toInt (AV.item (getE s.m1 j) 2)), .int .i64 (AV.toInt (AV.item (getE s.m1 j) 3))])) j) 2)), .int .i64 (time s.c f1)])), .tup s.m2,
            .tup [.mc (mst (mstamp x.av (s.es.map eAv) s.ck) (.pt 1 (some j)) (mput x.av (mget x.av (.pt 1 none) (s.es.map eAv)) (s.es.map eAv) s.ck)) (mputC x.av (s.es.map eAv) s.ck)],
            .tup [.mc (mst (mstamp (rev (out_ s.c f2)).av (s.bs.map bAv) s.bk) x.av (mput (rev (out_ s.c f2)).av (mget (rev (out_ s.c f2)).av z34 (s.bs.map bAv)) (s.bs.map bAv) s.bk)) (mputC (rev (out_ s.c f2)).av (s.bs.map bAv) s.bk)]]) ?_ ?_ ?_
        · rw [e6, e3, e1, e4]
        · rw [d6, d3, d1, d4]
        · rw [hs1]
          rw [show List.set (setFl s j { f0 with port := (portOf s x).1 }).m1 j (.agg [eta s34 (AV.item (getE (setFl s j { f0 with port := (portOf s x).1 }).m1 j) 0), .int .i64 (AV.toInt (AV.item (getE (setFl s j { f0 with port := (portOf s x).1 }).m1 j) 1)), .int .i64 (AV.toInt (AV.item (getE (setFl s j { f0 with port := (portOf s x).1 }).m1 j) 2)), .int .i64 (time s.c f1)]) = (setFl s j f2).m1 from hs2]
          rw [e6, e3, e1, e5, e2, d6, d3, d1, d5, d2]
          rw [← addE_av, ← addB_av]
          exact hr'
end Go.Proofs.YtldnpibpbbcjgaaDoor.Am
end

section
set_option linter.unusedVariables false
set_option linter.unusedSimpArgs false
namespace Go.Proofs.YtldnpibpbbcjgaaDoor.Am
open Go Go.Am Go.Proofs

def withF (s : Tb) (f : Flw) : Tb := { s with F := s.F ++ [f] }
def badO (x : Tup) (fl : Int) : Bool := ((new0 x fl).st == 0) || (isEcho x && ((x.dp != 0) || (x.sp == 0)))
def goOut (s : Tb) (x : Tup) (fl : Int) : Option (Tup × Int × Tb) :=
  if judge x ≠ 0 then some (zT, judge x, s) else match fnd x s.es with
    | some j => match s.F[j]? with
      | none => none
      | some f => match goes s j fl false with
        | none => none
        | some (false, s') => some (zT, 173, s')
        | some (true, s') => some (out_ s.c f, 0, s')
    | none => if badO x fl = true then some (zT, 173, withF s (new0 x fl)) else tailO (withF s (new0 x fl)) x s.F.length (new0 x fl)

theorem OutOk.withF {n : Nat} {s : Tb} (h : OutOk n s) (f : Flw) : OutOk n (withF s f) := by
  refine ⟨⟨⟨h.inv.born, h.inv.lt, fun e he => ?_⟩, h.len, h.big, h.lo, h.hi⟩, h.blt⟩
  obtain ⟨g, h1, h2⟩ := h.inv.ptr e he
  refine ⟨g, ?_, h2⟩
  show (s.F ++ [f])[e.2.2]? = _
  rw [List.getElem?_append_left (List.getElem?_eq_some_iff.1 h1).1]
  exact h1
theorem withF_at (s : Tb) (f : Flw) : (withF s f).F[s.F.length]? = some f := by
  show (s.F ++ [f])[s.F.length]? = _
  simp
theorem m1_len (s : Tb) : s.m1.length = s.F.length := by unfold Tb.m1; rw [List.length_map]
theorem withF_m1 (s : Tb) (f : Flw) : s.m1 ++ [f.av] = (withF s f).m1 := by unfold Tb.m1 withF; rw [List.map_append]; rfl
theorem getE_last (l : List AV) (a : AV) : getE (l ++ [a]) l.length = a := by unfold getE; simp
theorem set_last (l : List AV) (a b : AV) : (l ++ [a]).set l.length b = l ++ [b] := by simp

open Classical in
noncomputable def outX (n : Nat) (p : Tup × Int × Tb) : Option (List AV) := if OutOk n p.2.2 then outI (goOut p.2.2 p.1 p.2.1) else none
noncomputable def G11 : Fun := spec encI decI outX
theorem g11 (n : Nat) (x : Tup) (f : Int) (s : Tb) (h : OutOk n s) : G11 n (.pt 2 (some 0) :: x.av :: .int .i64 f :: s.ms) = outI (goOut s x f) :=
  (spec_at (enc := encI) (x, f, s) (decI_enc _)).trans (if_pos h)

theorem s11 : SoundCal Tryd.prog env 11 (mkCal D11 G11) := spec_ok (snd11 G13 G24 G25 G26 G27 G28 G29 G30 s13 s24_ s25 s26_ s27 s28 s29 s30) (fun n p r h => by
  obtain ⟨x, fl, s⟩ := p
  unfold outX at h
  split at h
  case isFalse => cases h
  rename_i ok
  replace ok : OutOk n s := ok
  have h : outI (goOut s x fl) = some r := h
  refine (eq11 G13 G24 G25 G26 G27 G28 G29 G30 n (some 0) x.av fl s.m1 s.m2 s.m3 s.m4).trans ?_
  rw [show eta s34 x.av = x.av from rfl, g24, Option.bind_some]
  unfold goOut at h
  show brO (judge x != 0) _ (brO (mhas x.av (s.es.map eAv)) _ _) = _
  by_cases hj : judge x ≠ 0
  · rw [if_pos hj] at h
    rw [brO_t (by simpa using hj)]
    exact h
  · rw [if_neg hj] at h
    rw [brO_f (by simpa using hj), mhas_e]
    cases hx : fnd x s.es with
    | some j =>
      rw [hx] at h
      dsimp only at h
      rw [brO_t (b := Option.isSome (some j)) rfl]
      cases hf : s.F[j]? with
      | none => rw [hf] at h; cases h
      | some f =>
        rw [hf] at h
        dsimp only at h
        show brO (Option.isSome (AV.toPt (mget x.av (.pt 1 none) (s.es.map eAv)))) (Option.bind (G25 n [.pt 2 (some 0), eta s48 (getE s.m1 (Option.getD (AV.toPt (mget x.av (.pt 1 none) (s.es.map eAv))) 0)), .tup s.m1, .tup s.m2, .tup s.m3, .tup s.m4]) fun r1 => brO (Nat.beq (List.length r1) 1) (Option.bind (G26 n [.pt 2 (some 0), .pt 1 (AV.toPt (mget x.av (.pt 1 none) (s.es.map eAv))), .int .i64 fl, .bool false, .tup s.m1, .tup s.m2, .tup s.m3, .tup s.m4]) _) none) none = _
        rw [mget_e, hx]
        rw [brO_t (b := Option.isSome (AV.toPt (.pt 1 (some j)))) rfl]
        show Option.bind (G25 n [.pt 2 (some 0), eta s48 (getE s.m1 j), .tup s.m1, .tup s.m2, .tup s.m3, .tup s.m4]) _ = _
        rw [m1_at hf]
        rw [show G25 n [.pt 2 (some 0), eta s48 f.av, .tup s.m1, .tup s.m2, .tup s.m3, .tup s.m4] = some [(out_ s.c f).av] from g25 n f s]
        show Option.bind (G26 n [.pt 2 (some 0), .pt 1 (some j), .int .i64 fl, .bool false, .tup s.m1, .tup s.m2, .tup s.m3, .tup s.m4]) _ = _
        rw [show G26 n [.pt 2 (some 0), .pt 1 (some j), .int .i64 fl, .bool false, .tup s.m1, .tup s.m2, .tup s.m3, .tup s.m4] = outG (goes s j fl false) from g26 n j fl false s]
        cases hgo : goes s j fl false with
        | none => rw [hgo] at h; cases h
        | some q =>
          obtain ⟨b, s'⟩ := q
          rw [hgo] at h
          cases b <;> exact h
    | none =>
      rw [hx] at h
      dsimp only at h
      rw [brO_f (b := Option.isSome (none : Option Nat)) rfl]
      -- the new flow
      refine (jn_l (d := [.tup (withF s (new0 x fl)).m1, .tup s.m2, .tup s.m3, .tup s.m4, .pt 2 (some 0), x.av, z34, .pt 1 (some s.F.length)]) ?_).trans ?_
      · by_cases hp : x.p = 6
        · rw [brO_t (b := AV.toInt (AV.item x.av 0) == 6) (by show (x.p == 6) = true; simp [hp]), g27, Option.bind_some]
          rw [brO_t (b := Nat.beq _ 1) rfl]
          have h6 : inR ((seg fl : Nat) : Int) 6 = true := by
            have := seg_lt fl
            unfold inR
            simp
            omega
          rw [show AV.toInt (getE [AV.int .i64 (seg fl : Nat)] 0) = ((seg fl : Nat) : Int) from rfl, brO_t h6]
          rw [show Int.toNat ((seg fl : Nat) : Int) = seg fl from Int.toNat_natCast _]
          dsimp only
          rw [getE_last, m1_len, ← m1_len, set_last]
          have : new0 x fl = ⟨x, 0, getI [0, 0, 0, 1, 0, 0] (seg fl), 0⟩ := by unfold new0; rw [if_pos hp]
          rw [this, ← withF_m1, m1_len]
          rfl
        · rw [brO_f (b := AV.toInt (AV.item x.av 0) == 6) (by show (x.p == 6) = false; simpa using hp)]
          have : new0 x fl = ⟨x, 0, 7, 0⟩ := by unfold new0; rw [if_neg hp]
          rw [this, ← withF_m1]
          show inl (some [AV.tup (s.m1 ++ [(⟨x, 0, 7, 0⟩ : Flw).av]), .tup s.m2, .tup s.m3, .tup s.m4, .pt 2 (some 0), x.av, z34, .pt 1 (some (List.length s.m1))]) = _
          rw [m1_len]
          rfl
      · have hat : getE (withF s (new0 x fl)).m1 s.F.length = (new0 x fl).av := m1_at (withF_at s _)
        have step : ∀ (X : Option (Sum (List AV) (Sum (List AV) (List AV)))) (k1 : List AV → Option (Sum (List AV) (List AV))) (k2 : List AV → Option (List AV)) (d : List AV) (R : Option (List AV)), X = some (.inl d) → jn (k1 d) k2 = R → jn (jn X k1) k2 = R := fun X k1 k2 d R h1 h2 => by rw [jn_l h1]; exact h2
        refine step _ _ _ [.tup (withF s (new0 x fl)).m1, .tup s.m2, .tup s.m3, .tup s.m4, .pt 2 (some 0), x.av, z34, .pt 1 (some s.F.length), .bool (badO x fl)] _ ?_ ?_
        · show brO ((AV.toInt (AV.item (getE (withF s (new0 x fl)).m1 s.F.length) 2)) == 0) (inl (some [.tup (withF s (new0 x fl)).m1, .tup s.m2, .tup s.m3, .tup s.m4, .pt 2 (some 0), x.av, z34, .pt 1 (some s.F.length), .bool true])) (Option.bind (G28 n [x.av]) _) = _
          rw [hat, g28]
          show brO ((new0 x fl).st == 0) (inl (some [.tup (withF s (new0 x fl)).m1, .tup s.m2, .tup s.m3, .tup s.m4, .pt 2 (some 0), x.av, z34, .pt 1 (some s.F.length), .bool true]))
            (brO (isEcho x) (brO (x.dp != 0) (inl (some [.tup (withF s (new0 x fl)).m1, .tup s.m2, .tup s.m3, .tup s.m4, .pt 2 (some 0), x.av, z34, .pt 1 (some s.F.length), .bool true])) (inl (some [.tup (withF s (new0 x fl)).m1, .tup s.m2, .tup s.m3, .tup s.m4, .pt 2 (some 0), x.av, z34, .pt 1 (some s.F.length), .bool (x.sp == 0)])))
              (inl (some [.tup (withF s (new0 x fl)).m1, .tup s.m2, .tup s.m3, .tup s.m4, .pt 2 (some 0), x.av, z34, .pt 1 (some s.F.length), .bool false]))) = _
          unfold badO
          cases ((new0 x fl).st == 0) <;> cases isEcho x <;> cases (x.dp != 0) <;> rfl
        · show jn (brO (badO x fl) (inr (some [z34, .int .i64 173, .tup (withF s (new0 x fl)).m1, .tup s.m2, .tup s.m3, .tup s.m4])) (inl (some [.tup (withF s (new0 x fl)).m1, .tup s.m2, .tup s.m3, .tup s.m4, .pt 2 (some 0), x.av, z34, .pt 1 (some s.F.length)]))) _ = _
          cases hbad : badO x fl with
          | true =>
            rw [hbad, if_pos rfl] at h
            exact h
          | false =>
            rw [hbad, if_neg (by simp)] at h
            exact out_tail n (withF s (new0 x fl)) x s.F.length (new0 x fl) (ok.withF _) (withF_at _ _) hx r h _ rfl)
end Go.Proofs.YtldnpibpbbcjgaaDoor.Am
end

section
set_option linter.unusedVariables false
set_option linter.unusedSimpArgs false
namespace Go.Proofs.YtldnpibpbbcjgaaDoor.Am
open Go Go.Am Go.Proofs

theorem aft_inv {s : Tb} {P : Int → Bool} (hi : InvT s) : InvT (aft s P) := by
  have hsub : (aft s P).es.Sublist s.es := List.filter_sublist
  refine ⟨⟨(hsub.map _).nodup hi.born, fun e he => hi.lt e (hsub.subset he), fun e he => ?_⟩, (hsub.map _).nodup hi.ptrs, (hsub.map _).nodup hi.keys, (List.filter_sublist.map _).nodup hi.bkeys⟩
  obtain ⟨f, h1, h2⟩ := hi.ptr e (hsub.subset he)
  refine ⟨if hit s P e.2.2 then dec f else f, ?_, ?_⟩
  · show (aftF s P)[e.2.2]? = _
    unfold aftF
    rw [List.getElem?_mapIdx, h1]
    rfl
  · rw [← h2]
    split <;> rfl

theorem tick_ok {n : Nat} {s : Tb} (h : TickOk n s) : TickOk n (tickS s) := by
  have hl : (tickS s).es.length ≤ s.es.length := List.length_filter_le _ _
  exact ⟨aft_inv h.inv, Nat.lt_of_le_of_lt hl h.len, Nat.lt_of_le_of_lt hl h.sm⟩

def ticks : Nat → Tb → Tb
  | 0, s => s
  | k + 1, s => ticks k (tickS s)
theorem ticks_ok {n : Nat} : ∀ {k : Nat} {s : Tb}, TickOk n s → TickOk n (ticks k s)
  | 0, s, h => h
  | k + 1, s, h => ticks_ok (k := k) (tick_ok h)

theorem setFl_inv {s : Tb} {j : Nat} {f g : Flw} (hi : InvT s) (hf : s.F[j]? = some f) (ht : g.t = f.t) : InvT (setFl s j g) := by
  refine ⟨⟨hi.born, hi.lt, fun e he => ?_⟩, hi.ptrs, hi.keys, hi.bkeys⟩
  obtain ⟨h, h1, h2⟩ := hi.ptr e he
  by_cases hj : e.2.2 = j
  · subst hj
    rw [hf] at h1
    cases h1
    exact ⟨g, setFl_at hf, by rw [ht, h2]⟩
  · refine ⟨h, ?_, h2⟩
    show (s.F.set j g)[e.2.2]? = _
    rw [List.getElem?_set_ne (fun hh => hj hh.symm)]
    exact h1

theorem endS_inv {s : Tb} {f : Flw} (hi : InvT s) : InvT (endS s f) := by
  have h1 : (endS s f).es.Sublist s.es := by
    show (del f.t s.es).Sublist s.es
    rw [del_filter hi.keys]
    exact List.filter_sublist
  have h2 : (endS s f).bs.Sublist s.bs := by
    show (del _ s.bs).Sublist s.bs
    rw [del_filter hi.bkeys]
    exact List.filter_sublist
  refine ⟨⟨(h1.map _).nodup hi.born, fun e he => hi.lt e (h1.subset he), fun e he => hi.ptr e (h1.subset he)⟩, (h1.map _).nodup hi.ptrs, (h1.map _).nodup hi.keys, (h2.map _).nodup hi.bkeys⟩

theorem goes_inv {s s' : Tb} {j : Nat} {fl : Int} {b c : Bool} (hi : InvT s) (h : goes s j fl c = some (b, s')) : InvT s' := by
  unfold goes at h
  split at h
  · cases h
  · rename_i f hf
    split at h
    · split at h
      · cases h; exact endS_inv hi
      · split at h
        · split at h
          · cases h; exact hi
          · cases h; exact setFl_inv hi hf rfl
        · cases h
    · cases h; exact setFl_inv hi hf rfl
end Go.Proofs.YtldnpibpbbcjgaaDoor.Am
end

section
set_option linter.unusedVariables false
set_option linter.unusedSimpArgs false
namespace Go.Proofs.YtldnpibpbbcjgaaDoor.Am
open Go Go.Am Go.Proofs

structure Stp where
  kind : Int
  a : Int
  x : Tup
  fl : Int
  k : Int
deriving DecidableEq
def Stp.av (p : Stp) : AV := .agg [.int .i64 p.kind, .int .i64 p.a, p.x.av, .int .i64 p.fl, .int .i64 p.k]
def Stp.of (x : AV) : Stp := ⟨(x.item 0).toInt, (x.item 1).toInt, Tup.of (x.item 2), (x.item 3).toInt, (x.item 4).toInt⟩
theorem Stp.eta (x : AV) : eta s36 x = (Stp.of x).av := rfl
@[simp] theorem Stp.of_av (x : Stp) : Stp.of x.av = x := rfl

/-- How many ticks are still to come. -/
def more (p : Stp) (i : Int) : Nat := ((if p.k < 40 then p.k else 40) - i).toNat
theorem more_step {p : Stp} {i : Int} (h : i < p.k) (h2 : i < 40) : more p i = more p (i + 1) + 1 := by unfold more; split <;> omega
theorem more_end {p : Stp} {i : Int} (h : ¬ (i < p.k ∧ i < 40)) : more p i = 0 := by unfold more; split <;> omega

def encR (q : Stp × Tup × Tb) : List AV := .pt 2 (some 0) :: q.1.av :: q.2.1.av :: q.2.2.ms
def decR (l : List AV) : Stp × Tup × Tb := (Stp.of (getE l 1), Tup.of (getE l 2), Tb.of (l.drop 3))
theorem decR_enc (q : Stp × Tup × Tb) : decR (encR q) = q := by
  obtain ⟨p, x, s⟩ := q
  show (Stp.of p.av, Tup.of x.av, Tb.of s.ms) = _
  rw [Tb.of_ms]; rfl
open Classical in
/-- At steps that tick alone. -/
noncomputable def outR (n : Nat) (q : Stp × Tup × Tb) : Option (List AV) := if q.1.kind = 4 ∧ TickOk n q.2.2 ∧ 41 < n then some (q.2.1.av :: .bool false :: (ticks (more q.1 0) q.2.2).ms) else none
noncomputable def G14 : Fun := spec encR decR outR
theorem g14 (n : Nat) (p : Stp) (x : Tup) (s : Tb) (h : p.kind = 4) (ok : TickOk n s) (hn : 41 < n) : G14 n (.pt 2 (some 0) :: p.av :: x.av :: s.ms) = some (x.av :: .bool false :: (ticks (more p 0) s).ms) :=
  (spec_at (enc := encR) (p, x, s) (decR_enc _)).trans (if_pos ⟨h, ok, hn⟩)

theorem s14 : SoundCal Tryd.prog env 14 (mkCal D14 G14) := spec_ok (snd14 G11 G12 G13 G18 s11 s12 s13 s18) (fun n q r h => by
  obtain ⟨p, x, s⟩ := q
  unfold outR at h
  split at h
  case isFalse => cases h
  rename_i hh
  obtain ⟨hk, ok, hn⟩ := hh
  replace hk : p.kind = 4 := hk
  replace ok : TickOk n s := ok
  cases h
  refine (eq14 G11 G12 G13 G18 n (some 0) p.av x.av s.m1 s.m2 s.m3 s.m4).trans ?_
  have e4 : AV.toInt (AV.item p.av 0) = 4 := hk
  rw [e4]
  rw [brO_f (b := ((4 : Int) == 1)) rfl, brO_f (b := ((4 : Int) == 2)) rfl, brO_f (b := ((4 : Int) == 3)) rfl, brO_t (b := ((4 : Int) == 4)) rfl]
  let st (y : Int × Tb) : List AV := [.tup y.2.m1, .tup y.2.m2, .tup y.2.m3, .tup y.2.m4, .pt 2 (some 0), p.av, x.av, z34, .int .i64 y.1]
  let T : Tb := ticks (more p 0) s
  let rs : Sum (List AV) (List AV) := .inl [.tup T.m1, .tup T.m2, .tup T.m3, .tup T.m4, x.av, z34]
  refine (jn_l (d := [.tup T.m1, .tup T.m2, .tup T.m3, .tup T.m4, x.av, z34]) ?_).trans rfl
  refine iter_any st (fun y => more p y.1) (fun _ => rs) (fun y => 0 ≤ y.1 ∧ y.1 ≤ 40 ∧ TickOk n y.2 ∧ ticks (more p y.1) y.2 = T) (fun y k hg hkk => ?_) n (0, s) (by show more p 0 < n; unfold more; split <;> omega) ⟨by simp, by simp, ok, rfl⟩
  obtain ⟨i, t⟩ := y
  obtain ⟨h0, h40, hok, hT⟩ := hg
  dsimp only [st, ge0, ge1, ge2, ge3, ge4, ge5, ge6, ge7, ge8, tI, tB, tT, tV, tF, tM, tC, tP, tQ]
  show jn (brO (decide (i < p.k)) (brO (decide (i < 40)) (inl (some [.tup t.m1, .tup t.m2, .tup t.m3, .tup t.m4, .pt 2 (some 0), p.av, x.av, z34, .int .i64 i])) (inr (inl (some [.tup t.m1, .tup t.m2, .tup t.m3, .tup t.m4, x.av, z34])))) (inr (inl (some [.tup t.m1, .tup t.m2, .tup t.m3, .tup t.m4, x.av, z34])))) _ = _
  by_cases hc : i < p.k ∧ i < 40
  · rw [brO_t (decide_eq_true hc.1), brO_t (decide_eq_true hc.2)]
    show Option.bind (G18 n [.pt 2 (some 0), .tup t.m1, .tup t.m2, .tup t.m3, .tup t.m4]) _ = _
    rw [show G18 n [.pt 2 (some 0), .tup t.m1, .tup t.m2, .tup t.m3, .tup t.m4] = some (.int .i64 (cnt t fun _ => true : Nat) :: (tickS t).ms) from g18 n t hok]
    show k [.tup (tickS t).m1, .tup (tickS t).m2, .tup (tickS t).m3, .tup (tickS t).m4, .pt 2 (some 0), p.av, x.av, z34, .int .i64 (IntKind.wrap .i64 (i + 1))] = _
    rw [W_id (by omega) (by omega)]
    have hm := more_step hc.1 hc.2
    refine hkk (i + 1, tickS t) (by show more p (i + 1) < more p i; omega) ⟨by show 0 ≤ i + 1; omega, by show i + 1 ≤ 40; omega, tick_ok hok, ?_⟩
    rw [hm] at hT
    exact hT
  · have hT' : t = T := by
      rw [more_end hc] at hT
      exact hT
    subst hT'
    by_cases h1 : i < p.k
    · have h2 : ¬ i < 40 := fun h2 => hc ⟨h1, h2⟩
      rw [brO_t (decide_eq_true h1), brO_f (decide_eq_false h2)]
      rfl
    · rw [brO_f (decide_eq_false h1)]
      rfl)
end Go.Proofs.YtldnpibpbbcjgaaDoor.Am
end

section
set_option linter.unusedVariables false
set_option linter.unusedSimpArgs false
namespace Go.Proofs.YtldnpibpbbcjgaaDoor.Am
open Go Go.Am Go.Proofs

def cfg0 : Cfg := ⟨2, ⟨4, [192, 0, 2, 9, 0, 0, 0, 0, 0, 0, 0, 0, 0, 0, 0, 0]⟩, 1000, 1001, 2, 9, 3, 4, 1⟩
noncomputable def G20 : Fun := spec (fun _ : Unit => []) (fun _ => ()) fun _ _ => some [cfg0.av]
theorem g20 (n : Nat) : G20 n [] = some [cfg0.av] := spec_at (enc := fun _ : Unit => []) () rfl
theorem s20 : SoundCal Tryd.prog env 20 (mkCal D20 G20) := spec_ok snd20 (fun n p r h => by cases h; exact eq20 n)

def in4 (x : Int) : IP := ⟨4, [10, 0, 0, x, 0, 0, 0, 0, 0, 0, 0, 0, 0, 0, 0, 0]⟩
noncomputable def G36 : Fun := spec (fun x : Int => [.int .u8 x]) (fun l => (getE l 0).toInt) fun _ x => some [(in4 x).av]
theorem g36 (n : Nat) (x : Int) : G36 n [.int .u8 x] = some [(in4 x).av] := spec_at (enc := fun x : Int => [.int .u8 x]) x rfl
theorem s36_ : SoundCal Tryd.prog env 36 (mkCal D36 G36) := spec_ok snd36 (fun n x r h => by cases h; exact eq36 n x)

def askT : Tup := ⟨17, in4 1, ⟨4, [198, 51, 100, 7, 0, 0, 0, 0, 0, 0, 0, 0, 0, 0, 0, 0]⟩, 5000, 53⟩
noncomputable def G17 : Fun := spec (fun _ : Unit => []) (fun _ => ()) fun _ _ => some [askT.av]
theorem g17 (n : Nat) : G17 n [] = some [askT.av] := spec_at (enc := fun _ : Unit => []) () rfl
theorem s17 : SoundCal Tryd.prog env 17 (mkCal D17 G17) := spec_ok (snd17 G36 s36_) (fun n p r h => by
  cases h
  refine (eq17 G36 n).trans ?_
  rw [g36]
  rfl)

/-- A table with nothing in it. -/
def newT (c : Cfg) : Tb := ⟨c, [], [], 0, [], 0⟩
theorem newT_inv (c : Cfg) : InvT (newT c) := ⟨⟨List.nodup_nil, fun e h => (List.not_mem_nil h).elim, fun e h => (List.not_mem_nil h).elim⟩, List.nodup_nil, List.nodup_nil, List.nodup_nil⟩
end Go.Proofs.YtldnpibpbbcjgaaDoor.Am
end

section
set_option linter.unusedVariables false
set_option linter.unusedSimpArgs false
namespace Go.Proofs.YtldnpibpbbcjgaaDoor.Am
open Go Go.Am Go.Proofs

noncomputable def G38 (isOut : IP → Bool) : Fun := spec (fun t : IP => [t.av]) (fun l => IP.of (getE l 0)) fun n t => if 16 < n then some [.bool (isOut t)] else none
theorem g38 (isOut : IP → Bool) {n : Nat} (hn : 16 < n) (t : IP) : G38 isOut n [t.av] = some [.bool (isOut t)] := (spec_at (enc := fun t : IP => [t.av]) t rfl).trans (if_pos hn)

def ages (c : Cfg) : List Int := [c.syn, c.tcp, c.fin, c.udp, c.icmp]
structure CfgOk (isOut : IP → Bool) (c : Cfg) : Prop where
  max1 : 1 ≤ c.max
  max2 : c.max ≤ 4096
  out : isOut c.out = true
  lo : 1 ≤ c.lo
  lohi : c.lo ≤ c.hi
  hi : c.hi ≤ 65535
  ages : ∀ a ∈ ages c, 1 ≤ a ∧ a ≤ 1048576

open Classical in
noncomputable def outN (isOut : IP → Bool) (n : Nat) (c : Cfg) : Option (List AV) := if CfgOk isOut c ∧ 16 < n then some (.pt 2 (some 0) :: .int .i64 0 :: (newT c).ms) else none
def encN (c : Cfg) : List AV := [c.av, .tup [], .tup [], .tup [], .tup []]
noncomputable def G21 (isOut : IP → Bool) : Fun := spec encN (fun l => Cfg.of (getE l 0)) (outN isOut)
theorem g21 {isOut : IP → Bool} {n : Nat} {c : Cfg} (h : CfgOk isOut c) (hn : 16 < n) : G21 isOut n [c.av, .tup [], .tup [], .tup [], .tup []] = some (.pt 2 (some 0) :: .int .i64 0 :: (newT c).ms) :=
  (spec_at (enc := encN) c rfl).trans (if_pos ⟨h, hn⟩)

theorem s21 (isOut : IP → Bool) (s38 : SoundCal Tryd.prog env 38 (mkCal D38 (G38 isOut))) : SoundCal Tryd.prog env 21 (mkCal D21 (G21 isOut)) := spec_ok (snd21 (G38 isOut) s38) (fun n c r h => by
  unfold outN at h
  split at h
  case isFalse => cases h
  rename_i hh
  obtain ⟨ok, hn⟩ := hh
  cases h
  refine (eq21 (G38 isOut) n c.av [] [] [] []).trans ?_
  rw [show eta s24 (AV.item c.av 1) = c.out.av from rfl, g38 isOut hn]
  have step : ∀ {R : Type} (X : Option (Sum (List AV) (Sum (List AV) R))) (k1 : List AV → Option (Sum (List AV) R)) (k2 : List AV → Option R) (d : List AV) (r : Option R), X = some (.inl d) → jn (k1 d) k2 = r → jn (jn X k1) k2 = r := fun X k1 k2 d R h1 h2 => by rw [jn_l h1]; exact h2
  refine step _ _ _ [.tup [], .tup [], .tup [], .tup [], c.av, .bool false] _ ?_ ?_
  · show brO (decide (c.max < 1)) _ (brO (decide (c.max > 4096)) _ (brO (!(isOut c.out)) _ (brO (decide (c.lo < 1)) _ (brO (decide (c.lo > c.hi)) _ (inl (some [.tup [], .tup [], .tup [], .tup [], c.av, .bool (decide (c.hi > 65535))])))))) = _
    rw [brO_f (decide_eq_false (by have := ok.max1; omega)), brO_f (decide_eq_false (by have := ok.max2; omega)), brO_f (by rw [ok.out]; rfl), brO_f (decide_eq_false (by have := ok.lo; omega)), brO_f (decide_eq_false (by have := ok.lohi; omega)), decide_eq_false (by have := ok.hi; omega)]
    rfl
  · show jn (iter _ n [.tup [], .tup [], .tup [], .tup [], c.av, .arr .i64 5 (ages c), .int .i64 0]) _ = _
    let st (i : Nat) : List AV := [.tup [], .tup [], .tup [], .tup [], c.av, .arr .i64 5 (ages c), .int .i64 (i : Nat)]
    refine (jn_l (d := [.tup [], .tup [], .tup [], .tup [], c.av]) ?_).trans rfl
    refine iter_any st (fun i => 5 - i) (fun _ => (Sum.inl [.tup [], .tup [], .tup [], .tup [], c.av] : Sum (List AV) (List AV))) (fun i => i ≤ 5) (fun i k hi hk => ?_) n 0 (by show 5 - 0 < n; omega) (by simp)
    dsimp only [st, ge0, ge1, ge2, ge3, ge4, ge5, ge6, ge7, ge8, tI, tB, tT, tV, tF, tM, tC, tP, tQ]
    show brO (decide (((i : Nat) : Int) < 5)) (jn (brO (inR ((i : Nat) : Int) 5) (jn (brO (decide (getI (ages c) (Int.toNat ((i : Nat) : Int)) < 1)) _ (inl (some [.tup [], .tup [], .tup [], .tup [], c.av, .arr .i64 5 (ages c), .int .i64 (i : Nat), .bool (decide (getI (ages c) (Int.toNat ((i : Nat) : Int)) > 1048576))]))) _) _) _) _ = _
    by_cases h5 : i < 5
    · rw [brO_t (decide_eq_true (by omega)), brO_t (b := inR ((i : Nat) : Int) 5) (by unfold inR; simp; omega)]
      rw [Int.toNat_natCast]
      have ha : getI (ages c) i ∈ ages c := by
        unfold getI
        rw [List.getD_eq_getElem?_getD, List.getElem?_eq_getElem (by show i < 5; exact h5)]
        exact List.getElem_mem _
      obtain ⟨a1, a2⟩ := ok.ages _ ha
      rw [brO_f (decide_eq_false (by omega)), decide_eq_false (by omega)]
      show k [.tup [], .tup [], .tup [], .tup [], c.av, .arr .i64 5 (ages c), .int .i64 (IntKind.wrap .i64 (((i : Nat) : Int) + 1))] = _
      rw [W_id (by omega) (by omega)]
      exact hk (i + 1) (by show 5 - (i + 1) < 5 - i; omega) (by omega)
    · rw [brO_f (decide_eq_false (by omega))]
      rfl)
end Go.Proofs.YtldnpibpbbcjgaaDoor.Am
end

section
set_option linter.unusedVariables false
set_option linter.unusedSimpArgs false
namespace Go.Proofs.YtldnpibpbbcjgaaDoor.Am
open Go Go.Am Go.Proofs

def ageB (x : Int) : Bool := decide (x ≥ 1) && decide (x ≤ 1048576)
noncomputable def G40 : Fun := spec (fun x : Int => [.int .i64 x]) (fun l => (getE l 0).toInt) fun _ x => some [.bool (ageB x)]
theorem g40 (n : Nat) (x : Int) : G40 n [.int .i64 x] = some [.bool (ageB x)] := spec_at (enc := fun x : Int => [.int .i64 x]) x rfl
theorem s40 : SoundCal Tryd.prog env 40 (mkCal D40 G40) := spec_ok snd40 (fun n x r h => by
  cases h
  refine (eq40 n x).trans ?_
  unfold ageB
  cases decide (x ≥ 1) <;> rfl)

def widthI (x : IP) : Int := if x.v = 4 then 32 else 128
noncomputable def G77 : Fun := spec (fun t : IP => [t.av]) (fun l => IP.of (getE l 0)) fun _ t => some [.int .i64 (widthI t)]
theorem g77 (n : Nat) (t : IP) : G77 n [t.av] = some [.int .i64 (widthI t)] := spec_at (enc := fun t : IP => [t.av]) t rfl
theorem s77 : SoundCal Tryd.prog env 77 (mkCal D77 G77) := spec_ok snd77 (fun n t r h => by
  cases h
  refine (eq77 n t.av).trans ?_
  show brO (t.v == 4) _ _ = _
  unfold widthI
  by_cases h4 : t.v = 4
  · rw [brO_t (by simp [h4]), if_pos h4]
  · rw [brO_f (by simp [h4]), if_neg h4])

/-- Are all bytes from the i-th on zero? -/
def zeroFrom (a : List Int) (i : Nat) : Bool := (List.range 16).all fun j => !(Nat.ble i j) || getI a j == 0
theorem zeroFrom_iff (a : List Int) (i : Nat) : zeroFrom a i = true ↔ ∀ j, j < 16 → i ≤ j → getI a j = 0 := by
  unfold zeroFrom
  rw [List.all_eq_true]
  constructor
  · intro h j h1 h2
    have := h j (List.mem_range.2 h1)
    rw [Bool.or_eq_true] at this
    rcases this with h3 | h3
    · rw [Nat.ble_eq_true_of_le h2] at h3; cases h3
    · simpa using h3
  · intro h j hj
    rw [Bool.or_eq_true]
    by_cases h2 : i ≤ j
    · exact .inr (by simpa using h j (List.mem_range.1 hj) h2)
    · left
      cases hb : Nat.ble i j with
      | false => rfl
      | true => exact (h2 (Nat.le_of_ble_eq_true hb)).elim
theorem zeroFrom_step (a : List Int) {i : Nat} (h : i < 16) : zeroFrom a i = (getI a i == 0 && zeroFrom a (i + 1)) := by
  rw [Bool.eq_iff_iff, Bool.and_eq_true, zeroFrom_iff, zeroFrom_iff, beq_iff_eq]
  constructor
  · intro hh
    exact ⟨hh i h (Nat.le_refl _), fun j h1 h2 => hh j h1 (by omega)⟩
  · rintro ⟨h1, h2⟩ j h4 h3
    rcases Nat.lt_or_ge i j with h5 | h5
    · exact h2 j h4 h5
    · have : j = i := by omega
      subst this
      exact h1
theorem zeroFrom_end (a : List Int) {i : Nat} (h : ¬ i < 16) : zeroFrom a i = true := by
  rw [zeroFrom_iff]
  intro j h1 h2
  omega
def refValid (x : IP) : Bool := if x.v = 4 then zeroFrom x.a 4 else x.v == 6
noncomputable def G50 : Fun := spec (fun t : IP => [t.av]) (fun l => IP.of (getE l 0)) fun n t => if 13 < n then some [.bool (refValid t)] else none
theorem g50 {n : Nat} (hn : 13 < n) (t : IP) : G50 n [t.av] = some [.bool (refValid t)] := (spec_at (enc := fun t : IP => [t.av]) t rfl).trans (if_pos hn)
theorem s50 : SoundCal Tryd.prog env 50 (mkCal D50 G50) := spec_ok snd50 (fun n t r h => by
  split at h
  case isFalse => cases h
  rename_i hn
  cases h
  refine (eq50 n t.av).trans ?_
  show brO (t.v != 4) (some [AV.bool (t.v == 6)]) _ = _
  unfold refValid
  by_cases h4 : t.v = 4
  · rw [brO_f (by simp [h4]), if_pos h4]
    let st (i : Nat) : List AV := [t.av, .int .i64 (i : Nat)]
    let rs (i : Nat) : Sum (List AV) (List AV) := match zeroFrom t.a i with | true => .inl [] | false => .inr [.bool false]
    have fin : ∀ X : Option (Sum (List AV) (List AV)), X = some (rs 4) → jn X (fun d2 => some [AV.bool true]) = some [.bool (zeroFrom t.a 4)] := by
      intro X hX
      rw [hX]
      simp only [rs]
      cases zeroFrom t.a 4 <;> rfl
    refine fin _ ?_
    refine iter_any st (fun i => 16 - i) rs (fun i => i ≤ 16) (fun i k hi hk => ?_) n 4 (by show 16 - 4 < n; omega) (by omega)
    dsimp only [st, ge0, ge1, ge2, tI, tB]
    by_cases h5 : i < 16
    · refine (brO_t (decide_eq_true (by omega : ((i : Nat) : Int) < 16))).trans ?_
      refine (brO_t (b := inR ((i : Nat) : Int) 16) (by unfold inR; simp; omega)).trans ?_
      rw [Int.toNat_natCast]
      show brO (getI t.a i != 0) _ _ = _
      have hz := zeroFrom_step t.a h5
      by_cases h0 : getI t.a i = 0
      · rw [brO_f (by simp [h0])]
        show k [t.av, .int .i64 (IntKind.wrap .i64 (((i : Nat) : Int) + 1))] = _
        rw [W_id (by omega) (by omega)]
        have := hk (i + 1) (by show 16 - (i + 1) < 16 - i; omega) (by omega)
        refine Eq.trans this ?_
        simp only [rs]
        rw [hz]
        simp [h0]
      · rw [brO_t (by simp [h0])]
        simp only [rs]
        rw [hz, show (getI t.a i == 0) = false from by simpa using h0]
        rfl
    · refine (brO_f (decide_eq_false (by omega : ¬ ((i : Nat) : Int) < 16))).trans ?_
      simp only [rs]
      rw [zeroFrom_end t.a h5]
      rfl
  · rw [brO_t (by simp [h4]), if_neg h4])
end Go.Proofs.YtldnpibpbbcjgaaDoor.Am
end

section
set_option linter.unusedVariables false
set_option linter.unusedSimpArgs false
namespace Go.Proofs.YtldnpibpbbcjgaaDoor.Am
open Go Go.Am Go.Proofs

def pos (v : Int) : Int := match decide (v > 0) with | true => v | false => 0
def keep (v : Int) : Int := IntKind.wrap .u64 (match decide (pos v < 8) with | true => pos v | false => 8)
def mByte (b v : Int) : Int := IntKind.wrap .u8 (Int.ofNat (BitVec.toNat ((BitVec.ofInt 8 b) &&& (BitVec.ofInt 8 (IntKind.wrap .u8 (Int.fdiv 65280 (2 ^ (min (Int.toNat (keep v)) 64))))))))
theorem u64_nonneg (x : Int) : 0 ≤ IntKind.wrap .u64 x := by
  show 0 ≤ (if (false && decide (x % 18446744073709551616 ≥ 9223372036854775808)) = true then x % 18446744073709551616 - 18446744073709551616 else x % 18446744073709551616)
  rw [if_neg (by simp)]
  exact Int.emod_nonneg _ (by omega)
theorem keep_nonneg (v : Int) : 0 ≤ keep v := u64_nonneg _
/-- The bytes ahead of the i-th are masked, the others zero. -/
def mskTo (a : List Int) (bits : Int) (i : Nat) : List Int := (List.range 16).map fun j => if j < i then mByte (getI a j) (bits - 8 * (j : Nat)) else 0
theorem mskTo_set (a : List Int) (bits : Int) {i : Nat} (h : i < 16) : (mskTo a bits i).set i (mByte (getI a i) (bits - 8 * (i : Nat))) = mskTo a bits (i + 1) := by
  refine List.ext_getElem? (fun j => ?_)
  unfold mskTo
  rw [List.getElem?_set, List.getElem?_map, List.getElem?_map]
  by_cases hj : i = j
  · subst hj
    simp [h]
  · rw [if_neg hj]
    by_cases hr : j < 16
    · rw [List.getElem?_range hr]
      show some _ = some _
      have : (j < i) ↔ (j < i + 1) := by omega
      simp only [this]
    · simp [hr]

noncomputable def G63 : Fun := spec (fun p : List Int × Int => [.arr .u8 16 p.1, .int .i64 p.2]) (fun l => ((getE l 0).toInts, (getE l 1).toInt)) fun n p => if 16 < n ∧ 0 ≤ p.2 ∧ p.2 ≤ 128 then some [.arr .u8 16 (mskTo p.1 p.2 16)] else none
theorem g63 {n : Nat} {a : List Int} {b : Int} (hn : 16 < n) (h0 : 0 ≤ b) (h1 : b ≤ 128) : G63 n [.arr .u8 16 a, .int .i64 b] = some [.arr .u8 16 (mskTo a b 16)] :=
  (spec_at (enc := fun p : List Int × Int => [.arr .u8 16 p.1, .int .i64 p.2]) (a, b) rfl).trans (if_pos ⟨hn, h0, h1⟩)
theorem s63 : SoundCal Tryd.prog env 63 (mkCal D63 G63) := spec_ok snd63 (fun n p r h => by
  obtain ⟨a, b⟩ := p
  split at h
  case isFalse => cases h
  rename_i hh
  obtain ⟨hn, hb0, hb1⟩ := hh
  replace hb0 : 0 ≤ b := hb0
  replace hb1 : b ≤ 128 := hb1
  cases h
  refine (eq63 n a b).trans ?_
  let Z : List Int := [0, 0, 0, 0, 0, 0, 0, 0, 0, 0, 0, 0, 0, 0, 0, 0]
  let st (i : Nat) : List AV := [.int .i64 b, .arr .u8 16 a, .arr .u8 16 Z, .arr .u8 16 (mskTo a b i), .int .i64 (i : Nat)]
  refine (jn_l (d := [.arr .u8 16 Z, .arr .u8 16 (mskTo a b 16)]) ?_).trans rfl
  have hst : st 0 = [.int .i64 b, .arr .u8 16 a, .arr .u8 16 Z, .arr .u8 16 Z, .int .i64 0] := by
    show [AV.int .i64 b, .arr .u8 16 a, .arr .u8 16 Z, .arr .u8 16 (mskTo a b 0), .int .i64 0] = _
    have : mskTo a b 0 = Z := by unfold mskTo; simp [List.range, List.range.loop, Z]
    rw [this]
  refine Eq.trans (congrArg (iter _ n) hst.symm) ?_
  refine iter_any st (fun i => 16 - i) (fun _ => (Sum.inl [.arr .u8 16 Z, .arr .u8 16 (mskTo a b 16)] : Sum (List AV) (List AV))) (fun i => i ≤ 16) (fun i k hi hk => ?_) n 0 (by show 16 - 0 < n; omega) (by omega)
  dsimp only [st, ge0, ge1, ge2, ge3, ge4, tI, tB]
  by_cases h5 : i < 16
  · refine (brO_t (decide_eq_true (by omega : ((i : Nat) : Int) < 16))).trans ?_
    refine (brO_t (b := inR ((i : Nat) : Int) 16) (by unfold inR; simp; omega)).trans ?_
    simp only [W_id (x := 8 * ((i : Nat) : Int)) (by omega) (by omega), W_id (x := b - 8 * ((i : Nat) : Int)) (by omega) (by omega), W_id (x := ((i : Nat) : Int) + 1) (by omega) (by omega), Int.toNat_natCast]
    show brO (decide (0 ≤ keep (b - 8 * ((i : Nat) : Int)))) (brO (inR ((i : Nat) : Int) 16) (k [.int .i64 b, .arr .u8 16 a, .arr .u8 16 Z, .arr .u8 16 ((mskTo a b i).set i (mByte (getI a i) (b - 8 * ((i : Nat) : Int)))), .int .i64 (((i : Nat) : Int) + 1)]) none) none = _
    refine (brO_t (decide_eq_true (keep_nonneg _))).trans ?_
    refine (brO_t (b := inR ((i : Nat) : Int) 16) (by unfold inR; simp; omega)).trans ?_
    rw [mskTo_set a b h5]
    exact hk (i + 1) (by show 16 - (i + 1) < 16 - i; omega) (by omega)
  · refine (brO_f (decide_eq_false (by omega : ¬ ((i : Nat) : Int) < 16))).trans ?_
    have : i = 16 := by omega
    subst this
    rfl)
end Go.Proofs.YtldnpibpbbcjgaaDoor.Am
end

section
set_option linter.unusedVariables false
set_option linter.unusedSimpArgs false
namespace Go.Proofs.YtldnpibpbbcjgaaDoor.Am
open Go Go.Am Go.Proofs

def netV (i : Nat) : Int := AV.toInt (AV.item (getE netsL i) 0)
def netA (i : Nat) : List Int := AV.toInts (AV.item (getE netsL i) 1)
def netB (i : Nat) : Int := AV.toInt (AV.item (getE netsL i) 2)
def netC (i : Nat) : Int := AV.toInt (AV.item (getE netsL i) 3)
def netHas (x : IP) (i : Nat) : Bool := netV i == x.v && mskTo x.a (netB i) 16 == netA i
def netFnd (x : IP) : Nat → Nat → Option Int
  | 0, _ => none
  | k + 1, i => if netHas x i = true then some (netC i) else netFnd x k (i + 1)
def cls (x : IP) : Int := if valid x = true then (netFnd x 12 0).getD 7 else 0
theorem netB_ok : ∀ i, i < 12 → 0 ≤ netB i ∧ netB i ≤ 128 := by decide

noncomputable def G48n : Fun := spec (fun t : IP => [t.av]) (fun l => IP.of (getE l 0)) fun n t => if 16 < n then some [.int .i64 (cls t)] else none
theorem s48_ : SoundCal Tryd.prog env 48 (mkCal D48 G48n) := spec_ok (snd48 G49 G63 s49 s63) (fun n x r h => by
  split at h
  case isFalse => cases h
  rename_i hn
  cases h
  refine (eq48 G49 G63 n x.av).trans ?_
  rw [show eta s24 x.av = x.av from rfl, g49]
  show brO (!(valid x)) _ _ = _
  unfold cls
  cases hv : valid x with
  | false => rfl
  | true =>
    rw [brO_f (b := !true) rfl]
    simp only [if_true]
    let st (i : Nat) : List AV := [x.av, .agg netsL, .int .i64 (i : Nat)]
    let rs (i : Nat) : Sum (List AV) (List AV) := match netFnd x (12 - i) i with | some c => .inr [.int .i64 c] | none => .inl []
    have fin : ∀ X : Option (Sum (List AV) (List AV)), X = some (rs 0) → jn X (fun d6 => some [AV.int .i64 7]) = some [.int .i64 ((netFnd x 12 0).getD 7)] := by
      intro X hX
      rw [hX]
      simp only [rs]
      cases netFnd x (12 - 0) 0 <;> rfl
    refine fin _ ?_
    refine iter_any st (fun i => 12 - i) rs (fun i => i ≤ 12) (fun i k hi hk => ?_) n 0 (by show 12 - 0 < n; omega) (by omega)
    by_cases h5 : i < 12
    · have hB := netB_ok i h5
      show brO (decide (((i : Nat) : Int) < 12)) (jn (brO (inR ((i : Nat) : Int) 12) (jn (brO (netV (Int.toNat ((i : Nat) : Int)) == x.v) (Option.bind (G63 n [.arr .u8 16 x.a, .int .i64 (netB (Int.toNat ((i : Nat) : Int)))]) fun r3 => brO (Nat.beq (List.length r3) 1) (inl (some [x.av, eta s112 (getE netsL (Int.toNat ((i : Nat) : Int))), .agg netsL, .int .i64 (i : Nat), .bool (keq (.arr .u8 16 (AV.toInts (getE r3 0))) (.arr .u8 16 (netA (Int.toNat ((i : Nat) : Int)))))])) none) (inl (some [x.av, eta s112 (getE netsL (Int.toNat ((i : Nat) : Int))), .agg netsL, .int .i64 (i : Nat), .bool false]))) _) none) _) (inl (some [])) = _
      refine (brO_t (decide_eq_true (by omega : ((i : Nat) : Int) < 12))).trans ?_
      rw [brO_t (b := inR ((i : Nat) : Int) 12) (by unfold inR; simp; omega), Int.toNat_natCast, g63 hn hB.1 hB.2]
      have hq : ∀ l l' : List Int, keq (.arr .u8 16 l) (.arr .u8 16 l') = (l == l') := fun l l' => by
        show ((IntKind.u8 == IntKind.u8) && (Nat.beq 16 16 && (l == l'))) = _
        simp
      have e12 : 12 - i = (12 - (i + 1)) + 1 := by omega
      have go : netHas x i = false → k [x.av, .agg netsL, .int .i64 (IntKind.wrap .i64 (((i : Nat) : Int) + 1))] = some (rs i) := by
        intro hno
        rw [W_id (by omega) (by omega)]
        refine (hk (i + 1) (by show 12 - (i + 1) < 12 - i; omega) (by omega)).trans ?_
        simp only [rs]
        rw [e12]
        show _ = some (match (if netHas x i = true then some (netC i) else netFnd x (12 - (i + 1)) (i + 1)) with | some c => Sum.inr [AV.int .i64 c] | none => .inl [])
        rw [if_neg (by simp [hno])]
      cases hvv : (netV i == x.v) with
      | false => exact go (by unfold netHas; rw [hvv]; rfl)
      | true =>
        rw [brO_t (b := true) rfl, Option.bind_some, brO_t (b := Nat.beq _ 1) rfl]
        show jn (jn (inl (some [x.av, eta s112 (getE netsL i), .agg netsL, .int .i64 (i : Nat), .bool (keq (.arr .u8 16 (mskTo x.a (netB i) 16)) (.arr .u8 16 (netA i)))])) _) _ = _
        rw [hq]
        cases hm : (mskTo x.a (netB i) 16 == netA i) with
        | false => exact go (by unfold netHas; rw [hvv, hm]; rfl)
        | true =>
          have hh : netHas x i = true := by unfold netHas; rw [hvv, hm]; rfl
          show some (Sum.inr [AV.int .i64 (netC i)]) = some (rs i)
          simp only [rs]
          rw [e12]
          show _ = some (match (if netHas x i = true then some (netC i) else netFnd x (12 - (i + 1)) (i + 1)) with | some c => Sum.inr [AV.int .i64 c] | none => .inl [])
          rw [if_pos hh]
    · refine (brO_f (decide_eq_false (by omega : ¬ ((i : Nat) : Int) < 12))).trans ?_
      simp only [rs]
      have : 12 - i = 0 := by omega
      rw [this]
      rfl)

theorem g48 {n : Nat} (hn : 16 < n) (t : IP) : G48n n [t.av] = some [.int .i64 (cls t)] := (spec_at (enc := fun t : IP => [t.av]) t rfl).trans (if_pos hn)
def outB (x : IP) : Bool := valid x && (x.v == 4 && (cls x == 7 || cls x == 4))
theorem s38_ : SoundCal Tryd.prog env 38 (mkCal D38 (G38 outB)) := spec_ok (snd38 G48n G49 s48_ s49) (fun n t r h => by
  split at h
  case isFalse => cases h
  rename_i hn
  cases h
  refine (eq38 G48n G49 n t.av).trans ?_
  rw [show eta s24 t.av = t.av from rfl, g48 hn, g49]
  show brO (valid t) (brO (t.v == 4) (brO (cls t == 7) _ (some [AV.bool (cls t == 4)])) _) _ = _
  unfold outB
  cases valid t <;> cases (t.v == 4) <;> cases (cls t == 7) <;> rfl)
theorem s21_ : SoundCal Tryd.prog env 21 (mkCal D21 (G21 outB)) := s21 outB s38_
end Go.Proofs.YtldnpibpbbcjgaaDoor.Am
end

section
set_option linter.unusedVariables false
namespace Go.Proofs.YtldnpibpbbcjgaaDoor.Am
open Go Go.Am Go.Proofs

section
variable {R : Type}
@[simp] theorem r_get0 (x : AV) (l : List AV) : getE (x :: l) 0 = x := rfl
@[simp] theorem r_getS (x : AV) (l : List AV) (n : Nat) : getE (x :: l) (n + 1) = getE l n := rfl
@[simp] theorem r_item (l : List AV) (i : Nat) : AV.item (.agg l) i = getE l i := rfl
@[simp] theorem r_int (k : IntKind) (x : Int) : AV.toInt (.int k x) = x := rfl
@[simp] theorem r_bool (b : Bool) : AV.toBool (.bool b) = b := rfl
@[simp] theorem r_str (l : List UInt8) : AV.toStr (.str l) = l := rfl
@[simp] theorem r_tup (l : List AV) : AV.toElems (.tup l) = l := rfl
@[simp] theorem r_fv (s : Sh) (l : List AV) : AV.toElems (.fv s l) = l := rfl
@[simp] theorem r_fs (k : IntKind) (l : List Int) : AV.toInts (.fs k l) = l := rfl
@[simp] theorem r_arr (k : IntKind) (n : Nat) (l : List Int) : AV.toInts (.arr k n l) = l := rfl
@[simp] theorem r_pt (f : Nat) (o : Option Nat) : AV.toPt (.pt f o) = o := rfl
@[simp] theorem r_mp (f : Nat) (o : Option Nat) : AV.toPt (.mp f o) = o := rfl
@[simp] theorem r_mc (l : List AV) (c : Int) : AV.ments (.mc l c) = l := rfl
@[simp] theorem r_mk (l : List AV) (c : Int) : AV.mclk (.mc l c) = c := rfl
@[simp] theorem r_brt (x y : Option R) : brO true x y = x := rfl
@[simp] theorem r_brf (x y : Option R) : brO false x y = y := rfl
@[simp] theorem r_inl (d : List AV) : inl (R := R) (some d) = some (.inl d) := rfl
@[simp] theorem r_inln : inl (R := R) none = none := rfl
@[simp] theorem r_inr (r : R) : inr (some r) = some (.inr r) := rfl
@[simp] theorem r_inrn : inr (R := R) none = none := rfl
@[simp] theorem r_jnl (d : List AV) (k : List AV → Option R) : jn (some (.inl d)) k = k d := rfl
@[simp] theorem r_jnr (r : R) (k : List AV → Option R) : jn (some (.inr r)) k = some r := rfl
@[simp] theorem r_jnn (k : List AV → Option R) : jn none k = none := rfl
@[simp] theorem r_beq (n : Nat) : Nat.beq n n = true := Nat.beq_refl n
@[simp] theorem r_beqS (n m : Nat) : Nat.beq (n + 1) (m + 1) = Nat.beq n m := rfl
end

@[simp] theorem r_ip0 (x : IP) : AV.item x.av 0 = .int .i64 x.v := rfl
@[simp] theorem r_ip1 (x : IP) : AV.item x.av 1 = .arr .u8 16 x.a := rfl
@[simp] theorem r_ipe (x : IP) : eta s24 x.av = x.av := rfl
@[simp] theorem r_tu0 (x : Tup) : AV.item x.av 0 = .int .i64 x.p := rfl
@[simp] theorem r_tu1 (x : Tup) : AV.item x.av 1 = x.s.av := rfl
@[simp] theorem r_tu2 (x : Tup) : AV.item x.av 2 = x.d.av := rfl
@[simp] theorem r_tu3 (x : Tup) : AV.item x.av 3 = .int .i64 x.sp := rfl
@[simp] theorem r_tu4 (x : Tup) : AV.item x.av 4 = .int .i64 x.dp := rfl
@[simp] theorem r_tue (x : Tup) : eta s34 x.av = x.av := rfl
@[simp] theorem r_fl0 (x : Flw) : AV.item x.av 0 = x.t.av := rfl
@[simp] theorem r_fl1 (x : Flw) : AV.item x.av 1 = .int .i64 x.port := rfl
@[simp] theorem r_fl2 (x : Flw) : AV.item x.av 2 = .int .i64 x.st := rfl
@[simp] theorem r_fl3 (x : Flw) : AV.item x.av 3 = .int .i64 x.left := rfl
@[simp] theorem r_fle (x : Flw) : eta s48 x.av = x.av := rfl
@[simp] theorem r_cf0 (x : Cfg) : AV.item x.av 0 = .int .i64 x.max := rfl
@[simp] theorem r_cf1 (x : Cfg) : AV.item x.av 1 = x.out.av := rfl
@[simp] theorem r_cf2 (x : Cfg) : AV.item x.av 2 = .int .i64 x.lo := rfl
@[simp] theorem r_cf3 (x : Cfg) : AV.item x.av 3 = .int .i64 x.hi := rfl
@[simp] theorem r_cf4 (x : Cfg) : AV.item x.av 4 = .int .i64 x.syn := rfl
@[simp] theorem r_cf5 (x : Cfg) : AV.item x.av 5 = .int .i64 x.tcp := rfl
@[simp] theorem r_cf6 (x : Cfg) : AV.item x.av 6 = .int .i64 x.fin := rfl
@[simp] theorem r_cf7 (x : Cfg) : AV.item x.av 7 = .int .i64 x.udp := rfl
@[simp] theorem r_cf8 (x : Cfg) : AV.item x.av 8 = .int .i64 x.icmp := rfl
@[simp] theorem r_cfe (x : Cfg) : eta s26 x.av = x.av := rfl
@[simp] theorem r_st0 (x : Stp) : AV.item x.av 0 = .int .i64 x.kind := rfl
@[simp] theorem r_st1 (x : Stp) : AV.item x.av 1 = .int .i64 x.a := rfl
@[simp] theorem r_st2 (x : Stp) : AV.item x.av 2 = x.x.av := rfl
@[simp] theorem r_st3 (x : Stp) : AV.item x.av 3 = .int .i64 x.fl := rfl
@[simp] theorem r_st4 (x : Stp) : AV.item x.av 4 = .int .i64 x.k := rfl
@[simp] theorem r_ste (x : Stp) : eta s36 x.av = x.av := rfl

/-- Rounds that come to an end, by what holds behind them. -/
theorem iter_post {R σ : Type} {g : List AV → (List AV → Option R) → Option R} (enc : σ → List AV) (μ : σ → Nat) (Good : σ → Prop) (Post : Option R → Prop)
    (hstep : ∀ x k, Good x → (∀ y, μ y < μ x → Good y → Post (k (enc y))) → Post (g (enc x) k)) : ∀ n x, μ x < n → Good x → Post (iter g n (enc x)) := by
  intro n
  induction n with
  | zero => intro x h; omega
  | succ n ih =>
    intro x h hg
    exact hstep x (iter g n) hg (fun y hy hgy => ih y (by omega) hgy)
end Go.Proofs.YtldnpibpbbcjgaaDoor.Am
end

section
set_option linter.unusedVariables false
namespace Go.Proofs.YtldnpibpbbcjgaaDoor.Am
open Go Go.Am Go.Proofs

section
variable {R : Type}
@[simp] theorem r_brdt {p : Prop} {i : Decidable p} (h : p) (x y : Option R) : brO (@decide p i) x y = x := by rw [decide_eq_true h]; rfl
@[simp] theorem r_brdf {p : Prop} {i : Decidable p} (h : ¬ p) (x y : Option R) : brO (@decide p i) x y = y := by rw [decide_eq_false h]; rfl
end
end Go.Proofs.YtldnpibpbbcjgaaDoor.Am
end

section
set_option linter.unusedVariables false
set_option linter.unusedSimpArgs false
namespace Go.Proofs.YtldnpibpbbcjgaaDoor.Am
open Go Go.Am Go.Proofs

/-! Entries by their keys. -/
section
variable {β : Type}
theorem fnd_some {k : Tup} {v : β} : ∀ {l : List (Int × Tup × β)}, (l.map fun e => e.2.1).Nodup → (fnd k l = some v ↔ ∃ e ∈ l, e.2.1 = k ∧ e.2.2 = v)
  | [], _ => by simp [fnd]
  | e :: r, hn => by
    rw [List.map_cons, List.nodup_cons] at hn
    show (if k = e.2.1 then some e.2.2 else fnd k r) = some v ↔ _
    by_cases h : k = e.2.1
    · rw [if_pos h]
      constructor
      · intro h2; exact ⟨e, by simp, h.symm, by simpa using h2⟩
      · rintro ⟨x, hx, h3, h4⟩
        rcases List.mem_cons.1 hx with rfl | hx
        · rw [h4]
        · exact (hn.1 (by rw [← h, ← h3]; exact List.mem_map.2 ⟨x, hx, rfl⟩)).elim
    · rw [if_neg h, fnd_some hn.2]
      constructor
      · rintro ⟨x, hx, h3⟩; exact ⟨x, by simp [hx], h3⟩
      · rintro ⟨x, hx, h3, h4⟩
        rcases List.mem_cons.1 hx with rfl | hx
        · exact (h h3.symm).elim
        · exact ⟨x, hx, h3, h4⟩
theorem fnd_none {k : Tup} : ∀ {l : List (Int × Tup × β)}, (fnd k l = none ↔ ∀ e ∈ l, e.2.1 ≠ k)
  | [] => by simp [fnd]
  | e :: r => by
    show (if k = e.2.1 then some e.2.2 else fnd k r) = none ↔ _
    by_cases h : k = e.2.1
    · rw [if_pos h]; simp [h]
    · rw [if_neg h, fnd_none]
      constructor
      · intro h2 x hx
        rcases List.mem_cons.1 hx with rfl | hx
        · exact fun h3 => h h3.symm
        · exact h2 x hx
      · intro h2 x hx; exact h2 x (by simp [hx])
theorem fnd_filter {k : Tup} {v : β} {l : List (Int × Tup × β)} {p : Int × Tup × β → Bool} (hn : (l.map fun e => e.2.1).Nodup) : fnd k (l.filter p) = some v ↔ ∃ e ∈ l, e.2.1 = k ∧ e.2.2 = v ∧ p e = true := by
  rw [fnd_some ((List.filter_sublist.map _).nodup hn)]
  constructor
  · rintro ⟨e, h1, h2, h3⟩; exact ⟨e, (List.mem_filter.1 h1).1, h2, h3, (List.mem_filter.1 h1).2⟩
  · rintro ⟨e, h1, h2, h3, h4⟩; exact ⟨e, List.mem_filter.2 ⟨h1, h4⟩, h2, h3⟩
theorem fnd_del {k q : Tup} {v : β} {l : List (Int × Tup × β)} (hn : (l.map fun e => e.2.1).Nodup) : fnd k (del q l) = some v ↔ fnd k l = some v ∧ k ≠ q := by
  rw [del_filter hn, fnd_filter hn, fnd_some hn]
  constructor
  · rintro ⟨e, h1, h2, h3, h4⟩
    exact ⟨⟨e, h1, h2, h3⟩, fun h => by subst h2; simp [h] at h4⟩
  · rintro ⟨⟨e, h1, h2, h3⟩, h4⟩
    exact ⟨e, h1, h2, h3, by subst h2; simp; exact fun h => h4 h.symm⟩
theorem fnd_app {k q : Tup} {v : β} {l : List (Int × Tup × β)} {c : Int} (hq : fnd q l = none) : ∀ x, fnd x (l ++ [(c, q, v)]) = if x = q then some v else fnd x l := by
  intro x
  induction l with
  | nil => rfl
  | cons e r ih =>
    have h1 := fnd_none.1 hq e (by simp)
    have h2 : fnd q r = none := fnd_none.2 (fun y hy => fnd_none.1 hq y (by simp [hy]))
    show (if x = e.2.1 then some e.2.2 else fnd x (r ++ [(c, q, v)])) = if x = q then some v else (if x = e.2.1 then some e.2.2 else fnd x r)
    rw [ih h2]
    by_cases hx : x = q
    · subst hx
      rw [if_neg (fun h => h1 h.symm), if_pos rfl, if_pos rfl]
    · rw [if_neg hx, if_neg hx]
end

/-- The flow is there. -/
def Has (s : Tb) (f : Flw) : Prop := ∃ e ∈ s.es, s.F[e.2.2]? = some f

structure FlOk (c : Cfg) (f : Flw) : Prop where
  ok : judge f.t = 0
  l1 : 1 ≤ f.left
  l2 : f.left ≤ 1048576
  st1 : 1 ≤ f.st
  st2 : f.st ≤ 7
  tcp : f.t.p = 6 ↔ f.st ≠ 7
  p4 : f.t.s.v = 4 → c.lo ≤ f.port ∧ f.port ≤ c.hi
  p6 : f.t.s.v ≠ 4 → f.port = f.t.sp

structure Wf (c : Cfg) (s : Tb) : Prop where
  cfg : s.c = c
  inv : InvT s
  blt : ∀ b ∈ s.bs, b.1 < s.bk
  len : (s.es.length : Int) ≤ c.max
  fl : ∀ f, Has s f → FlOk c f
  port : ∀ f g, Has s f → Has s g → f.t.s.v = 4 → g.t.s.v = 4 → f.t.p = g.t.p → f.port = g.port → f.t = g.t
  back : ∀ k t, fnd k s.bs = some t ↔ ∃ f, Has s f ∧ f.t = t ∧ rev (out_ c f) = k

section
variable {s : Tb} {f g : Flw} {c : Cfg}
theorem has_key (hi : InvT s) (h : Has s f) : ∃ e ∈ s.es, s.F[e.2.2]? = some f ∧ e.2.1 = f.t := by
  obtain ⟨e, h1, h2⟩ := h
  obtain ⟨g, h3, h4⟩ := hi.ptr e h1
  rw [h2] at h3
  cases h3
  exact ⟨e, h1, h2, h4.symm⟩
theorem has_fnd (hi : InvT s) : Has s f ↔ ∃ j, fnd f.t s.es = some j ∧ s.F[j]? = some f := by
  constructor
  · intro h
    obtain ⟨e, h1, h2, h3⟩ := has_key hi h
    exact ⟨e.2.2, (fnd_some hi.keys).2 ⟨e, h1, h3, rfl⟩, h2⟩
  · rintro ⟨j, h1, h2⟩
    obtain ⟨e, h3, h4, h5⟩ := (fnd_some hi.keys).1 h1
    exact ⟨e, h3, by rw [h5]; exact h2⟩
theorem has_inj (hi : InvT s) (h : Has s f) (h' : Has s g) (ht : f.t = g.t) : f = g := by
  obtain ⟨j, h1, h2⟩ := (has_fnd hi).1 h
  obtain ⟨k, h3, h4⟩ := (has_fnd hi).1 h'
  rw [ht, h3] at h1
  cases h1
  rw [h4] at h2
  cases h2
  rfl
theorem fnd_has (hi : InvT s) {x : Tup} {j : Nat} (h : fnd x s.es = some j) : ∃ f, s.F[j]? = some f ∧ f.t = x ∧ Has s f := by
  obtain ⟨e, h1, h2, h3⟩ := (fnd_some hi.keys).1 h
  obtain ⟨f, h4, h5⟩ := hi.ptr e h1
  exact ⟨f, by rw [← h3]; exact h4, by rw [h5, h2], e, h1, h4⟩
theorem fnd_no (hi : InvT s) {x : Tup} (h : fnd x s.es = none) (hf : Has s f) : f.t ≠ x := by
  obtain ⟨e, h1, h2, h3⟩ := has_key hi hf
  rw [← h3]
  exact fnd_none.1 h e h1

theorem rev_rev (x : Tup) : rev (rev x) = x := rfl
theorem rev_inj {x y : Tup} (h : rev x = rev y) : x = y := by rw [← rev_rev x, h, rev_rev]

theorem out_inj (ho : c.out.v = 4) (hp : ∀ f g, Has s f → Has s g → f.t.s.v = 4 → g.t.s.v = 4 → f.t.p = g.t.p → f.port = g.port → f.t = g.t) (h6 : ∀ f, Has s f → f.t.s.v ≠ 4 → f.port = f.t.sp) (hf : Has s f) (hg : Has s g) (h : out_ c f = out_ c g) : f.t = g.t := by
  have e := h
  unfold out_ at h
  rw [Tup.mk.injEq] at h
  obtain ⟨h1, h2, h3, h4, h5⟩ := h
  by_cases hf4 : f.t.s.v = 4
  · by_cases hg4 : g.t.s.v = 4
    · exact hp f g hf hg hf4 hg4 h1 h4
    · rw [if_pos hf4, if_neg hg4] at h2
      exact (hg4 (by rw [← h2]; exact ho)).elim
  · by_cases hg4 : g.t.s.v = 4
    · rw [if_neg hf4, if_pos hg4] at h2
      exact (hf4 (by rw [h2]; exact ho)).elim
    · rw [if_neg hf4, if_neg hg4] at h2
      rw [h6 f hf hf4, h6 g hg hg4] at h4
      cases hft : f.t
      cases hgt : g.t
      rw [hft, hgt] at h1 h2 h3 h4 h5
      rw [Tup.mk.injEq]
      exact ⟨h1, h2, h3, h4, h5⟩
theorem Wf.outI (h : Wf c s) (ho : c.out.v = 4) (hf : Has s f) (hg : Has s g) (he : out_ c f = out_ c g) : f.t = g.t :=
  out_inj ho h.port (fun f hf => (h.fl f hf).p6) hf hg he

/-! A flow ends. -/
theorem has_end (hi : InvT s) : Has (endS s f) g ↔ Has s g ∧ g.t ≠ f.t := by
  constructor
  · rintro ⟨e, h1, h2⟩
    replace h1 : e ∈ del f.t s.es := h1
    rw [del_filter hi.keys, List.mem_filter] at h1
    obtain ⟨h1, h3⟩ := h1
    refine ⟨⟨e, h1, h2⟩, ?_⟩
    obtain ⟨g', h4, h5⟩ := hi.ptr e h1
    replace h2 : s.F[e.2.2]? = some g := h2
    rw [h2] at h4
    cases h4
    rw [h5]
    intro h6
    simp [h6] at h3
  · rintro ⟨h, hne⟩
    obtain ⟨e, h1, h2, h3⟩ := has_key hi h
    refine ⟨e, ?_, h2⟩
    show e ∈ del f.t s.es
    rw [del_filter hi.keys, List.mem_filter]
    refine ⟨h1, ?_⟩
    rw [h3]
    simpa using fun h => hne h.symm
theorem Wf.endS (h : Wf c s) (ho : c.out.v = 4) (hf : Has s f) : Wf c (endS s f) := by
  have hs : ∀ g, Has (Am.endS s f) g → Has s g := fun g hg => ((has_end h.inv).1 hg).1
  refine ⟨h.cfg, endS_inv h.inv, fun b hb => ?_, ?_, fun g hg => h.fl g (hs g hg), fun a b ha hb => h.port a b (hs a ha) (hs b hb), fun k t => ?_⟩
  · replace hb : b ∈ del (rev (out_ s.c f)) s.bs := hb
    rw [del_filter h.inv.bkeys] at hb
    exact h.blt b (List.mem_filter.1 hb).1
  · have : (Am.endS s f).es.length ≤ s.es.length := by
      show (del f.t s.es).length ≤ _
      rw [del_filter h.inv.keys]
      exact List.length_filter_le _ _
    have := h.len
    omega
  · show fnd k (del (rev (out_ s.c f)) s.bs) = some t ↔ _
    rw [fnd_del h.inv.bkeys, h.back, h.cfg]
    constructor
    · rintro ⟨⟨g, h1, h2, h3⟩, h4⟩
      refine ⟨g, (has_end h.inv).2 ⟨h1, fun h5 => h4 ?_⟩, h2, h3⟩
      rw [← h3, has_inj h.inv h1 hf h5]
    · rintro ⟨g, h1, h2, h3⟩
      obtain ⟨h4, h5⟩ := (has_end h.inv).1 h1
      refine ⟨⟨g, h4, h2, h3⟩, fun h6 => h5 (h.outI ho h4 hf (rev_inj (by rw [h3, h6])))⟩

/-! A flow is another. -/
theorem has_set (hi : InvT s) {j : Nat} (hj : fnd f.t s.es = some j) (hf : s.F[j]? = some f) {h : Flw} : Has (setFl s j g) h ↔ (Has s h ∧ h.t ≠ f.t) ∨ h = g := by
  obtain ⟨e0, h01, h02, h03⟩ := (fnd_some hi.keys).1 hj
  subst h03
  constructor
  · rintro ⟨e, h1, h2⟩
    replace h1 : e ∈ s.es := h1
    by_cases he : e.2.2 = e0.2.2
    · right
      rw [he, setFl_at hf] at h2
      cases h2
      rfl
    · left
      replace h2 : (s.F.set e0.2.2 g)[e.2.2]? = some h := h2
      rw [List.getElem?_set_ne (fun hh => he hh.symm)] at h2
      refine ⟨⟨e, h1, h2⟩, fun ht => ?_⟩
      obtain ⟨g', h4, h5⟩ := hi.ptr e h1
      rw [h2] at h4
      cases h4
      have : e = e0 := inj_map hi.keys h1 h01 (by rw [← h5, ht, h02])
      rw [this] at he
      exact he rfl
  · rintro (⟨hh, hne⟩ | rfl)
    · obtain ⟨e, h1, h2, h3⟩ := has_key hi hh
      refine ⟨e, h1, ?_⟩
      show (s.F.set e0.2.2 g)[e.2.2]? = some h
      rw [List.getElem?_set_ne (fun hh => ?_)]
      · exact h2
      · rw [← hh, hf] at h2
        cases h2
        exact hne rfl
    · exact ⟨e0, h01, setFl_at hf⟩
theorem Wf.setFl (h : Wf c s) {j : Nat} (hj : fnd f.t s.es = some j) (hf : s.F[j]? = some f) (ht : g.t = f.t) (hp : g.port = f.port) (hg : FlOk c g) : Wf c (setFl s j g) := by
  have hhf : Has s f := (has_fnd h.inv).2 ⟨j, hj, hf⟩
  have hs : ∀ k, Has (Am.setFl s j g) k → ∃ k', Has s k' ∧ k'.t = k.t ∧ k'.port = k.port := fun k hk => by
    rcases (has_set h.inv hj hf).1 hk with h1 | rfl
    · exact ⟨k, h1.1, rfl, rfl⟩
    · exact ⟨f, hhf, ht.symm, hp.symm⟩
  refine ⟨h.cfg, setFl_inv h.inv hf ht, h.blt, h.len, fun k hk => ?_, fun a b ha hb h1 h2 h3 h4 => ?_, fun k t => ?_⟩
  · rcases (has_set h.inv hj hf).1 hk with h1 | rfl
    · exact h.fl k h1.1
    · exact hg
  · obtain ⟨a', a1, a2, a3⟩ := hs a ha
    obtain ⟨b', b1, b2, b3⟩ := hs b hb
    rw [← a2, ← b2]
    exact h.port a' b' a1 b1 (by rw [a2]; exact h1) (by rw [b2]; exact h2) (by rw [a2, b2]; exact h3) (by rw [a3, b3]; exact h4)
  · rw [show (Am.setFl s j g).bs = s.bs from rfl, h.back]
    have ho : ∀ a b : Flw, a.t = b.t → a.port = b.port → out_ c a = out_ c b := fun a b h1 h2 => by unfold out_; rw [h1, h2]
    constructor
    · rintro ⟨k', h1, h2, h3⟩
      by_cases hk : k'.t = f.t
      · exact ⟨g, (has_set h.inv hj hf).2 (.inr rfl), by rw [ht, ← hk, h2], by rw [← h3, has_inj h.inv h1 hhf hk, ho g f ht hp]⟩
      · exact ⟨k', (has_set h.inv hj hf).2 (.inl ⟨h1, hk⟩), h2, h3⟩
    · rintro ⟨k', h1, h2, h3⟩
      obtain ⟨k2, h4, h5, h6⟩ := hs k' h1
      exact ⟨k2, h4, by rw [h5, h2], by rw [ho k2 k' h5 h6, h3]⟩

/-! A flow more. -/
def addS (s : Tb) (c : Cfg) (f : Flw) : Tb := { s with F := s.F ++ [f], es := addE s.es s.ck f.t s.F.length, ck := s.ck + 1, bs := addB s.bs s.bk (rev (out_ c f)) f.t, bk := s.bk + 1 }
theorem has_add (hi : InvT s) {h : Flw} : Has (addS s c f) h ↔ Has s h ∨ h = f := by
  constructor
  · rintro ⟨e, h1, h2⟩
    replace h1 : e ∈ s.es ++ [(s.ck, f.t, s.F.length)] := h1
    replace h2 : (s.F ++ [f])[e.2.2]? = some h := h2
    rcases List.mem_append.1 h1 with h1 | h1
    · left
      obtain ⟨g', h4, h5⟩ := hi.ptr e h1
      rw [List.getElem?_append_left (List.getElem?_eq_some_iff.1 h4).1] at h2
      exact ⟨e, h1, h2⟩
    · right
      rw [List.mem_singleton.1 h1] at h2
      simp at h2
      exact h2.symm
  · rintro (⟨e, h1, h2⟩ | rfl)
    · refine ⟨e, List.mem_append.2 (.inl h1), ?_⟩
      show (s.F ++ [f])[e.2.2]? = some h
      rw [List.getElem?_append_left (List.getElem?_eq_some_iff.1 h2).1]
      exact h2
    · exact ⟨(s.ck, h.t, s.F.length), List.mem_append.2 (.inr (by simp)), by show (s.F ++ [h])[s.F.length]? = some h; simp⟩
theorem nodup_snoc {α γ : Type} {φ : α → γ} {l : List α} {x : α} (h : (l.map φ).Nodup) (hx : ∀ y ∈ l, φ y ≠ φ x) : ((l ++ [x]).map φ).Nodup := by
  rw [List.map_append, List.nodup_append]
  refine ⟨h, by simp, ?_⟩
  intro a ha b hb
  simp at hb
  subst hb
  obtain ⟨y, hy, rfl⟩ := List.mem_map.1 ha
  exact hx y hy
theorem addS_inv (hi : InvT s) (hblt : ∀ b ∈ s.bs, b.1 < s.bk) (hx : fnd f.t s.es = none) (hb : fnd (rev (out_ c f)) s.bs = none) : InvT (addS s c f) ∧ ∀ b ∈ (addS s c f).bs, b.1 < (addS s c f).bk := by
  refine ⟨⟨⟨nodup_snoc hi.born (fun y hy => by have := hi.lt y hy; show y.1 ≠ s.ck; omega), fun e he => ?_, fun e he => ?_⟩, nodup_snoc hi.ptrs (fun y hy => ?_), nodup_snoc hi.keys (fun y hy => fnd_none.1 hx y hy), nodup_snoc hi.bkeys (fun y hy => fnd_none.1 hb y hy)⟩, fun b hb => ?_⟩
  · replace he : e ∈ s.es ++ [(s.ck, f.t, s.F.length)] := he
    show e.1 < s.ck + 1
    rcases List.mem_append.1 he with he | he
    · have := hi.lt e he; omega
    · rw [List.mem_singleton.1 he]; show s.ck < _; omega
  · replace he : e ∈ s.es ++ [(s.ck, f.t, s.F.length)] := he
    show ∃ g, (s.F ++ [f])[e.2.2]? = some g ∧ _
    rcases List.mem_append.1 he with he | he
    · obtain ⟨g', h4, h5⟩ := hi.ptr e he
      exact ⟨g', by rw [List.getElem?_append_left (List.getElem?_eq_some_iff.1 h4).1]; exact h4, h5⟩
    · rw [List.mem_singleton.1 he]
      exact ⟨f, by simp, rfl⟩
  · obtain ⟨g', h4, h5⟩ := hi.ptr y hy
    have := (List.getElem?_eq_some_iff.1 h4).1
    show y.2.2 ≠ s.F.length
    omega
  · replace hb : b ∈ s.bs ++ [(s.bk, rev (out_ c f), f.t)] := hb
    show b.1 < s.bk + 1
    rcases List.mem_append.1 hb with hb | hb
    · have := hblt b hb; omega
    · rw [List.mem_singleton.1 hb]; show s.bk < _; omega
theorem Wf.addS (h : Wf c s) (ho : c.out.v = 4) (hx : fnd f.t s.es = none) (hf : FlOk c f) (hl : (s.es.length : Int) < c.max)
    (hp : ∀ g, Has s g → g.t.s.v = 4 → f.t.s.v = 4 → g.t.p = f.t.p → g.port ≠ f.port) : fnd (rev (out_ c f)) s.bs = none ∧ Wf c (addS s c f) := by
  have hport : ∀ a b, Has (Am.addS s c f) a → Has (Am.addS s c f) b → a.t.s.v = 4 → b.t.s.v = 4 → a.t.p = b.t.p → a.port = b.port → a.t = b.t := by
    intro a b ha hb h1 h2 h3 h4
    rcases (has_add h.inv).1 ha with ha' | e1
    · rcases (has_add h.inv).1 hb with hb' | e2
      · exact h.port a b ha' hb' h1 h2 h3 h4
      · subst e2
        exact (hp a ha' h1 h2 h3 h4).elim
    · rcases (has_add h.inv).1 hb with hb' | e2
      · subst e1
        exact (hp b hb' h2 h1 h3.symm h4.symm).elim
      · rw [e1, e2]
  have hfl : ∀ a, Has (Am.addS s c f) a → FlOk c a := fun a ha => by
    rcases (has_add h.inv).1 ha with ha | rfl
    · exact h.fl a ha
    · exact hf
  have hb : fnd (rev (out_ c f)) s.bs = none := by
    cases hb : fnd (rev (out_ c f)) s.bs with
    | none => rfl
    | some t =>
      obtain ⟨g, h1, h2, h3⟩ := (h.back _ _).1 hb
      have := out_inj ho hport (fun a ha => (hfl a ha).p6) ((has_add h.inv).2 (.inl h1)) ((has_add h.inv).2 (.inr rfl)) (rev_inj h3)
      exact (fnd_no h.inv hx h1 this).elim
  obtain ⟨h1, h2⟩ := addS_inv h.inv h.blt hx hb
  refine ⟨hb, h.cfg, h1, h2, ?_, hfl, hport, fun k t => ?_⟩
  · show ((s.es ++ [_]).length : Int) ≤ c.max
    rw [List.length_append]
    simp
    omega
  · show fnd k (s.bs ++ [(s.bk, rev (out_ c f), f.t)]) = some t ↔ _
    rw [fnd_app (k := k) hb]
    constructor
    · intro h3
      split at h3
      · rename_i hk
        cases h3
        exact ⟨f, (has_add h.inv).2 (.inr rfl), rfl, hk.symm⟩
      · obtain ⟨g, h4, h5, h6⟩ := (h.back _ _).1 h3
        exact ⟨g, (has_add h.inv).2 (.inl h4), h5, h6⟩
    · rintro ⟨g, h4, h5, h6⟩
      rcases (has_add h.inv).1 h4 with h4 | rfl
      · rw [if_neg (fun hk => ?_)]
        · exact (h.back _ _).2 ⟨g, h4, h5, h6⟩
        · have := (h.back (rev (out_ c f)) g.t).2 ⟨g, h4, rfl, by rw [h6, hk]⟩
          rw [hb] at this
          cases this
      · rw [if_pos h6.symm, h5]

/-! A tick. -/
theorem has_tick (hi : InvT s) : Has (tickS s) g ↔ ∃ f, Has s f ∧ g = dec f ∧ g.left ≠ 0 := by
  have hat : ∀ e ∈ s.es, ∀ f, s.F[e.2.2]? = some f → (aftF s fun _ => true)[e.2.2]? = some (dec f) := fun e he f hf => by
    unfold aftF
    rw [List.getElem?_mapIdx, hf]
    have : hit s (fun _ => true) e.2.2 = true := by
      unfold hit
      rw [List.any_eq_true]
      exact ⟨e, he, by simp⟩
    simp [this]
  constructor
  · rintro ⟨e, h1, h2⟩
    replace h1 : e ∈ aftE s fun _ => true := h1
    replace h2 : (aftF s fun _ => true)[e.2.2]? = some g := h2
    unfold aftE at h1
    obtain ⟨h1, h3⟩ := List.mem_filter.1 h1
    obtain ⟨f, h4, h5⟩ := hi.ptr e h1
    rw [hat e h1 f h4] at h2
    cases h2
    refine ⟨f, ⟨e, h1, h4⟩, rfl, ?_⟩
    unfold gone at h3
    rw [h4] at h3
    simpa using h3
  · rintro ⟨f, ⟨e, h1, h2⟩, rfl, h3⟩
    refine ⟨e, ?_, hat e h1 f h2⟩
    show e ∈ aftE s fun _ => true
    unfold aftE
    refine List.mem_filter.2 ⟨h1, ?_⟩
    unfold gone
    rw [h2]
    simpa using h3
theorem dec_left (h : FlOk c f) : (dec f).left = f.left - 1 := by
  show IntKind.wrap .i64 (f.left - 1) = _
  have := h.l1
  have := h.l2
  exact W_id (by omega) (by omega)
theorem Wf.tick (h : Wf c s) (ho : c.out.v = 4) : Wf c (tickS s) := by
  have hs : ∀ g, Has (tickS s) g → ∃ f, Has s f ∧ f.t = g.t ∧ f.port = g.port := fun g hg => by
    obtain ⟨f, h1, rfl, _⟩ := (has_tick h.inv).1 hg
    exact ⟨f, h1, rfl, rfl⟩
  refine ⟨h.cfg, aft_inv h.inv, fun b hb => h.blt b (List.mem_filter.1 hb).1, ?_, fun g hg => ?_, fun a b ha hb h1 h2 h3 h4 => ?_, fun k t => ?_⟩
  · have : (tickS s).es.length ≤ s.es.length := List.length_filter_le _ _
    have := h.len
    omega
  · obtain ⟨f, h1, rfl, h3⟩ := (has_tick h.inv).1 hg
    have hf := h.fl f h1
    have hl := dec_left hf
    have := hf.l1
    have := hf.l2
    exact ⟨hf.ok, by omega, by omega, hf.st1, hf.st2, hf.tcp, hf.p4, hf.p6⟩
  · obtain ⟨a', a1, a2, a3⟩ := hs a ha
    obtain ⟨b', b1, b2, b3⟩ := hs b hb
    rw [← a2, ← b2]
    exact h.port a' b' a1 b1 (by rw [a2]; exact h1) (by rw [b2]; exact h2) (by rw [a2, b2]; exact h3) (by rw [a3, b3]; exact h4)
  · show fnd k (aftB s fun _ => true) = some t ↔ _
    unfold aftB
    rw [fnd_filter h.inv.bkeys]
    constructor
    · rintro ⟨b, h1, h2, h3, h4⟩
      obtain ⟨f, h5, h6, h7⟩ := (h.back k t).1 ((fnd_some h.inv.bkeys).2 ⟨b, h1, h2, h3⟩)
      refine ⟨dec f, (has_tick h.inv).2 ⟨f, h5, rfl, fun h8 => ?_⟩, h6, h7⟩
      have : (s.es.any fun e => true && (gone s e && decide (outK s e = b.2.1))) = true := by
        obtain ⟨e, h9, h10⟩ := h5
        rw [List.any_eq_true]
        refine ⟨e, h9, ?_⟩
        unfold gone outK
        rw [h10, h.cfg]
        simp [h8, h7, h2]
      rw [this] at h4
      cases h4
    · rintro ⟨g, h1, h2, h3⟩
      obtain ⟨f, h4, rfl, h5⟩ := (has_tick h.inv).1 h1
      obtain ⟨b, h6, h7, h8⟩ := (fnd_some h.inv.bkeys).1 ((h.back k t).2 ⟨f, h4, h2, h3⟩)
      refine ⟨b, h6, h7, h8, ?_⟩
      cases ha : (s.es.any fun e => true && (gone s e && decide (outK s e = b.2.1))) with
      | false => rfl
      | true =>
        rw [List.any_eq_true] at ha
        obtain ⟨e, h9, h10⟩ := ha
        obtain ⟨f', h11, h12⟩ := h.inv.ptr e h9
        unfold gone outK at h10
        rw [h11, h.cfg, h7] at h10
        simp at h10
        have : f' = f := has_inj h.inv ⟨e, h9, h11⟩ h4 (h.outI ho ⟨e, h9, h11⟩ h4 (rev_inj (by rw [h10.2, ← h3]; rfl)))
        rw [this] at h10
        exact (h5 h10.1).elim
end
end Go.Proofs.YtldnpibpbbcjgaaDoor.Am
end

section
set_option linter.unusedVariables false
set_option linter.unusedSimpArgs false
namespace Go.Proofs.YtldnpibpbbcjgaaDoor.Am
open Go Go.Am Go.Proofs

section
variable {s : Tb} {f g : Flw} {c : Cfg} {x : Tup} {fl : Int}

theorem CfgOk.v4 (hc : CfgOk outB c) : c.out.v = 4 := by
  have h := hc.out
  unfold outB at h
  simp at h
  exact h.2.1
theorem CfgOk.val (hc : CfgOk outB c) : valid c.out = true := by
  have h := hc.out
  unfold outB at h
  simp at h
  exact h.1
theorem time_ok (hc : CfgOk outB c) (f : Flw) : 1 ≤ time c f ∧ time c f ≤ 1048576 := by
  have h := hc.ages
  unfold ages at h
  simp only [List.mem_cons, List.not_mem_nil, or_false, forall_eq_or_imp, forall_eq] at h
  obtain ⟨h1, h2, h3, h4, h5⟩ := h
  unfold time
  repeat' split
  all_goals assumption
theorem next_ok : ∀ b : Bool, ∀ st : Fin 8, ∀ k : Fin 6, 0 ≤ next b (st.1 : Int) k.1 ∧ next b (st.1 : Int) k.1 ≤ 6 := by decide
theorem next_in {b : Bool} {st : Int} {k : Nat} (h1 : 1 ≤ st) (h2 : st ≤ 7) (hk : k < 6) : 0 ≤ next b st k ∧ next b st k ≤ 6 := by
  have := next_ok b ⟨st.toNat, by omega⟩ ⟨k, hk⟩
  rw [show ((st.toNat : Nat) : Int) = st by omega] at this
  exact this

theorem valid_v {a : IP} (h : valid a = true) : a.v = 4 ∨ a.v = 6 := by
  unfold valid size at h
  by_cases h6 : a.v = 6
  · exact .inr h6
  · by_cases h4 : a.v = 4
    · exact .inl h4
    · simp [h6, h4] at h
structure TupOk (x : Tup) : Prop where
  vs : valid x.s = true
  vd : valid x.d = true
  vv : x.s.v = x.d.v
  sp0 : 0 ≤ x.sp
  sp1 : x.sp ≤ 65535
  dp0 : 0 ≤ x.dp
  dp1 : x.dp ≤ 65535
theorem tupOk_iff : tupOk x = true ↔ TupOk x := by
  unfold tupOk
  simp only [Bool.and_eq_true, beq_iff_eq, decide_eq_true_eq]
  constructor
  · rintro ⟨h1, h2, h3, h4, h5, h6, h7⟩; exact ⟨h1, h2, h3, h4, h5, h6, h7⟩
  · rintro ⟨h1, h2, h3, h4, h5, h6, h7⟩; exact ⟨h1, h2, h3, h4, h5, h6, h7⟩
theorem judge_ok : judge x = 0 ↔ TupOk x ∧ (x.p = 6 ∨ x.p = 17 ∨ isEcho x = true) := by
  unfold judge
  cases h : tupOk x with
  | false =>
    simp
    intro hh
    rw [tupOk_iff.2 hh] at h
    cases h
  | true =>
    have := tupOk_iff.1 h
    by_cases h6 : x.p = 6
    · simp [h6, this]
    · by_cases h17 : x.p = 17
      · simp [h17, this]
      · cases he : isEcho x <;> simp [h6, h17, he, this]

/-! A flow goes on. -/
theorem go_ok (hc : CfgOk outB c) (hf : FlOk c f) {st : Int} (h1 : 1 ≤ st) (h2 : st ≤ 7) (h3 : f.t.p = 6 ↔ st ≠ 7) : FlOk c (f.go c st) := by
  have := time_ok hc { f with st := st }
  exact ⟨hf.ok, this.1, this.2, h1, h2, h3, hf.p4, hf.p6⟩
theorem inR_ok {x : Int} {n : Nat} (h1 : 0 ≤ x) (h2 : x < n) : inR x n = true := by unfold inR; simp; omega

def newSt (b : Bool) (f : Flw) (fl : Int) : Int := if f.t.p = 6 then next b f.st (seg fl) else f.st
inductive Goes (c : Cfg) (s : Tb) (j : Nat) (f : Flw) (fl : Int) (b : Bool) : Bool → Tb → Prop
  | no (h1 : f.t.p = 6) (h2 : seg fl ≠ 0) (h3 : newSt b f fl = 0) : Goes c s j f fl b false s
  | reset (h1 : f.t.p = 6) (h2 : seg fl = 0) : Goes c s j f fl b true (endS s f)
  | on (h1 : f.t.p = 6 → seg fl ≠ 0) (h2 : newSt b f fl ≠ 0) (h3 : FlOk c (f.go c (newSt b f fl))) : Goes c s j f fl b true (setFl s j (f.go c (newSt b f fl)))
theorem goes_ok (h : Wf c s) (hc : CfgOk outB c) {j : Nat} (hj : fnd f.t s.es = some j) (hf : s.F[j]? = some f) (b : Bool) : ∃ r s', goes s j fl b = some (r, s') ∧ Goes c s j f fl b r s' := by
  have ok := h.fl f ((has_fnd h.inv).2 ⟨j, hj, hf⟩)
  unfold goes
  rw [hf]
  dsimp only
  rw [h.cfg]
  by_cases hp : f.t.p = 6
  · have e : newSt b f fl = next b f.st (seg fl) := by unfold newSt; rw [if_pos hp]
    have hn := next_in (b := b) ok.st1 ok.st2 (seg_lt fl)
    rw [if_pos hp]
    by_cases h0 : seg fl = 0
    · rw [if_pos h0]
      exact ⟨_, _, rfl, .reset hp h0⟩
    · rw [if_neg h0, if_pos (inR_ok (by have := ok.st1; omega) (by have := ok.st2; omega)), ← e]
      by_cases hz : newSt b f fl = 0
      · rw [if_pos hz]
        exact ⟨_, _, rfl, .no hp h0 hz⟩
      · rw [if_neg hz]
        refine ⟨_, _, rfl, .on (fun _ => h0) hz (go_ok hc ok (by omega) (by omega) ?_)⟩
        constructor
        · intro _; omega
        · intro _; exact hp
  · have e : newSt b f fl = f.st := by unfold newSt; rw [if_neg hp]
    rw [if_neg hp]
    have : f.go c f.st = f.go c (newSt b f fl) := by rw [e]
    rw [this]
    refine ⟨_, _, rfl, .on (fun h => (hp h).elim) (by rw [e]; have := ok.st1; omega) (go_ok hc ok (by rw [e]; exact ok.st1) (by rw [e]; exact ok.st2) (by rw [e]; exact ok.tcp))⟩
theorem Goes.wf (h : Wf c s) (hc : CfgOk outB c) {j : Nat} (hj : fnd f.t s.es = some j) (hf : s.F[j]? = some f) {b r : Bool} {s' : Tb} (hg : Goes c s j f fl b r s') : Wf c s' := by
  cases hg with
  | no => exact h
  | reset => exact h.endS hc.v4 ((has_fnd h.inv).2 ⟨j, hj, hf⟩)
  | on h1 h2 h3 => exact h.setFl hj hf rfl rfl h3

/-! Ports. -/
theorem free_iff (hi : Inv s) {p q : Int} : freeB s p q = true ↔ ∀ f, Has s f → f.t.s.v = 4 → f.t.p = p → f.port ≠ q := by
  unfold freeB
  rw [Bool.not_eq_true', List.any_eq_false]
  constructor
  · rintro h f ⟨e, h1, h2⟩ h3 h4 h5
    have := h e h1
    unfold uses at this
    rw [h2] at this
    simp [h3, h4, h5] at this
  · intro h e he hu
    obtain ⟨f, h1, h2⟩ := hi.ptr e he
    unfold uses at hu
    rw [h1] at hu
    simp at hu
    exact h f ⟨e, he, h1⟩ hu.1 hu.2.1 hu.2.2
theorem srch_some {p : Int} : ∀ {n : Nat} {q r : Int}, srch s p n q = (r, true) → q ≤ r ∧ r ≤ s.c.hi ∧ freeB s p r = true
  | 0, q, r, h => by cases h
  | n + 1, q, r, h => by
    unfold srch at h
    split at h
    · split at h
      · rename_i h1 h2
        cases h
        exact ⟨Int.le_refl _, h1, h2⟩
      · obtain ⟨h1, h2, h3⟩ := srch_some h
        exact ⟨by omega, h2, h3⟩
    · cases h
theorem portOf_some {q : Int} (h : portOf s x = (q, true)) : x.s.v = 6 ∧ q = x.sp ∨ s.c.lo ≤ q ∧ q ≤ s.c.hi ∧ freeB s x.p q = true := by
  unfold portOf at h
  split at h
  · rename_i h1
    cases h
    rcases h1 with h1 | h1
    · exact .inl ⟨h1, rfl⟩
    · exact .inr ⟨h1.1, h1.2.1, h1.2.2⟩
  · exact .inr (srch_some h)

/-! A box more that nothing points to. -/
theorem setFl_withF {f0 f1 : Flw} : setFl (withF s f0) s.F.length f1 = withF s f1 := by unfold setFl withF; simp
theorem has_withF (hi : InvT s) {f0 : Flw} : Has (withF s f0) g ↔ Has s g := by
  constructor
  · rintro ⟨e, h1, h2⟩
    obtain ⟨g', h4, h5⟩ := hi.ptr e h1
    replace h2 : (s.F ++ [f0])[e.2.2]? = some g := h2
    rw [List.getElem?_append_left (List.getElem?_eq_some_iff.1 h4).1] at h2
    exact ⟨e, h1, h2⟩
  · rintro ⟨e, h1, h2⟩
    refine ⟨e, h1, ?_⟩
    show (s.F ++ [f0])[e.2.2]? = some g
    rw [List.getElem?_append_left (List.getElem?_eq_some_iff.1 h2).1]
    exact h2
theorem Wf.withF (h : Wf c s) (f0 : Flw) : Wf c (withF s f0) := by
  have hh : ∀ g, Has (Am.withF s f0) g ↔ Has s g := fun g => has_withF h.inv
  refine ⟨h.cfg, ⟨⟨h.inv.born, h.inv.lt, fun e he => ?_⟩, h.inv.ptrs, h.inv.keys, h.inv.bkeys⟩, h.blt, h.len, fun g hg => h.fl g ((hh g).1 hg), fun a b ha hb => h.port a b ((hh a).1 ha) ((hh b).1 hb), fun k t => ?_⟩
  · obtain ⟨g', h4, h5⟩ := h.inv.ptr e he
    refine ⟨g', ?_, h5⟩
    show (s.F ++ [f0])[e.2.2]? = some g'
    rw [List.getElem?_append_left (List.getElem?_eq_some_iff.1 h4).1]
    exact h4
  · rw [show (Am.withF s f0).bs = s.bs from rfl, h.back]
    constructor
    · rintro ⟨g, h1, h2⟩; exact ⟨g, (hh g).2 h1, h2⟩
    · rintro ⟨g, h1, h2⟩; exact ⟨g, (hh g).1 h1, h2⟩

/-! Out. -/
def newF (c : Cfg) (x : Tup) (fl q : Int) : Flw := { new0 x fl with port := q, left := time c { new0 x fl with port := q } }
inductive OutR (c : Cfg) (s : Tb) (x : Tup) (fl : Int) : Tup → Int → Tb → Prop
  | judge (h : judge x ≠ 0) : OutR c s x fl zT (judge x) s
  | known {j : Nat} {f : Flw} {s' : Tb} (hj : Am.judge x = 0) (h1 : fnd f.t s.es = some j) (h2 : s.F[j]? = some f) (hx : f.t = x) (h3 : Goes c s j f fl false true s') : OutR c s x fl (out_ c f) 0 s'
  | refused {j : Nat} {f : Flw} (hj : Am.judge x = 0) (h1 : fnd f.t s.es = some j) (h2 : s.F[j]? = some f) (hx : f.t = x) (h3 : Goes c s j f fl false false s) : OutR c s x fl zT 173 s
  | bad (hj : Am.judge x = 0) (h1 : fnd x s.es = none) (h2 : badO x fl = true) : OutR c s x fl zT 173 (withF s (new0 x fl))
  | full (hj : Am.judge x = 0) (h1 : fnd x s.es = none) (h2 : badO x fl = false) (h3 : (s.es.length : Int) = c.max) : OutR c s x fl zT 171 (withF s (new0 x fl))
  | noPort (f0 : Flw) (hj : Am.judge x = 0) (h1 : fnd x s.es = none) (h2 : badO x fl = false) (h3 : (s.es.length : Int) < c.max) (h4 : (portOf s x).2 = false) : OutR c s x fl zT 172 (withF s f0)
  | new (q : Int) (hj : Am.judge x = 0) (h1 : fnd x s.es = none) (h2 : badO x fl = false) (h3 : (s.es.length : Int) < c.max) (h4 : portOf s x = (q, true)) (h5 : FlOk c (newF c x fl q)) (h6 : Wf c (addS s c (newF c x fl q))) : OutR c s x fl (out_ c (newF c x fl q)) 0 (addS s c (newF c x fl q))

theorem portOf_withF (hi : InvT s) (f0 : Flw) : portOf (withF s f0) x = portOf s x := by
  have hfree : ∀ p q, freeB (withF s f0) p q = freeB s p q := by
    intro p q
    rw [Bool.eq_iff_iff, free_iff hi.toInv, free_iff]
    · constructor
      · intro h f hf; exact h f ((has_withF hi).2 hf)
      · intro h f hf; exact h f ((has_withF hi).1 hf)
    · refine ⟨hi.born, hi.lt, fun e he => ?_⟩
      obtain ⟨g', h4, h5⟩ := hi.ptr e he
      refine ⟨g', ?_, h5⟩
      show (s.F ++ [f0])[e.2.2]? = some g'
      rw [List.getElem?_append_left (List.getElem?_eq_some_iff.1 h4).1]
      exact h4
  have hs : ∀ p n q, srch (withF s f0) p n q = srch s p n q := by
    intro p n
    induction n with
    | zero => intro q; rfl
    | succ n ih =>
      intro q
      unfold srch
      rw [hfree, ih]
      rfl
  unfold portOf
  rw [hfree, hs]
  rfl
theorem new0_st (h : badO x fl = false) : (new0 x fl).st = if x.p = 6 then 1 else 7 := by
  unfold badO at h
  rw [Bool.or_eq_false_iff] at h
  have h1 := h.1
  unfold new0 at h1 ⊢
  by_cases hp : x.p = 6
  · simp only [hp, if_true] at h1 ⊢
    have := seg_lt fl
    have : ∀ k : Fin 6, (getI [0, 0, 0, 1, 0, 0] k.1 == 0) = false → getI [0, 0, 0, 1, 0, 0] k.1 = 1 := by decide
    exact this ⟨seg fl, seg_lt fl⟩ h1
  · simp only [hp, if_false]
theorem new_ok (hc : CfgOk outB c) (h : Wf c s) (hj : judge x = 0) (hb : badO x fl = false) {q : Int} (hq : portOf s x = (q, true)) : FlOk c (newF c x fl q) := by
  have ht := time_ok hc { new0 x fl with port := q }
  have hst : (newF c x fl q).st = if x.p = 6 then 1 else 7 := new0_st hb
  have hport := portOf_some hq
  rw [h.cfg] at hport
  have hv := valid_v (judge_ok.1 hj).1.vs
  refine ⟨hj, ht.1, ht.2, ?_, ?_, ?_, fun h4 => ?_, fun h4 => ?_⟩
  · rw [hst]; split <;> omega
  · rw [hst]; split <;> omega
  · rw [hst]
    show x.p = 6 ↔ _
    by_cases hp : x.p = 6 <;> simp [hp]
  · replace h4 : x.s.v = 4 := h4
    rcases hport with hp | hp
    · omega
    · exact ⟨hp.1, hp.2.1⟩
  · replace h4 : x.s.v ≠ 4 := h4
    have h6 : x.s.v = 6 := by omega
    show q = x.sp
    unfold portOf at hq
    rw [if_pos (.inl h6)] at hq
    cases hq
    rfl
theorem goOut_ok (h : Wf c s) (hc : CfgOk outB c) (x : Tup) (fl : Int) : ∃ y e s', goOut s x fl = some (y, e, s') ∧ OutR c s x fl y e s' := by
  unfold goOut
  by_cases hj : judge x = 0
  · rw [if_neg (by simp [hj])]
    cases hx : fnd x s.es with
    | some j =>
      dsimp only
      obtain ⟨f, h1, h2, h3⟩ := fnd_has h.inv hx
      subst h2
      rw [h1]
      dsimp only
      obtain ⟨r, s', h4, h5⟩ := goes_ok (fl := fl) h hc hx h1 false
      rw [h4]
      cases r with
      | false =>
        have : s' = s := by cases h5; rfl
        subst this
        exact ⟨_, _, _, rfl, .refused hj hx h1 rfl h5⟩
      | true =>
        refine ⟨_, _, _, rfl, ?_⟩
        rw [h.cfg]
        exact .known hj hx h1 rfl h5
    | none =>
      dsimp only
      cases hb : badO x fl with
      | true =>
        rw [if_pos rfl]
        exact ⟨_, _, _, rfl, .bad hj hx hb⟩
      | false =>
        rw [if_neg (by simp)]
        unfold tailO
        rw [portOf_withF h.inv]
        rw [show (withF s (new0 x fl)).es = s.es from rfl, show (withF s (new0 x fl)).c = c from h.cfg]
        have hl := h.len
        by_cases hm : (s.es.length : Int) = c.max
        · rw [if_pos hm]
          exact ⟨_, _, _, rfl, .full hj hx hb hm⟩
        · rw [if_neg hm]
          cases hq : portOf s x with
          | mk q o =>
            cases o with
            | false =>
              rw [if_pos rfl, setFl_withF]
              exact ⟨_, _, _, rfl, .noPort _ hj hx hb (by omega) (by rw [hq])⟩
            | true =>
              rw [if_neg (by simp)]
              have ok := new_ok hc h hj hb hq
              obtain ⟨h1, h2⟩ := h.addS hc.v4 (f := newF c x fl q) hx ok (by omega) (fun g hg h3 h4 h5 h6 => by
                have hport := portOf_some hq
                rcases hport with hp | hp
                · replace h4 : x.s.v = 4 := h4
                  omega
                · exact (free_iff h.inv.toInv).1 hp.2.2 g hg h3 h5 h6)
              have e : fnd (rev (out_ c (newF c x fl q))) (withF s (new0 x fl)).bs = none := h1
              refine ⟨out_ c (newF c x fl q), 0, addS s c (newF c x fl q), ?_, .new q hj hx hb (by omega) hq ok h2⟩
              show (match fnd (rev (out_ c (newF c x fl q))) (withF s (new0 x fl)).bs with | some _ => none | none => _) = _
              rw [e]
              refine congrArg some (Prod.ext rfl (Prod.ext rfl ?_))
              show Tb.mk (setFl (withF s (new0 x fl)) s.F.length (newF c x fl q)).c (setFl (withF s (new0 x fl)) s.F.length (newF c x fl q)).F _ _ _ _ = _
              rw [setFl_withF]
              rfl
  · rw [if_pos hj]
    exact ⟨_, _, _, rfl, .judge hj⟩
theorem OutR.wf (h : Wf c s) (hc : CfgOk outB c) {y : Tup} {e : Int} {s' : Tb} (hr : OutR c s x fl y e s') : Wf c s' := by
  cases hr with
  | judge => exact h
  | known hj h1 h2 hx h3 => exact h3.wf h hc h1 h2
  | refused => exact h
  | bad => exact h.withF _
  | full => exact h.withF _
  | noPort => exact h.withF _
  | new q hj h1 h2 h3 h4 h5 h6 => exact h6

/-! In. -/
inductive InR (c : Cfg) (s : Tb) (x : Tup) (fl : Int) : Tup → Int → Tb → Prop
  | judge (h : judge x ≠ 0) : InR c s x fl zT (judge x) s
  | none (hj : Am.judge x = 0) (h : ∀ f, Has s f → rev (out_ c f) ≠ x) : InR c s x fl zT 175 s
  | known {j : Nat} {f : Flw} {s' : Tb} (hj : Am.judge x = 0) (h1 : fnd f.t s.es = some j) (h2 : s.F[j]? = some f) (hx : rev (out_ c f) = x) (h3 : Goes c s j f fl true true s') : InR c s x fl (rev f.t) 0 s'
  | refused {j : Nat} {f : Flw} (hj : Am.judge x = 0) (h1 : fnd f.t s.es = some j) (h2 : s.F[j]? = some f) (hx : rev (out_ c f) = x) (h3 : Goes c s j f fl true false s) : InR c s x fl zT 173 s
theorem inS_ok (h : Wf c s) (hc : CfgOk outB c) (x : Tup) (fl : Int) : ∃ y e s', inS s x fl = some (y, e, s') ∧ InR c s x fl y e s' := by
  unfold inS
  by_cases hj : judge x = 0
  · rw [if_neg (by simp [hj])]
    cases hx : fnd x s.bs with
    | none =>
      refine ⟨_, _, _, rfl, .none hj (fun f hf he => ?_)⟩
      have := (h.back x f.t).2 ⟨f, hf, rfl, he⟩
      rw [hx] at this
      cases this
    | some own =>
      dsimp only
      obtain ⟨f, h1, h2, h3⟩ := (h.back x own).1 hx
      subst h2
      obtain ⟨j, h4, h5⟩ := (has_fnd h.inv).1 h1
      rw [h4]
      dsimp only
      obtain ⟨r, s', h6, h7⟩ := goes_ok (fl := fl) h hc h4 h5 true
      rw [h6]
      cases r with
      | false =>
        have : s' = s := by cases h7; rfl
        subst this
        exact ⟨_, _, _, rfl, .refused hj h4 h5 h3 h7⟩
      | true => exact ⟨_, _, _, rfl, .known hj h4 h5 h3 h7⟩
  · rw [if_pos hj]
    exact ⟨_, _, _, rfl, .judge hj⟩
theorem InR.wf (h : Wf c s) (hc : CfgOk outB c) {y : Tup} {e : Int} {s' : Tb} (hr : InR c s x fl y e s') : Wf c s' := by
  cases hr with
  | judge => exact h
  | none => exact h
  | known hj h1 h2 hx h3 => exact h3.wf h hc h1 h2
  | refused => exact h

theorem Wf.ticks (hc : CfgOk outB c) : ∀ {k : Nat} {s : Tb}, Wf c s → Wf c (ticks k s)
  | 0, s, h => h
  | k + 1, s, h => Wf.ticks hc (k := k) (h.tick hc.v4)
theorem Wf.outOk (h : Wf c s) (hc : CfgOk outB c) {n : Nat} (hn : 65537 < n) : OutOk n s := by
  have h1 := h.len
  have h2 := hc.max2
  exact ⟨⟨h.inv.toInv, by omega, hn, by rw [h.cfg]; exact hc.lo, by rw [h.cfg]; exact hc.hi⟩, h.blt⟩
theorem Wf.tickOk (h : Wf c s) (hc : CfgOk outB c) {n : Nat} (hn : 65537 < n) : TickOk n s := by
  have h1 := h.len
  have h2 := hc.max2
  exact ⟨h.inv, by omega, by omega⟩
theorem Wf.newT (hc : CfgOk outB c) : Wf c (newT c) := by
  have hn : ∀ f, ¬ Has (Am.newT c) f := fun f ⟨e, h, _⟩ => List.not_mem_nil h
  refine ⟨rfl, newT_inv c, fun b hb => (List.not_mem_nil hb).elim, ?_, fun f hf => (hn f hf).elim, fun f g hf => (hn f hf).elim, fun k t => ?_⟩
  · show ((0 : Nat) : Int) ≤ c.max
    have := hc.max1
    omega
  · constructor
    · intro h; cases h
    · rintro ⟨f, hf, _⟩; exact (hn f hf).elim
end
end Go.Proofs.YtldnpibpbbcjgaaDoor.Am
end
