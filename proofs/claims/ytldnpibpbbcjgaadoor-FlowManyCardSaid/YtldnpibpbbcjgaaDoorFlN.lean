/-
  The law FlowLong: two flows live as long as they are to.
-/
import Derived.Test.YtldnpibpbbcjgaaDoorFlM
import Derived.Test.YtldnpibpbbcjgaaDoorFlH
import Derived.Test.YtldnpibpbbcjgaaDoorFlL
section
set_option linter.unusedVariables false
set_option linter.unusedSimpArgs false
set_option maxRecDepth 20000
namespace Go.Proofs.YtldnpibpbbcjgaaDoor.Am
open Go Go.Am Go.Proofs

def cL (u v : Int) : Cfg := { cfg0 with udp := u, icmp := v }
def askP : Tup := { askT with p := 1, dp := 0 }
def F1 (l : Int) : Flw := ⟨askT, 1000, 7, l⟩
def F2 (l : Int) : Flw := ⟨askP, 1000, 7, l⟩
def r1 : Tup := rev (out_ cfg0 (F1 0))
def r2 : Tup := rev (out_ cfg0 (F2 0))
theorem outL1 (u v : Int) : goOut (newT (cL u v)) askT 0 = some (out_ cfg0 (F1 0), 0, addS (newT (cL u v)) (cL u v) (F1 u)) := by kernel_rfl
theorem outL2 (u v : Int) : goOut (addS (newT (cL u v)) (cL u v) (F1 u)) askP 0 = some (out_ cfg0 (F2 0), 0, addS (addS (newT (cL u v)) (cL u v) (F1 u)) (cL u v) (F2 v)) := by kernel_rfl
theorem cL_ok {u v : Int} (hu : 1 ≤ u ∧ u ≤ 1048576) (hv : 1 ≤ v ∧ v ≤ 1048576) : CfgOk outB (cL u v) := by
  refine ⟨by show (1 : Int) ≤ 2; decide, by show (2 : Int) ≤ 4096; decide, by show outB cfg0.out = true; decide +kernel, by show (1 : Int) ≤ 1000; decide, by show (1000 : Int) ≤ 1001; decide, by show (1001 : Int) ≤ 65535; decide, ?_⟩
  unfold ages
  simp [cL, cfg0]
  exact ⟨hu, hv⟩

theorem ne12 : r1 ≠ r2 := by decide +kernel
theorem out1L (u v l : Int) : rev (out_ (cL u v) (F1 l)) = r1 := rfl
theorem out2L (u v l : Int) : rev (out_ (cL u v) (F2 l)) = r2 := rfl
def T2 (c : Cfg) (p q : Int) (a b : Bool) : Tb := ⟨c, [F1 p, F2 q], (bif a then [(0, askT, 0)] else []) ++ (bif b then [(1, askP, 1)] else []), 2, (bif a then [(0, r1, askT)] else []) ++ (bif b then [(1, r2, askP)] else []), 2⟩
theorem tick2 {u v p q : Int} {a b x y : Bool} (hx : (IntKind.wrap .i64 (p - 1) == 0) = x) (hy : (IntKind.wrap .i64 (q - 1) == 0) = y) :
    tickS (T2 (cL u v) p q a b) = T2 (cL u v) (bif a then IntKind.wrap .i64 (p - 1) else p) (bif b then IntKind.wrap .i64 (q - 1) else q) (a && !x) (b && !y) ∧ cnt (T2 (cL u v) p q a b) (fun _ => true) = (bif a && x then 1 else 0) + (bif b && y then 1 else 0) := by
  have n21 : ¬ r2 = r1 := fun h => ne12 h.symm
  have n12 : ¬ r1 = r2 := ne12
  have g1 : gone (T2 (cL u v) p q a b) (0, askT, 0) = x := hx
  have g2 : gone (T2 (cL u v) p q a b) (1, askP, 1) = y := hy
  have o1 : outK (T2 (cL u v) p q a b) (0, askT, 0) = r1 := rfl
  have o2 : outK (T2 (cL u v) p q a b) (1, askP, 1) = r2 := rfl
  have hF : aftF (T2 (cL u v) p q a b) (fun _ => true) = [F1 (bif a then IntKind.wrap .i64 (p - 1) else p), F2 (bif b then IntKind.wrap .i64 (q - 1) else q)] := by
    cases a <;> cases b <;> rfl
  have hes : (T2 (cL u v) p q a b).es = (bif a then [(0, askT, 0)] else []) ++ (bif b then [(1, askP, 1)] else []) := rfl
  have hbs : (T2 (cL u v) p q a b).bs = (bif a then [(0, r1, askT)] else []) ++ (bif b then [(1, r2, askP)] else []) := rfl
  have hE : aftE (T2 (cL u v) p q a b) (fun _ => true) = (bif a && !x then [(0, askT, 0)] else []) ++ (bif b && !y then [(1, askP, 1)] else []) := by
    unfold aftE
    rw [hes]
    revert g1 g2
    generalize gone (T2 (cL u v) p q a b) = g
    intro g1 g2
    cases a <;> cases b <;> cases x <;> cases y <;> simp [List.filter_cons, g1, g2]
  have hC : cnt (T2 (cL u v) p q a b) (fun _ => true) = (bif a && x then 1 else 0) + (bif b && y then 1 else 0) := by
    unfold cnt
    rw [hes]
    revert g1 g2
    generalize gone (T2 (cL u v) p q a b) = g
    intro g1 g2
    cases a <;> cases b <;> cases x <;> cases y <;> simp [List.filter_cons, g1, g2]
  have hB : aftB (T2 (cL u v) p q a b) (fun _ => true) = (bif a && !x then [(0, r1, askT)] else []) ++ (bif b && !y then [(1, r2, askP)] else []) := by
    unfold aftB
    rw [hes, hbs]
    revert g1 g2 o1 o2
    generalize gone (T2 (cL u v) p q a b) = g
    generalize outK (T2 (cL u v) p q a b) = o
    intro g1 g2 o1 o2
    cases a <;> cases b <;> cases x <;> cases y <;> simp [List.filter_cons, g1, g2, o1, o2, n12, n21]
  refine ⟨?_, hC⟩
  unfold tickS aft
  rw [hF, hE, hB]
  rfl
def SK (u v k : Int) : Tb := T2 (cL u v) (if k < u then u - k else 0) (if k < v then v - k else 0) (decide (k < u)) (decide (k < v))
theorem SK0 {u v : Int} (hu : 1 ≤ u) (hv : 1 ≤ v) : addS (addS (newT (cL u v)) (cL u v) (F1 u)) (cL u v) (F2 v) = SK u v 0 := by
  unfold SK
  rw [if_pos (by omega), if_pos (by omega), decide_eq_true (by omega : (0 : Int) < u), decide_eq_true (by omega : (0 : Int) < v), Int.sub_zero, Int.sub_zero]
  rfl
theorem SK_len (u v k : Int) : (SK u v k).es.length = (if k < u then 1 else 0) + (if k < v then 1 else 0) := by
  unfold SK T2
  by_cases h1 : k < u <;> by_cases h2 : k < v <;> simp [h1, h2]
theorem SK_tick {u v k : Int} (hk : 0 ≤ k) (hu : u ≤ 1048576) (hv : v ≤ 1048576) : tickS (SK u v k) = SK u v (k + 1) ∧ cnt (SK u v k) (fun _ => true) = (if k + 1 = u then 1 else 0) + (if k + 1 = v then 1 else 0) := by
  have hw : ∀ u : Int, u ≤ 1048576 → k < u → IntKind.wrap .i64 ((if k < u then u - k else 0) - 1) = u - (k + 1) := fun u h1 h2 => by rw [if_pos h2, W_id (by omega) (by omega)]; omega
  have key : ∀ u : Int, u ≤ 1048576 → (bif decide (k < u) then IntKind.wrap .i64 ((if k < u then u - k else 0) - 1) else (if k < u then u - k else 0)) = (if k + 1 < u then u - (k + 1) else 0) := fun u h1 => by
    by_cases h2 : k < u
    · rw [hw u h1 h2, decide_eq_true h2]
      show u - (k + 1) = _
      split <;> omega
    · rw [decide_eq_false h2, if_neg h2, if_neg (by omega)]
      rfl
  have key2 : ∀ u : Int, u ≤ 1048576 → (decide (k < u) && !(IntKind.wrap .i64 ((if k < u then u - k else 0) - 1) == 0)) = decide (k + 1 < u) := fun u h1 => by
    by_cases h2 : k < u
    · rw [hw u h1 h2, decide_eq_true h2, Bool.true_and, Bool.eq_iff_iff]
      simp
      omega
    · rw [decide_eq_false h2, Bool.false_and, decide_eq_false (by omega)]
  have key3 : ∀ u : Int, u ≤ 1048576 → (bif decide (k < u) && (IntKind.wrap .i64 ((if k < u then u - k else 0) - 1) == 0) then 1 else 0) = if k + 1 = u then 1 else 0 := fun u h1 => by
    by_cases h2 : k < u
    · rw [hw u h1 h2, decide_eq_true h2, Bool.true_and]
      by_cases h3 : k + 1 = u
      · rw [if_pos h3, show (u - (k + 1) == 0) = true by simp; omega]
        rfl
      · rw [if_neg h3, show (u - (k + 1) == 0) = false by simp; omega]
        rfl
    · rw [decide_eq_false h2]
      show 0 = if k + 1 = u then 1 else 0
      rw [if_neg (by omega)]
  obtain ⟨h1, h2⟩ := tick2 (u := u) (v := v) (p := if k < u then u - k else 0) (q := if k < v then v - k else 0) (a := decide (k < u)) (b := decide (k < v)) rfl rfl
  rw [key u hu, key v hv, key2 u hu, key2 v hv] at h1
  rw [key3 u hu, key3 v hv] at h2
  exact ⟨h1, h2⟩

theorem mIf (b : Bool) (x y : Int) : eq6.match_1 (fun _ => Int) b (fun _ => x) (fun _ => y) = bif b then x else y := by cases b <;> rfl
def loI (x : Int) : Int := bif decide (1 > x) then 1 else x
theorem loI_def (x : Int) : (bif decide (1 > x) then (1 : Int) else x) = loI x := rfl
def clI (x : Int) : Int := bif decide ((1048576 : Int) < loI x) then 1048576 else loI x
theorem clI_def (x : Int) : (bif decide ((1048576 : Int) < loI x) then (1048576 : Int) else loI x) = clI x := rfl
theorem clI_ok (x : Int) : 1 ≤ clI x ∧ clI x ≤ 1048576 := by
  have h0 : 1 ≤ loI x := by
    by_cases h : 1 > x
    · have : loI x = 1 := by unfold loI; rw [decide_eq_true h]; rfl
      omega
    · have : loI x = x := by unfold loI; rw [decide_eq_false h]; rfl
      omega
  by_cases h2 : 1048576 < loI x
  · have : clI x = 1048576 := by unfold clI; rw [decide_eq_true h2]; rfl
    omega
  · have : clI x = loI x := by unfold clI; rw [decide_eq_false h2]; rfl
    omega
def mxI (u v : Int) : Int := bif decide (v > u) then v else u
theorem mxI_def (u v : Int) : (bif decide (v > u) then v else u) = mxI u v := rfl
theorem mxI_ok (u v : Int) : u ≤ mxI u v ∧ v ≤ mxI u v ∧ (mxI u v = u ∨ mxI u v = v) := by
  by_cases h : v > u
  · have : mxI u v = v := by unfold mxI; rw [decide_eq_true h]; rfl
    omega
  · have : mxI u v = u := by unfold mxI; rw [decide_eq_false h]; rfl
    omega

theorem long_ok (x0 x1 : Int) (n : Nat) (hn : 2000000 < n) : run7 G9 G10 G11 G15 G17 G18 G20 (G21 outB) n x0 x1 = some [.bool true] := by
  refine (eq7 G9 G10 G11 G15 G17 G18 G20 (G21 outB) n x0 x1).trans ?_
  have h9 := g9 (by omega : 65537 < n)
  simp only [mIf, loI_def, clI_def]
  simp only [mxI_def]
  have hu := clI_ok x0
  have hv := clI_ok x1
  generalize clI x0 = u at hu
  generalize clI x1 = v at hv
  have hc := cL_ok hu hv
  have h21 := g21' (n := n) hc (by omega)
  have hw0 := Wf.newT hc
  have h11a := g11' (n := n) (x := askT) (fl := 0) hw0 hc (by omega)
  rw [outL1, outI_some] at h11a
  obtain ⟨y1, e1, t1, hg1, hr1⟩ := goOut_ok hw0 hc askT 0
  have hw1 := hr1.wf hw0 hc
  rw [outL1] at hg1
  cases hg1
  have h11b := g11' (n := n) (x := askP) (fl := 0) hw1 hc (by omega)
  rw [outL2, outI_some] at h11b
  obtain ⟨y2, e2, t2, hg2, hr2⟩ := goOut_ok hw1 hc askP 0
  have hw2 := hr2.wf hw1 hc
  rw [outL2] at hg2
  cases hg2
  rw [SK0 hu.1 hv.1] at h11b hw2
  have h10 := g10' (n := n) (s := SK u v 0)
  have hl0 : (SK u v 0).es.length = 2 := by rw [SK_len, if_pos (by omega), if_pos (by omega)]
  have e1 : (AV.agg [.int .i64 cfg0.max, cfg0.out.av, .int .i64 cfg0.lo, .int .i64 cfg0.hi, .int .i64 cfg0.syn, .int .i64 cfg0.tcp, .int .i64 cfg0.fin, .int .i64 u, .int .i64 v]) = (cL u v).av := rfl
  have e2 : (AV.agg [.int .i64 1, askT.s.av, askT.d.av, .int .i64 askT.sp, .int .i64 0]) = askP.av := rfl
  simp [g20, e1, h21, h9, g17, h11a, e2, h11b, h10, hl0]
  have hM := mxI_ok u v
  generalize hMe : mxI u v = M at hM
  have hb : (1 : Int) % 2 ^ IntKind.i64.bits = 1 := by decide
  refine (jn_l (d := [.tup (SK u v M).m1, .tup (SK u v M).m2, .tup (SK u v M).m3, .tup (SK u v M).m4, .pt 2 (some 0)]) ?_).trans ?_
  · refine iter_any (fun k : Int => [.tup (SK u v k).m1, .tup (SK u v k).m2, .tup (SK u v k).m3, .tup (SK u v k).m4, .int .i64 u, .int .i64 v, .pt 2 (some 0), .int .i64 (k + 1)]) (fun k => (M - k).toNat) (fun _ => (Sum.inl [AV.tup (SK u v M).m1, AV.tup (SK u v M).m2, AV.tup (SK u v M).m3, AV.tup (SK u v M).m4, AV.pt 2 (some 0)] : Sum (List AV) (List AV))) (fun k => 0 ≤ k ∧ k ≤ M ∧ Wf (cL u v) (SK u v k)) (fun k K hg hK => ?_) n 0 (by show (M - 0).toNat < n; omega) ⟨by omega, by omega, hw2⟩
    obtain ⟨hk0, hkM, hw⟩ := hg
    have ht := g18 n (SK u v k) (hw.tickOk hc (by omega))
    obtain ⟨t1, t2⟩ := SK_tick hk0 hu.2 hv.2
    have hw' := hw.tick hc.v4
    rw [t1] at ht hw'
    rw [t2] at ht
    have ht' : G18 n [.pt 2 (some 0), .tup (SK u v k).m1, .tup (SK u v k).m2, .tup (SK u v k).m3, .tup (SK u v k).m4] = some [.int .i64 (((if k + 1 = u then 1 else 0) + (if k + 1 = v then 1 else 0) : Nat) : Int), .tup (SK u v (k + 1)).m1, .tup (SK u v (k + 1)).m2, .tup (SK u v (k + 1)).m3, .tup (SK u v (k + 1)).m4] := ht
    by_cases hlt : k < M
    · have go := hK (k + 1) (by show (M - (k + 1)).toNat < (M - k).toNat; omega) ⟨by omega, by omega, hw'⟩
      have w1 : IntKind.wrap .i64 (k + 1 + 1) = k + 1 + 1 := W_id (by omega) (by omega)
      have l1 : k + 1 ≤ M := by omega
      have w2 : IntKind.wrap .i64 2 = 2 := by decide
      have w3 : IntKind.wrap .i64 1 = 1 := by decide
      by_cases q1 : k + 1 = u <;> by_cases q2 : k + 1 = v
      · have b1 : (k + 1 == u) = true := by simpa using q1
        have b2 : (k + 1 == v) = true := by simpa using q2
        rw [if_pos q1, if_pos q2] at ht'
        simp [hMe, l1, b1, b2, hb, w1, w2, ht', go]
      · have b1 : (k + 1 == u) = true := by simpa using q1
        have b2 : (k + 1 == v) = false := by simpa using q2
        rw [if_pos q1, if_neg q2] at ht'
        simp [hMe, l1, b1, b2, hb, w1, ht', go]
      · have b1 : (k + 1 == u) = false := by simpa using q1
        have b2 : (k + 1 == v) = true := by simpa using q2
        rw [if_neg q1, if_pos q2] at ht'
        simp [hMe, l1, b1, b2, hb, w1, w3, ht', go]
      · have b1 : (k + 1 == u) = false := by simpa using q1
        have b2 : (k + 1 == v) = false := by simpa using q2
        rw [if_neg q1, if_neg q2] at ht'
        simp [hMe, l1, b1, b2, hb, w1, ht', go]
    · have : k = M := by omega
      subst this
      have l2 : ¬ k + 1 ≤ k := by omega
      simp [hMe, l2]
  · have hlM : (SK u v M).es.length = 0 := by rw [SK_len, if_neg (by omega), if_neg (by omega)]
    have h10M := g10' (n := n) (s := SK u v M)
    have hwA : ∀ k : Nat, Wf (cL u v) (SK u v k) := fun k => by
      induction k with
      | zero => exact hw2
      | succ k ih =>
        have := ih.tick hc.v4
        rw [(SK_tick (by omega) hu.2 hv.2).1] at this
        exact this
    have hwM : InvT (SK u v M) := by
      have := (hwA M.toNat).inv
      rw [show ((M.toNat : Nat) : Int) = M by omega] at this
      exact this
    have hno : ∀ f, ¬ Has (SK u v M) f := by
      rintro f ⟨e, he, _⟩
      rw [List.eq_nil_of_length_eq_zero hlM] at he
      cases he
    have h15 := g15 n (SK u v M) ⟨hwM, by omega, by omega, fun f hf => (hno f hf).elim⟩
    have h15' : G15 n [.pt 2 (some 0), .tup (SK u v M).m1, .tup (SK u v M).m2, .tup (SK u v M).m3, .tup (SK u v M).m4] = some [.fv s48 ((dump (SK u v M)).map Flw.av), .tup (SK u v M).m1, .tup (SK u v M).m2, .tup (SK u v M).m3, .tup (SK u v M).m4] := h15
    have hd := dump_len hwM.toInv
    simp [h10M, hlM, h15', hd]
end Go.Proofs.YtldnpibpbbcjgaaDoor.Am
end
