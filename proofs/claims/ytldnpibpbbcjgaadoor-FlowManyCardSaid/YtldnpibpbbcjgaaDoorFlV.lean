/-
  Many flows: the asks, what a table holds behind them.
  The law FlowMany.
-/
import Derived.Test.YtldnpibpbbcjgaaDoorFlP
import Derived.Test.YtldnpibpbbcjgaaDoorFlL
import Derived.Test.YtldnpibpbbcjgaaDoorFlN
section
set_option linter.unusedVariables false
set_option linter.unusedSimpArgs false
set_option maxRecDepth 20000
namespace Go.Proofs.YtldnpibpbbcjgaaDoor.Am
open Go Go.Am Go.Proofs

def ask (i : Nat) : Tup := ⟨17, ⟨4, [10, 0, ((i / 256 : Nat) : Int), ((i % 256 : Nat) : Int), 0, 0, 0, 0, 0, 0, 0, 0, 0, 0, 0, 0]⟩, ⟨4, [198, 51, 100, 7, 0, 0, 0, 0, 0, 0, 0, 0, 0, 0, 0, 0]⟩, 40000 - (i : Int), 53⟩
def fl (i : Nat) : Flw := ⟨ask i, 40000 - (i : Int), 7, 4⟩
theorem W8 (x : Int) : IntKind.wrap .u8 x = x % 256 := by
  simp [IntKind.wrap, IntKind.signed, IntKind.bits]
noncomputable def G22 : Fun := spec (fun i : Nat => [.int .i64 (i : Int)]) (fun l => (getE l 0).toInt.toNat) fun _ i => if i < 10000 then some [(ask i).av] else none
theorem g22 {n i : Nat} (h : i < 10000) : G22 n [.int .i64 (i : Int)] = some [(ask i).av] := (spec_at (enc := fun i : Nat => [.int .i64 (i : Int)]) i (by simp)).trans (if_pos h)
theorem s22 : SoundCal Tryd.prog env 22 (mkCal D22 G22) := spec_ok snd22 (fun n i r h => by
  split at h
  case isFalse => cases h
  rename_i hi
  cases h
  refine (eq22 n (i : Int)).trans ?_
  have e1 : IntKind.wrap .u8 (Int.fdiv (i : Int) (Int.ofNat (2 ^ (Min.min (Int.toNat 8) (IntKind.bits .i64))))) = ((i / 256 : Nat) : Int) := by
    have : Int.fdiv (i : Int) (Int.ofNat (2 ^ (Min.min (Int.toNat 8) (IntKind.bits .i64)))) = ((i / 256 : Nat) : Int) := by
      refine (Int.fdiv_eq_ediv_of_nonneg _ (b := Int.ofNat (2 ^ (Min.min (Int.toNat 8) (IntKind.bits .i64)))) (Int.natCast_nonneg _)).trans ?_
      rfl
    rw [this, W8]
    omega
  have e2 : IntKind.wrap .u8 (i : Int) = ((i % 256 : Nat) : Int) := by rw [W8]; omega
  have e3 : IntKind.wrap .i64 (40000 - (i : Int)) = 40000 - (i : Int) := W_id (by omega) (by omega)
  rw [e1, e2, e3]
  rfl)
theorem ask_in (i : Nat) : TupIn (ask i) := ⟨rfl, rfl⟩
theorem ask_inj {i j : Nat} (h : ask i = ask j) : i = j := by
  have := congrArg Tup.sp h
  have : 40000 - (i : Int) = 40000 - (j : Int) := this
  omega
theorem ask_judge {i : Nat} (h : i < 10000) : judge (ask i) = 0 := by
  refine judge_ok.2 ⟨⟨rfl, rfl, rfl, ?_, ?_, ?_, ?_⟩, .inr (.inl rfl)⟩
  · show (0 : Int) ≤ 40000 - i; omega
  · show 40000 - (i : Int) ≤ 65535; omega
  · show (0 : Int) ≤ 53; omega
  · show (53 : Int) ≤ 65535; omega
theorem orL_neg {x : Int} {r : List Int} (h : x < 0) : orL (x :: r) < 0 := by rw [orL_cons, if_neg (by omega)]; exact h
theorem fl_lt {i j : Nat} (h : i < j) (hj : j < 10000) : cmpF (fl i).av (fl j).av < 0 := by
  have h1 : cmpL [10, 0, ((i / 256 : Nat) : Int), ((i % 256 : Nat) : Int), 0, 0, 0, 0, 0, 0, 0, 0, 0, 0, 0, 0] [10, 0, ((j / 256 : Nat) : Int), ((j % 256 : Nat) : Int), 0, 0, 0, 0, 0, 0, 0, 0, 0, 0, 0, 0] < 0 := by
    have step : ∀ (x : Int) (a b : List Int), cmpL (x :: a) (x :: b) = cmpL a b := fun x a b => by
      show (if cmpI x x = 0 then cmpL a b else cmpI x x) = _
      rw [if_pos (cmpI_zero.2 rfl)]
    have less : ∀ (x y : Int) (a b : List Int), x < y → cmpL (x :: a) (y :: b) < 0 := fun x y a b hxy => by
      show (if cmpI x y = 0 then cmpL a b else cmpI x y) < 0
      have : cmpI x y = -1 := by unfold cmpI; rw [if_pos hxy]
      rw [this, if_neg (by omega)]
      omega
    rw [step, step]
    by_cases h2 : i / 256 < j / 256
    · exact less _ _ _ _ (by omega)
    · have h3 : i / 256 = j / 256 := by omega
      rw [h3, step]
      exact less _ _ _ _ (by omega)
  have h2 : cmpIP (ask i).s.av (ask j).s.av < 0 := by
    show orL [cmpI 4 4, cmpL (List.take 16 [10, 0, ((i / 256 : Nat) : Int), ((i % 256 : Nat) : Int), 0, 0, 0, 0, 0, 0, 0, 0, 0, 0, 0, 0]) (List.take 16 [10, 0, ((j / 256 : Nat) : Int), ((j % 256 : Nat) : Int), 0, 0, 0, 0, 0, 0, 0, 0, 0, 0, 0, 0])] < 0
    rw [orL_cons, if_pos (by rfl), orL1]
    exact h1
  show orL [cmpI 17 17, cmpIP (ask i).s.av (ask j).s.av, cmpI (40000 - (i : Int)) (40000 - (j : Int)), cmpIP (ask i).d.av (ask j).d.av, cmpI 53 53] < 0
  rw [orL_cons, if_pos (by rfl)]
  exact orL_neg h2
def fls (i : Nat) : List Flw := (List.range i).map fl
theorem mem_fls {i : Nat} {f : Flw} : f ∈ fls i ↔ ∃ k < i, f = fl k := by
  unfold fls
  rw [List.mem_map]
  constructor
  · rintro ⟨k, h, rfl⟩; exact ⟨k, List.mem_range.1 h, rfl⟩
  · rintro ⟨k, h, rfl⟩; exact ⟨k, List.mem_range.2 h, rfl⟩
theorem fls_len (i : Nat) : (fls i).length = i := by unfold fls; simp
theorem fls_at {i j : Nat} (h : j < i) : getE ((fls i).map Flw.av) j = (fl j).av := by
  unfold getE fls
  rw [List.getD_eq_getElem?_getD, List.getElem?_map, List.getElem?_map, List.getElem?_range h]
  rfl
theorem fls_sorted {i : Nat} (h : i ≤ 10000) : Sorted (fls i) := by
  unfold fls Sorted
  rw [List.pairwise_map]
  refine List.Pairwise.imp_of_mem (fun {a b} ha hb hab => ?_) (List.pairwise_lt_range (n := i))
  have hb := List.mem_range.1 hb
  have := fl_lt hab (by omega)
  omega
theorem fls_keys (i : Nat) : ((fls i).map fun f => f.t).Nodup := by
  unfold fls
  rw [List.map_map]
  show List.Pairwise _ _
  rw [List.pairwise_map]
  exact (List.nodup_range (n := i)).imp (fun hne h => hne (ask_inj h))

def cM (m : Int) : Cfg := { cfg0 with max := m, lo := 20000, hi := 60000 }
theorem cM_ok {m : Int} (h1 : 1 ≤ m) (h2 : m ≤ 4096) : CfgOk outB (cM m) :=
  ⟨h1, h2, by show outB cfg0.out = true; decide +kernel, by show (1 : Int) ≤ 20000; decide, by show (20000 : Int) ≤ 60000; decide, by show (60000 : Int) ≤ 65535; decide, by
    show ∀ a ∈ ages cfg0, 1 ≤ a ∧ a ≤ 1048576
    decide⟩

structure Many (m : Int) (i : Nat) (s : Tb) : Prop where
  wf : Wf (cM m) s
  has : ∀ f, Has s f ↔ f ∈ fls i
theorem Many.in16 {m : Int} {i : Nat} {s : Tb} (h : Many m i s) : In16 s := fun f hf => by
  obtain ⟨k, _, rfl⟩ := mem_fls.1 ((h.has f).1 hf)
  exact ask_in k
theorem Many.dump {m : Int} {i : Nat} {s : Tb} (h : Many m i s) (hi : i ≤ 10000) : Am.dump s = fls i :=
  dump_eq h.wf.inv (fls_sorted hi) (fls_keys i) (fun f hf => h.in16 f ((h.has f).2 hf)) (fun f => (h.has f).symm)
theorem Many.len {m : Int} {i : Nat} {s : Tb} (h : Many m i s) (hi : i ≤ 10000) : s.es.length = i := by
  rw [← dump_len h.wf.inv.toInv, h.dump hi, fls_len]
theorem Many.free {m : Int} {i : Nat} {s : Tb} (h : Many m i s) {x : Tup} (hx : ∀ k < i, ask k ≠ x) : fnd x s.es = none := by
  cases hf : fnd x s.es with
  | none => rfl
  | some j =>
    obtain ⟨f, h1, h2, h3⟩ := fnd_has h.wf.inv hf
    obtain ⟨k, hk, rfl⟩ := mem_fls.1 ((h.has f).1 h3)
    exact (hx k hk h2).elim
theorem fls_succ (i : Nat) {f : Flw} : f ∈ fls (i + 1) ↔ f ∈ fls i ∨ f = fl i := by
  rw [mem_fls, mem_fls]
  constructor
  · rintro ⟨k, h, rfl⟩
    by_cases hk : k < i
    · exact .inl ⟨k, hk, rfl⟩
    · exact .inr (by rw [show k = i by omega])
  · rintro (⟨k, h, rfl⟩ | rfl)
    · exact ⟨k, by omega, rfl⟩
    · exact ⟨i, by omega, rfl⟩

/-- An ask that is taken. -/
theorem Many.out {m : Int} (h1 : 1 ≤ m) (h2 : m ≤ 4096) {i : Nat} {s : Tb} (h : Many m i s) (him : (i : Int) < m) : ∃ s', goOut s (ask i) 0 = some (out_ (cM m) (fl i), 0, s') ∧ Many m (i + 1) s' := by
  have hc := cM_ok h1 h2
  obtain ⟨y, e, s', ho, hr⟩ := goOut_ok h.wf hc (ask i) 0
  have hj := ask_judge (i := i) (by omega)
  have hno := h.free (x := ask i) (fun k hk hh => by have := ask_inj hh; omega)
  have hlen := h.len (by omega)
  have hw' := hr.wf h.wf hc
  have hfree : freeB s (ask i).p (40000 - (i : Int)) = true := (free_iff h.wf.inv.toInv).2 (fun f hf _ _ => by
    obtain ⟨k, hk, rfl⟩ := mem_fls.1 ((h.has f).1 hf)
    show 40000 - (k : Int) ≠ 40000 - (i : Int)
    omega)
  have hport : portOf s (ask i) = (40000 - (i : Int), true) := by
    unfold portOf
    rw [if_pos (.inr ⟨by rw [h.wf.cfg]; show 40000 - (i : Int) ≥ 20000; omega, by rw [h.wf.cfg]; show 40000 - (i : Int) ≤ 60000; omega, hfree⟩)]
    rfl
  have hcm : (cM m).max = m := rfl
  cases hr with
  | judge h3 => exact (h3 hj).elim
  | known _ h3 _ hx _ => rw [hx, hno] at h3; cases h3
  | refused _ h3 _ hx _ => rw [hx, hno] at h3; cases h3
  | bad _ _ h3 => cases h3
  | full _ _ _ h3 => rw [hcm] at h3; omega
  | noPort f0 _ _ _ _ h3 => rw [hport] at h3; cases h3
  | new q _ _ _ _ h3 _ _ =>
    rw [hport] at h3
    cases h3
    refine ⟨_, ho, hw', fun f => ?_⟩
    rw [has_add h.wf.inv, h.has, fls_succ]
    exact Iff.rfl
/-- Its answer. -/
theorem Many.back {m : Int} (h1 : 1 ≤ m) (h2 : m ≤ 4096) {i : Nat} {s : Tb} (h : Many m (i + 1) s) : ∃ s', inS s (rev (out_ (cM m) (fl i))) 0 = some (rev (ask i), 0, s') ∧ Many m (i + 1) s' := by
  have hc := cM_ok h1 h2
  have hf : Has s (fl i) := (h.has _).2 (mem_fls.2 ⟨i, by omega, rfl⟩)
  obtain ⟨y, e, s', ho, hr⟩ := inS_ok h.wf hc (rev (out_ (cM m) (fl i))) 0
  have hw' := hr.wf h.wf hc
  have hj := judge_out hc (h.wf.fl _ hf)
  have hsame : ∀ {j : Nat} {f : Flw}, fnd f.t s.es = some j → s.F[j]? = some f → rev (out_ (cM m) f) = rev (out_ (cM m) (fl i)) → f = fl i := fun {j f} h3 h4 h5 => by
    have h6 : Has s f := (has_fnd h.wf.inv).2 ⟨j, h3, h4⟩
    exact has_inj h.wf.inv h6 hf (h.wf.outI hc.v4 h6 hf (rev_inj h5))
  cases hr with
  | judge h3 => exact (h3 hj).elim
  | none _ h3 => exact (h3 _ hf rfl).elim
  | refused _ h3 h4 hx h5 =>
    have e := hsame h3 h4 hx
    subst e
    cases h5 with
    | no h6 => exact absurd h6 (by show ¬ (17 : Int) = 6; decide)
  | @known j f _ _ h3 h4 hx h5 =>
    have e := hsame h3 h4 hx
    subst e
    cases h5 with
    | reset h6 => exact absurd h6 (by show ¬ (17 : Int) = 6; decide)
    | on h6 h7 h8 =>
      refine ⟨_, ho, hw', fun g => ?_⟩
      have e : (fl i).go (cM m) (newSt true (fl i) 0) = fl i := rfl
      rw [e, has_set h.wf.inv h3 h4, ← h.has]
      constructor
      · rintro (h9 | rfl)
        · exact h9.1
        · exact hf
      · intro h9
        by_cases hg : g.t = (fl i).t
        · exact .inr (has_inj h.wf.inv h9 hf hg)
        · exact .inl ⟨h9, hg⟩
/-- An ask that finds no room. -/
theorem Many.full {m : Int} (h1 : 1 ≤ m) (h2 : m ≤ 4096) {i k : Nat} (hk : k < 10000) {s : Tb} (h : Many m i s) (him : (i : Int) = m) (hik : i ≤ k) : ∃ s', goOut s (ask k) 0 = some (zT, 171, s') ∧ Many m i s' := by
  have hc := cM_ok h1 h2
  obtain ⟨y, e, s', ho, hr⟩ := goOut_ok h.wf hc (ask k) 0
  have hj := ask_judge (i := k) hk
  have hno := h.free (x := ask k) (fun q hq hh => by have := ask_inj hh; omega)
  have hlen := h.len (by omega)
  have hw' := hr.wf h.wf hc
  have hcm : (cM m).max = m := rfl
  cases hr with
  | judge h3 => exact (h3 hj).elim
  | known _ h3 _ hx _ => rw [hx, hno] at h3; cases h3
  | refused _ h3 _ hx _ => rw [hx, hno] at h3; cases h3
  | bad _ _ h3 => cases h3
  | full _ _ _ h3 => exact ⟨_, ho, hw', fun f => by rw [has_withF h.wf.inv, h.has]⟩
  | noPort f0 _ _ _ h3 => rw [hcm] at h3; omega
  | new q _ _ _ h3 => rw [hcm] at h3; omega
end Go.Proofs.YtldnpibpbbcjgaaDoor.Am
end

section
set_option linter.unusedVariables false
set_option linter.unusedSimpArgs false
set_option maxRecDepth 20000
namespace Go.Proofs.YtldnpibpbbcjgaaDoor.Am
open Go Go.Am Go.Proofs

theorem loI_ok (x : Int) : 1 ≤ loI x := by
  by_cases h : 1 > x
  · have : loI x = 1 := by unfold loI; rw [decide_eq_true h]; rfl
    omega
  · have : loI x = x := by unfold loI; rw [decide_eq_false h]; rfl
    omega
def clB (b x : Int) : Int := bif decide (b < loI x) then b else loI x
theorem clB_def (b x : Int) : (bif decide (b < loI x) then b else loI x) = clB b x := rfl
theorem clB_ok {b : Int} (hb : 1 ≤ b) (x : Int) : 1 ≤ clB b x ∧ clB b x ≤ b := by
  have h0 := loI_ok x
  by_cases h2 : b < loI x
  · have : clB b x = b := by unfold clB; rw [decide_eq_true h2]; rfl
    omega
  · have : clB b x = loI x := by unfold clB; rw [decide_eq_false h2]; rfl
    omega
def mnI (N m : Int) : Int := bif decide (m < N) then m else N
theorem mnI_def (N m : Int) : (bif decide (m < N) then m else N) = mnI N m := rfl
theorem mnI_ok (N m : Int) : mnI N m ≤ N ∧ mnI N m ≤ m ∧ (mnI N m = N ∨ mnI N m = m) := by
  by_cases h : m < N
  · have : mnI N m = m := by unfold mnI; rw [decide_eq_true h]; rfl
    omega
  · have : mnI N m = N := by unfold mnI; rw [decide_eq_false h]; rfl
    omega

def jAv (e : Int × Int) : AV := .agg [.int .i64 e.1, .int .i64 e.2, .bool true]
theorem mfind_j {q : Int} : ∀ {l : List (Int × Int)}, (∀ e ∈ l, e.2 ≠ q) → mfind (.int .i64 q) (l.map jAv) = none
  | [], _ => rfl
  | e :: r, h => by
    have h1 : (q == e.2) = false := by simpa using fun hh => h e (by simp) hh.symm
    show (match keq (.int .i64 q) (.int .i64 e.2) with | true => some (jAv e) | false => mfind (.int .i64 q) (r.map jAv)) = none
    rw [keq_int, h1]
    exact mfind_j (fun x hx => h x (by simp [hx]))
theorem mget_j {q : Int} {l : List (Int × Int)} (h : ∀ e ∈ l, e.2 ≠ q) : mget (.int .i64 q) (.bool false) (l.map jAv) = .bool false := by
  unfold mget
  rw [mfind_j h]
theorem mhas_j {q : Int} {l : List (Int × Int)} (h : ∀ e ∈ l, e.2 ≠ q) : mhas (.int .i64 q) (l.map jAv) = false := by
  unfold mhas
  rw [mfind_j h]
theorem mput_j {q ck : Int} {l : List (Int × Int)} (h : ∀ e ∈ l, e.2 ≠ q) : mput (.int .i64 q) (.bool true) (l.map jAv) ck = (l ++ [(ck, q)]).map jAv := by
  unfold mput
  rw [mhas_j h, List.map_append]
  rfl
theorem mputC_j {q ck : Int} {l : List (Int × Int)} (h : ∀ e ∈ l, e.2 ≠ q) : mputC (.int .i64 q) (l.map jAv) ck = ck + 1 := by
  unfold mputC
  rw [mhas_j h]
theorem mapAt_some (l : List AV) (i : Nat) : mapAt l (some i) = getE l i := rfl

structure MGood (m N : Int) (q : Tb × List (Int × Int) × Int × Nat) : Prop where
  many : Many m (min q.2.2.2 m.toNat) q.1
  tk : ∀ e ∈ q.2.1, ∃ k : Nat, k < q.2.2.2 ∧ e.2 = 40000 - (k : Int)
  le : ((q.2.2.2 : Nat) : Int) ≤ N

theorem fls_left {w : Nat} {f : Flw} (h : f ∈ fls w) : f.left = 4 ∧ f.st = 7 := by
  obtain ⟨k, _, rfl⟩ := mem_fls.1 h
  exact ⟨rfl, rfl⟩
theorem fls_ends (i : Int) (w : Nat) : endsN i (fls w) = if i = 4 then w else 0 := by
  unfold endsN
  by_cases h : i = 4
  · rw [if_pos h, List.countP_eq_length.2 (fun f hf => by simpa [h] using (fls_left hf).1), fls_len]
  · rw [if_neg h, List.countP_eq_zero.2 (fun f hf => by
      have := (fls_left hf).1
      simp
      omega)]
theorem fls_want (i : Int) (w : Nat) : (wantL i (fls w)).length = if i < 4 then w else 0 := by
  unfold wantL
  rw [List.length_map]
  by_cases h : i < 4
  · rw [if_pos h, List.filter_eq_self.2 (fun f hf => by
      have := (fls_left hf).1
      simp
      omega), fls_len]
  · rw [if_neg h, List.filter_eq_nil_iff.2 (fun f hf => by
      have := (fls_left hf).1
      simp
      omega)]
    rfl
theorem AtK.len {c : Cfg} {L : List Flw} (hk : (L.map fun f => f.t).Nodup) {k : Nat} {t : Tb} (h : AtK c L k t) : t.es.length = (wantL k L).length := by
  rw [← live_len h.wf.inv.toInv]
  exact (live_perm h.wf.inv ((want_keys k L).nodup hk) (fun g => (h.has g).symm)).length_eq

def PostM (m N : Int) (d : List AV) : Prop := ∃ s tk, Many m (mnI N m).toNat s ∧ d = [.tup s.m1, .tup s.m2, .tup s.m3, .tup s.m4, .tup tk, .int .i64 N, .int .i64 m, (cM m).av, .pt 2 (some 0)]
def PostX (m N : Int) (X : Option (Sum (List AV) (List AV))) : Prop := ∃ d : List AV, X = some (Sum.inl d) ∧ PostM m N d
def PostT (m : Int) (tk : List AV) (X : Option (Sum (List AV) (List AV))) : Prop := ∃ d : List AV, X = some (Sum.inl d) ∧ ∃ t, Many m 0 t ∧ d = [.tup t.m1, .tup t.m2, .tup t.m3, .tup t.m4, .tup tk, .pt 2 (some 0)]
theorem many_ok (x0 x1 : Int) (n : Nat) (hn : 70000 < n) : run6 G9 G10 G11 G12 G13 G15 G18 G20 (G21 outB) G22 n x0 x1 = some [.bool true] := by
  refine (eq6 G9 G10 G11 G12 G13 G15 G18 G20 (G21 outB) G22 n x0 x1).trans ?_
  have h9 := g9 (by omega : 65537 < n)
  simp only [mIf, loI_def, clB_def]
  simp only [mnI_def]
  have hN := clB_ok (b := 4200) (by omega) x0
  have hm := clB_ok (b := 4096) (by omega) x1
  generalize clB 4200 x0 = N at hN
  generalize clB 4096 x1 = m at hm
  have hc := cM_ok hm.1 hm.2
  have h21 := g21' (n := n) hc (by omega)
  have hw0 := Wf.newT hc
  have hM0 : Many m 0 (newT (cM m)) := ⟨hw0, fun f => ⟨fun ⟨e, h, _⟩ => (List.not_mem_nil h).elim, fun h => by
    obtain ⟨k, hk, _⟩ := mem_fls.1 h
    omega⟩⟩
  have e1 : (AV.agg [.int .i64 m, cfg0.out.av, .int .i64 20000, .int .i64 60000, .int .i64 cfg0.syn, .int .i64 cfg0.tcp, .int .i64 cfg0.fin, .int .i64 cfg0.udp, .int .i64 cfg0.icmp]) = (cM m).av := rfl
  simp [g20, e1, h21, h9]
  refine jn_post (PostM m N) ?_ ?_
  · refine iter_post (fun q : Tb × List (Int × Int) × Int × Nat => [.tup q.1.m1, .tup q.1.m2, .tup q.1.m3, .tup q.1.m4, .tup [.mc (q.2.1.map jAv) q.2.2.1], .int .i64 N, .int .i64 m, (cM m).av, .pt 2 (some 0), .mp 6 (some 0), .int .i64 (q.2.2.2 : Nat)]) (fun q => 5000 - q.2.2.2) (MGood m N) (PostX m N) (fun q k hg hk => ?_) n (newT (cM m), [], 0, 0) (by show 5000 - 0 < n; omega) ⟨by rw [Nat.zero_min]; exact hM0, fun e he => (List.not_mem_nil he).elim, by show (0 : Int) ≤ N; omega⟩
    obtain ⟨s, l, ck, i⟩ := q
    obtain ⟨hmany, htk, hle⟩ := hg
    simp only at hmany htk hle
    by_cases hiN : (i : Int) < N
    · have hi10 : i < 10000 := by omega
      have w1 : IntKind.wrap .i64 ((i : Int) + 1) = (i : Int) + 1 := W_id (by omega) (by omega)
      have h22 := g22 (n := n) hi10
      by_cases him : (i : Int) < m
      · rw [Nat.min_eq_left (by omega)] at hmany
        obtain ⟨s1, ho, hm1⟩ := hmany.out hm.1 hm.2 him
        obtain ⟨s2, hin, hm2⟩ := hm1.back hm.1 hm.2
        have h11 := g11' (x := ask i) (fl := 0) hmany.wf hc (by omega : 65537 < n)
        have h12 := g12' (n := n) (s := s1) (x := rev (out_ (cM m) (fl i))) (fl := 0)
        rw [ho, outI_some] at h11
        rw [hin, outI_some] at h12
        have h10 := g10' (n := n) (s := s1)
        have hl1 := hm1.len (by omega)
        have y1 : (out_ (cM m) (fl i)).sp = 40000 - (i : Int) := rfl
        have y2 : (out_ (cM m) (fl i)).s = cfg0.out := rfl
        have y3 : (out_ (cM m) (fl i)).d = (ask i).d := rfl
        generalize out_ (cM m) (fl i) = Y at h11 h12 y1 y2 y3
        have hne : ∀ e ∈ l, e.2 ≠ 40000 - (i : Int) := fun e he => by
          obtain ⟨q, h1, h2⟩ := htk e he
          omega
        have a1 := mget_j hne
        have a2 := mput_j (ck := ck) hne
        have a3 := mputC_j (ck := ck) hne
        have c1 : ¬ m ≤ (i : Int) := by omega
        have c2 : ¬ 40000 - (i : Int) < 20000 := by omega
        have c3 : ¬ 60000 < 40000 - (i : Int) := by omega
        have z1 : (cM m).lo = 20000 := rfl
        have z2 : (cM m).hi = 60000 := rfl
        have z3 : (cM m).out = cfg0.out := rfl
        have go := hk (s2, l ++ [(ck, 40000 - (i : Int))], ck + 1, i + 1) (by show 5000 - (i + 1) < 5000 - i; omega) ⟨by rw [Nat.min_eq_left (by show i + 1 ≤ m.toNat; omega)]; exact hm2, fun e he => by
          rcases List.mem_append.1 he with he | he
          · obtain ⟨q, h1, h2⟩ := htk e he
            exact ⟨q, by show q < i + 1; omega, h2⟩
          · rw [List.mem_singleton.1 he]
            exact ⟨i, by show i < i + 1; omega, rfl⟩, by show ((i + 1 : Nat) : Int) ≤ N; omega⟩
        simp [hiN, h22, h11, c1, y1, y2, y3, mapAt_some, a1, z1, z2, z3, c2, c3, keq_ip, h10, hl1, g13, h12, a2, a3, keq_tup, w1]
        simp only [List.map_append, List.map_cons, List.map_nil] at go
        exact go
      · have hmn : min i m.toNat = m.toNat := Nat.min_eq_right (by omega)
        rw [hmn] at hmany
        obtain ⟨s1, ho, hm1⟩ := hmany.full hm.1 hm.2 (k := i) hi10 (by omega) (by omega)
        have h11 := g11' (x := ask i) (fl := 0) hmany.wf hc (by omega : 65537 < n)
        rw [ho, outI_some] at h11
        have h10 := g10' (n := n) (s := s1)
        have hl1 := hm1.len (by omega)
        have hl2 : ((m.toNat : Nat) : Int) = m := by omega
        have c1 : m ≤ (i : Int) := by omega
        have go := hk (s1, l, ck, i + 1) (by show 5000 - (i + 1) < 5000 - i; omega) ⟨by rw [Nat.min_eq_right (by show m.toNat ≤ i + 1; omega)]; exact hm1, fun e he => by
          obtain ⟨q, h1, h2⟩ := htk e he
          exact ⟨q, by show q < i + 1; omega, h2⟩, by show ((i + 1 : Nat) : Int) ≤ N; omega⟩
        have hmax : max m 0 = m := by omega
        simp [hiN, h22, h11, c1, z34_eq, keq_tup, h10, hl1, hl2, hmax, w1]
        exact go
    · have hend : min i m.toNat = (mnI N m).toNat := by
        have := mnI_ok N m
        omega
      rw [hend] at hmany
      simp [hiN]
      exact ⟨_, rfl, s, _, hmany, rfl⟩
  · rintro d ⟨s, tk, hmany, rfl⟩
    have hmn := mnI_ok N m
    have hw : 0 ≤ mnI N m := by omega
    obtain ⟨w, hwe⟩ : ∃ w : Nat, mnI N m = (w : Int) := ⟨(mnI N m).toNat, by omega⟩
    rw [hwe] at hmany
    have hw1 : w ≤ 4096 := by omega
    have hw0' : 1 ≤ w := by omega
    replace hmany : Many m w s := hmany
    have h15 := g15' (hmany.wf.dumpOk hc hmany.in16 (by omega : 65537 < n))
    rw [hmany.dump (by omega)] at h15
    have hfl := fls_len w
    simp [h15, hfl, hwe]
    have zu : (cM m).udp = 4 := rfl
    refine (jn_l (d := [.tup s.m1, .tup s.m2, .tup s.m3, .tup s.m4, .tup tk, (cM m).av, .pt 2 (some 0), .int .i64 (w : Int)]) ?_).trans ?_
    · refine Eq.trans (iter_any (fun j : Nat => [.tup s.m1, .tup s.m2, .tup s.m3, .tup s.m4, .tup tk, (cM m).av, .pt 2 (some 0), .int .i64 (w : Int), .fv s48 ((fls w).map Flw.av), .int .i64 (j : Nat)]) (fun j => w - j) (fun _ => (Sum.inl [.tup s.m1, .tup s.m2, .tup s.m3, .tup s.m4, .tup tk, (cM m).av, .pt 2 (some 0), .int .i64 (w : Int)])) (fun j => j ≤ w) (fun j K hj hK => ?_) n 0 (by show w - 0 < n; omega) (Nat.zero_le _)) rfl
      by_cases hjw : j < w
      · have r1 : inR ((j : Nat) : Int) w = true := inR_ok (by omega) (by omega)
        have r2 : Nat.ble (j + 1) w = true := Nat.ble_eq_true_of_le (by omega)
        have w1 : IntKind.wrap .i64 ((j : Int) + 1) = (j : Int) + 1 := W_id (by omega) (by omega)
        have h22 := g22 (n := n) (i := j) (by omega)
        have hge := fls_at hjw
        have q1 : (fl j).t = ask j := rfl
        have q2 : (fl j).left = 4 := rfl
        have q3 : (fl j).st = 7 := rfl
        simp [hjw, hfl, r1, r2, h22, hge, q1, q2, q3, zu, keq_tup, w1]
        exact hK (j + 1) (by show w - (j + 1) < w - j; omega) (by show j + 1 ≤ w; omega)
      · simp [hjw]
    · simp
      refine jn_post (fun d => ∃ t, Many m 0 t ∧ d = [.tup t.m1, .tup t.m2, .tup t.m3, .tup t.m4, .tup tk, .pt 2 (some 0)]) ?_ ?_
      · have hk0 := fls_keys w
        have hat0 : AtK (cM m) (fls w) 0 s := ⟨hmany.wf, fun g => by rw [show ((0 : Nat) : Int) = 0 from rfl, want0 (fun f hf => by rw [(fls_left hf).1]; decide), hmany.has]⟩
        refine iter_post (fun q : Tb × Nat => [.tup q.1.m1, .tup q.1.m2, .tup q.1.m3, .tup q.1.m4, .tup tk, (cM m).av, .pt 2 (some 0), .int .i64 (w : Int), .int .i64 ((q.2 : Int) + 1)]) (fun q => 5 - q.2) (fun q => AtK (cM m) (fls w) q.2 q.1 ∧ q.2 ≤ 4) (PostT m tk) (fun q k hg hkk => ?_) n (s, 0) (by show 5 - 0 < n; omega) ⟨hat0, Nat.zero_le _⟩
        obtain ⟨t, i⟩ := q
        obtain ⟨hat, hi4⟩ := hg
        simp only at hat hi4
        by_cases h4 : i < 4
        · have l1 : (i : Int) + 1 ≤ 4 := by omega
          have hat' := hat.tick hc
          have hcnt := hat.cnt hk0
          rw [fls_ends] at hcnt
          have h18 := g18' (hat.wf.tickOk hc (by omega : 65537 < n))
          rw [hcnt] at h18
          have h10 := g10' (n := n) (s := tickS t)
          have hlen := hat'.len hk0
          rw [fls_want] at hlen
          have w1 : IntKind.wrap .i64 ((i : Int) + 1 + 1) = (i : Int) + 1 + 1 := W_id (by omega) (by omega)
          have go := hkk (tickS t, i + 1) (by show 5 - (i + 1) < 5 - i; omega) ⟨hat', by show i + 1 ≤ 4; omega⟩
          by_cases h3 : i = 3
          · subst h3
            have w2 : IntKind.wrap .i64 ((w : Int) - (w : Int)) = 0 := by rw [Int.sub_self]; decide
            have w3 : IntKind.wrap .i64 (5 : Int) = 5 := by decide
            have w4 : IntKind.wrap .i64 (0 : Int) = 0 := by decide
            have hlen' : (tickS t).es.length = 0 := by rw [hlen, if_neg (by decide)]
            rw [if_pos (by decide)] at h18
            simp [zu, h18, h10, hlen', w2, w3, w4]
            exact go
          · have q1 : ((i : Int) + 1 == 4) = false := by simp; omega
            have w2 : IntKind.wrap .i64 ((w : Int) - 0) = (w : Int) := by rw [Int.sub_zero]; exact W_id (by omega) (by omega)
            have w4 : IntKind.wrap .i64 (w : Int) = (w : Int) := W_id (by omega) (by omega)
            have hlen' : (tickS t).es.length = w := by rw [hlen, if_pos (by omega)]
            rw [if_neg (by omega)] at h18
            simp [zu, l1, q1, h18, h10, hlen', w1, w2, w4]
            exact go
        · have l1 : ¬ (i : Int) + 1 ≤ 4 := by omega
          have hat4 : Many m 0 t := ⟨hat.wf, fun g => by
            rw [hat.has, mem_want, mem_fls]
            constructor
            · rintro ⟨f, hf, hl, _⟩
              have := (fls_left hf).1
              omega
            · rintro ⟨k, hk, _⟩
              omega⟩
          simp [zu, l1]
          exact ⟨_, rfl, t, hat4, rfl⟩
      · rintro d ⟨t, ht, rfl⟩
        obtain ⟨t', ho, ht'⟩ := ht.out hm.1 hm.2 (by omega)
        have h11 := g11' (x := ask 0) (fl := 0) ht.wf hc (by omega : 65537 < n)
        rw [ho, outI_some] at h11
        have h220 : G22 n [.int .i64 0] = some [(ask 0).av] := g22 (i := 0) (by omega)
        have h15' := g15' (ht'.wf.dumpOk hc ht'.in16 (by omega : 65537 < n))
        rw [ht'.dump (by omega)] at h15'
        have y1 : (out_ (cM m) (fl 0)).sp = 40000 := rfl
        have hf1 := fls_len (0 + 1)
        simp [h220, h11, y1, h15', hf1]
end Go.Proofs.YtldnpibpbbcjgaaDoor.Am
end
