/-
  The flow's data xs plain data; what it is to say of a function what it computes.
  The flow's leaves: Reverse, Valid, judge, segment, outside, time.
  The flow's steps: a segment's kind, a flow's end, a flow goes on.
  A flow goes on, or may not.
  Rounds over the table's flows, in any order.
-/
import Derived.Test.YtldnpibpbbcjgaaDoorFlA
import Derived.Test.YtldnpibpbbcjgaaDoorFlB
section
set_option linter.unusedVariables false
namespace Go.Proofs.YtldnpibpbbcjgaaDoor.Am
open Go Go.Am Go.Proofs

structure IP where
  v : Int
  a : List Int
deriving DecidableEq
structure Tup where
  p : Int
  s : IP
  d : IP
  sp : Int
  dp : Int
deriving DecidableEq
structure Flw where
  t : Tup
  port : Int
  st : Int
  left : Int
deriving DecidableEq
structure Cfg where
  max : Int
  out : IP
  lo : Int
  hi : Int
  syn : Int
  tcp : Int
  fin : Int
  udp : Int
  icmp : Int
deriving DecidableEq

def IP.av (x : IP) : AV := .agg [.int .i64 x.v, .arr .u8 16 x.a]
def IP.of (x : AV) : IP := ⟨(x.item 0).toInt, (x.item 1).toInts⟩
def Tup.av (x : Tup) : AV := .agg [.int .i64 x.p, x.s.av, x.d.av, .int .i64 x.sp, .int .i64 x.dp]
def Tup.of (x : AV) : Tup := ⟨(x.item 0).toInt, IP.of (x.item 1), IP.of (x.item 2), (x.item 3).toInt, (x.item 4).toInt⟩
def Flw.av (x : Flw) : AV := .agg [x.t.av, .int .i64 x.port, .int .i64 x.st, .int .i64 x.left]
def Flw.of (x : AV) : Flw := ⟨Tup.of (x.item 0), (x.item 1).toInt, (x.item 2).toInt, (x.item 3).toInt⟩
def Cfg.av (x : Cfg) : AV := .agg [.int .i64 x.max, x.out.av, .int .i64 x.lo, .int .i64 x.hi, .int .i64 x.syn, .int .i64 x.tcp, .int .i64 x.fin, .int .i64 x.udp, .int .i64 x.icmp]
def Cfg.of (x : AV) : Cfg := ⟨(x.item 0).toInt, IP.of (x.item 1), (x.item 2).toInt, (x.item 3).toInt, (x.item 4).toInt, (x.item 5).toInt, (x.item 6).toInt, (x.item 7).toInt, (x.item 8).toInt⟩

theorem IP.eta (x : AV) : eta s24 x = (IP.of x).av := rfl
theorem Tup.eta (x : AV) : eta s34 x = (Tup.of x).av := rfl
theorem Flw.eta (x : AV) : eta s48 x = (Flw.of x).av := rfl
theorem Cfg.eta (x : AV) : eta s26 x = (Cfg.of x).av := rfl
@[simp] theorem IP.of_av (x : IP) : IP.of x.av = x := rfl
@[simp] theorem Tup.of_av (x : Tup) : Tup.of x.av = x := rfl
@[simp] theorem Flw.of_av (x : Flw) : Flw.of x.av = x := rfl
@[simp] theorem Cfg.of_av (x : Cfg) : Cfg.of x.av = x := rfl

/-- A function given by what it does to arguments of a kind: 'enc' lays them out. -/
noncomputable def spec {α : Type} (enc : α → List AV) (dec : List AV → α) (out : Nat → α → Option (List AV)) : Fun := fun n xs =>
  open Classical in if enc (dec xs) = xs then out n (dec xs) else none

theorem spec_at {α : Type} {enc : α → List AV} {dec : List AV → α} {out : Nat → α → Option (List AV)} {n : Nat} (a : α) (h : dec (enc a) = a) : spec enc dec out n (enc a) = out n a := by
  unfold spec
  rw [h, if_pos rfl]

theorem spec_some {α : Type} {enc : α → List AV} {dec : List AV → α} {out : Nat → α → Option (List AV)} {n : Nat} {xs r : List AV} (h : spec enc dec out n xs = some r) : ∃ a, enc a = xs ∧ out n a = some r := by
  unfold spec at h
  split at h
  · rename_i he; exact ⟨_, he, h⟩
  · cases h

theorem mono_ok {P : Program} {E : Env} {f : FuncId} {D : FnD} {F G : Fun} (h : SoundCal P E f (mkCal D F)) (hG : ∀ n xs r, G n xs = some r → F n xs = some r) : SoundCal P E f (mkCal D G) := by
  obtain ⟨h1, h2, h3⟩ := h
  exact ⟨h1, h2, fun n xs r hF => h3 n xs r (hG n xs r hF)⟩

theorem monoRo_ok {P : Program} {E : Env} {f : FuncId} {D : FnD} {F G : Fun} (h : SoundCal P E f (mkCal D F)) (hG : ∀ n xs r, G n xs = some r → F n xs = some (r ++ xs.drop D.ps.length)) : SoundCal P E f (calRo D G) := by
  obtain ⟨h1, h2, h3⟩ := h
  refine ⟨h1, h2, fun n xs r hF C args θ0 hE hI hH hargs hglob => ?_⟩
  have := h3 n xs _ (hG n xs r hF) C args θ0 hE hI hH hargs hglob
  have h4 : (mkCal D F).full xs (r ++ xs.drop D.ps.length) = r ++ xs.drop D.ps.length := List.append_nil _
  rw [h4] at this
  exact this

/-- For a function whose answer is plain. -/
theorem spec_ok {P : Program} {E : Env} {f : FuncId} {D : FnD} {F : Fun} {α : Type} {enc : α → List AV} {dec : List AV → α} {out : Nat → α → Option (List AV)} (h : SoundCal P E f (mkCal D F)) (hG : ∀ n a r, out n a = some r → F n (enc a) = some r) : SoundCal P E f (mkCal D (spec enc dec out)) :=
  mono_ok h (fun n xs r hr => by obtain ⟨a, rfl, h2⟩ := spec_some hr; exact hG n a r h2)
theorem specRo_ok {P : Program} {E : Env} {f : FuncId} {D : FnD} {F : Fun} {α : Type} {enc : α → List AV} {dec : List AV → α} {out : Nat → α → Option (List AV)} (h : SoundCal P E f (mkCal D F)) (hG : ∀ n a r, out n a = some r → F n (enc a) = some (r ++ (enc a).drop D.ps.length)) : SoundCal P E f (calRo D (spec enc dec out)) :=
  monoRo_ok h (fun n xs r hr => by obtain ⟨a, rfl, h2⟩ := spec_some hr; exact hG n a r h2)

/-! Steps. -/
theorem brO_t {R : Type} {b : Bool} {x y : Option R} (h : b = true) : brO b x y = x := by rw [h]; rfl
theorem brO_f {R : Type} {b : Bool} {x y : Option R} (h : b = false) : brO b x y = y := by rw [h]; rfl
theorem jn_l {R : Type} {x : Option (Sum (List AV) R)} {d : List AV} {k : List AV → Option R} (h : x = some (.inl d)) : jn x k = k d := by rw [h]; rfl
theorem jn_r {R : Type} {x : Option (Sum (List AV) R)} {r : R} {k : List AV → Option R} (h : x = some (.inr r)) : jn x k = some r := by rw [h]; rfl

/-- The table's state: the flows' boxes, both maps. -/
structure Tb where
  c : Cfg
  F : List Flw
  es : List (Int × Tup × Nat)
  ck : Int
  bs : List (Int × Tup × Tup)
  bk : Int

def eAv (e : Int × Tup × Nat) : AV := .agg [.int .i64 e.1, e.2.1.av, .pt 1 (some e.2.2)]
def bAv (e : Int × Tup × Tup) : AV := .agg [.int .i64 e.1, e.2.1.av, e.2.2.av]
def Tb.m1 (s : Tb) : List AV := s.F.map Flw.av
def Tb.m2 (s : Tb) : List AV := [.agg [s.c.av, .mp 3 (some 0), .mp 4 (some 0)]]
def Tb.m3 (s : Tb) : List AV := [.mc (s.es.map eAv) s.ck]
def Tb.m4 (s : Tb) : List AV := [.mc (s.bs.map bAv) s.bk]
def Tb.ms (s : Tb) : List AV := [.tup s.m1, .tup s.m2, .tup s.m3, .tup s.m4]
def eOf (x : AV) : Int × Tup × Nat := ((x.item 0).toInt, Tup.of (x.item 1), ((x.item 2).toPt).getD 0)
def bOf (x : AV) : Int × Tup × Tup := ((x.item 0).toInt, Tup.of (x.item 1), Tup.of (x.item 2))
/-- The state out of four families. -/
def Tb.of (l : List AV) : Tb :=
  ⟨Cfg.of ((getE (getE l 1).toElems 0).item 0), (getE l 0).toElems.map Flw.of, (getE (getE l 2).toElems 0).ments.map eOf, (getE (getE l 2).toElems 0).mclk, (getE (getE l 3).toElems 0).ments.map bOf, (getE (getE l 3).toElems 0).mclk⟩
theorem map_id' {α β : Type} {f : α → β} {g : β → α} (h : ∀ a, g (f a) = a) (l : List α) : (l.map f).map g = l := by
  induction l with
  | nil => rfl
  | cons a l ih => rw [List.map_cons, List.map_cons, h, ih]
@[simp] theorem Tb.of_ms (s : Tb) : Tb.of s.ms = s := by
  cases s with
  | mk c F es ck bs bk =>
    simp only [Tb.of, Tb.ms, Tb.m1, Tb.m2, Tb.m3, Tb.m4, getE, List.getD_cons_zero, List.getD_cons_succ, AV.toElems, AV.ments, AV.mclk, AV.item]
    rw [map_id' Flw.of_av, map_id' (f := eAv) (g := eOf) (fun e => rfl), map_id' (f := bAv) (g := bOf) (fun e => rfl)]
    rfl
theorem m1_at {s : Tb} {j : Nat} {f : Flw} (h : s.F[j]? = some f) : getE s.m1 j = f.av := by
  unfold getE Tb.m1
  rw [List.getD_eq_getElem?_getD, List.getElem?_map, h]
  rfl
end Go.Proofs.YtldnpibpbbcjgaaDoor.Am
end

section
set_option linter.unusedVariables false
set_option linter.unusedSimpArgs false
namespace Go.Proofs.YtldnpibpbbcjgaaDoor.Am
open Go Go.Am Go.Proofs

def rev (x : Tup) : Tup := ⟨x.p, x.d, x.s, x.dp, x.sp⟩
noncomputable def G13 : Fun := spec (fun t : Tup => [t.av]) (fun l => Tup.of (getE l 0)) fun _ t => some [(rev t).av]
theorem g13 (n : Nat) (t : Tup) : G13 n [t.av] = some [(rev t).av] := spec_at t rfl
theorem s13 : SoundCal Tryd.prog env 13 (mkCal D13 G13) := spec_ok snd13 (fun n t r h => by cases h; exact eq13 n t.av)

def size (x : IP) : Int := if x.v = 6 then 128 else if x.v = 4 ∧ (x.a.drop 4).take 12 = [0, 0, 0, 0, 0, 0, 0, 0, 0, 0, 0, 0] then 32 else 0
def valid (x : IP) : Bool := decide (size x > 0)
noncomputable def G64 : Fun := spec (fun t : IP => [t.av]) (fun l => IP.of (getE l 0)) fun _ t => some [.int .i64 (size t)]
theorem g64 (n : Nat) (t : IP) : G64 n [t.av] = some [.int .i64 (size t)] := spec_at t rfl
theorem s64 : SoundCal Tryd.prog env 64 (mkCal D64 G64) := spec_ok snd64 (fun n t r h => by
  cases h
  refine (eq64 n t.av).trans ?_
  show brO (t.v == 6) _ _ = _
  by_cases h6 : t.v = 6
  · simp [brO, h6, size]
  · rw [brO_f (by simpa using h6)]
    simp only [size, h6, if_false]
    show jn (jn (brO (t.v != 4) _ (inl (some [AV.bool (!(keq (.arr .u8 12 (List.take 12 (List.drop 4 t.a))) _))]))) _) _ = _
    by_cases h4 : t.v = 4
    · rw [brO_f (by simp [h4])]
      by_cases hz : (t.a.drop 4).take 12 = [0, 0, 0, 0, 0, 0, 0, 0, 0, 0, 0, 0]
      · simp only [h4, hz, and_self, if_true]
        rfl
      · simp only [h4, hz, and_false, if_false]
        have : keq (.arr .u8 12 (List.take 12 (List.drop 4 t.a))) (.arr .u8 12 [0, 0, 0, 0, 0, 0, 0, 0, 0, 0, 0, 0]) = false := by
          simp [keq, hz]
        rw [this]
        rfl
    · rw [brO_t (by simpa using h4)]
      simp only [h4, false_and, if_false]
      rfl)

noncomputable def G49 : Fun := spec (fun t : IP => [t.av]) (fun l => IP.of (getE l 0)) fun _ t => some [.bool (valid t)]
theorem g49 (n : Nat) (t : IP) : G49 n [t.av] = some [.bool (valid t)] := spec_at t rfl
theorem s49 : SoundCal Tryd.prog env 49 (mkCal D49 G49) := spec_ok (snd49 G64 s64) (fun n t r h => by
  cases h
  refine (eq49 G64 n t.av).trans ?_
  rw [show eta s24 t.av = t.av from rfl, g64]
  rfl)

def tupOk (x : Tup) : Bool := valid x.s && (valid x.d && (x.s.v == x.d.v && (decide (x.sp ≥ 0) && (decide (x.sp ≤ 65535) && (decide (x.dp ≥ 0) && decide (x.dp ≤ 65535))))))
noncomputable def G41 : Fun := spec (fun t : Tup => [t.av]) (fun l => Tup.of (getE l 0)) fun _ t => some [.bool (tupOk t)]
theorem g41 (n : Nat) (t : Tup) : G41 n [t.av] = some [.bool (tupOk t)] := spec_at t rfl
theorem s41 : SoundCal Tryd.prog env 41 (mkCal D41 G41) := spec_ok (snd41 G49 s49) (fun n t r h => by
  cases h
  refine (eq41 G49 n t.av).trans ?_
  rw [show eta s24 (AV.item t.av 1) = t.s.av from rfl, show eta s24 (AV.item t.av 2) = t.d.av from rfl, g49, g49]
  show brO (valid t.s) (brO (valid t.d) (brO (t.s.v == t.d.v) (brO (decide (t.sp ≥ 0)) (brO (decide (t.sp ≤ 65535)) (brO (decide (t.dp ≥ 0)) _ _) _) _) _) _) _ = _
  unfold tupOk
  cases valid t.s <;> cases valid t.d <;> cases (t.s.v == t.d.v) <;> cases decide (t.sp ≥ 0) <;> cases decide (t.sp ≤ 65535) <;> cases decide (t.dp ≥ 0) <;> rfl)

def isEcho (x : Tup) : Bool := (x.p == 1 && x.s.v == 4) || (x.p == 58 && x.s.v == 6)
noncomputable def G28 : Fun := spec (fun t : Tup => [t.av]) (fun l => Tup.of (getE l 0)) fun _ t => some [.bool (isEcho t)]
theorem g28 (n : Nat) (t : Tup) : G28 n [t.av] = some [.bool (isEcho t)] := spec_at t rfl
theorem s28 : SoundCal Tryd.prog env 28 (mkCal D28 G28) := spec_ok snd28 (fun n t r h => by
  cases h
  refine (eq28 n t.av).trans ?_
  show brO (t.p == 1) (brO (t.s.v == 4) _ (brO (t.p == 58) (some [AV.bool (t.s.v == 6)]) _)) (brO (t.p == 58) (some [AV.bool (t.s.v == 6)]) _) = _
  unfold isEcho
  cases (t.p == 1) <;> cases (t.s.v == 4) <;> cases (t.p == 58) <;> cases (t.s.v == 6) <;> rfl)

def judge (x : Tup) : Int := if tupOk x = false then 170 else if x.p ≠ 6 ∧ x.p ≠ 17 ∧ isEcho x = false then 174 else 0
noncomputable def G24 : Fun := spec (fun t : Tup => [t.av]) (fun l => Tup.of (getE l 0)) fun _ t => some [.int .i64 (judge t)]
theorem g24 (n : Nat) (t : Tup) : G24 n [t.av] = some [.int .i64 (judge t)] := spec_at t rfl
theorem s24_ : SoundCal Tryd.prog env 24 (mkCal D24 G24) := spec_ok (snd24 G28 G41 s28 s41) (fun n t r h => by
  cases h
  refine (eq24 G28 G41 n t.av).trans ?_
  rw [show eta s34 t.av = t.av from rfl, g41, g28]
  show brO (!(tupOk t)) _ (jn (jn (brO (t.p != 6) (brO (t.p != 17) (inl (some [.bool (!(isEcho t))])) _) _) _) _) = _
  unfold judge
  cases tupOk t
  · rfl
  · by_cases h6 : t.p = 6
    · rw [brO_f (b := t.p != 6) (by simp [h6])]
      simp only [h6]
      rfl
    · rw [brO_t (b := t.p != 6) (by simp [h6])]
      by_cases h17 : t.p = 17
      · rw [brO_f (b := t.p != 17) (by simp [h17])]
        simp only [h17]
        rfl
      · rw [brO_t (b := t.p != 17) (by simp [h17])]
        have e : (t.p ≠ 6 ∧ t.p ≠ 17 ∧ isEcho t = false) ↔ isEcho t = false := by simp [h6, h17]
        simp only [e]
        cases isEcho t <;> rfl)

def out_ (c : Cfg) (f : Flw) : Tup := ⟨f.t.p, if f.t.s.v = 4 then c.out else f.t.s, f.t.d, f.port, f.t.dp⟩
noncomputable def G25 : Fun := spec (fun p : Flw × Tb => .pt 2 (some 0) :: p.1.av :: p.2.ms) (fun l => (Flw.of (getE l 1), Tb.of (l.drop 2))) fun _ p => some [(out_ p.2.c p.1).av]
theorem g25 (n : Nat) (f : Flw) (s : Tb) : G25 n (.pt 2 (some 0) :: f.av :: s.ms) = some [(out_ s.c f).av] :=
  spec_at (enc := fun p : Flw × Tb => .pt 2 (some 0) :: p.1.av :: p.2.ms) (f, s) (by
    show (Flw.of f.av, Tb.of s.ms) = _
    rw [Tb.of_ms]; rfl)
theorem s25 : SoundCal Tryd.prog env 25 (calRo D25 G25) := specRo_ok snd25 (fun n p r h => by
  obtain ⟨f, s⟩ := p
  cases h
  refine (eq25 n (some 0) f.av s.m1 s.m2 s.m3 s.m4).trans ?_
  show jn (brO (f.t.s.v == 4) _ _) _ = _
  unfold out_
  by_cases h4 : f.t.s.v = 4
  · rw [brO_t (by simp [h4])]
    simp only [h4, if_true]
    rfl
  · rw [brO_f (by simp [h4])]
    simp only [h4, if_false]
    rfl)
theorem s10 : SoundCal Tryd.prog env 10 (calRo D10 (spec (fun s : Tb => .pt 2 (some 0) :: s.ms) (fun l => Tb.of (l.drop 1)) fun _ s => some [.int .i64 s.es.length])) := specRo_ok snd10 (fun n s r h => by
  cases h
  refine (eq10 n (some 0) s.m1 s.m2 s.m3 s.m4).trans ?_
  show some [AV.int .i64 (Int.ofNat (List.length (s.es.map eAv))), _, _, _, _] = _
  rw [List.length_map]
  rfl)
noncomputable def G10 : Fun := spec (fun s : Tb => .pt 2 (some 0) :: s.ms) (fun l => Tb.of (l.drop 1)) fun _ s => some [.int .i64 s.es.length]
theorem g10 (n : Nat) (s : Tb) : G10 n (.pt 2 (some 0) :: s.ms) = some [.int .i64 s.es.length] :=
  spec_at (enc := fun s : Tb => .pt 2 (some 0) :: s.ms) s (Tb.of_ms s)

/-- How long a flow lives from now. -/
def time (c : Cfg) (f : Flw) : Int :=
  if f.st = 1 ∨ f.st = 2 then c.syn else if f.st = 3 then c.tcp else if f.st = 4 ∨ f.st = 5 ∨ f.st = 6 then c.fin else if f.t.p = 17 then c.udp else c.icmp
noncomputable def G30 : Fun := spec (fun p : Flw × Tb => .pt 2 (some 0) :: p.1.av :: p.2.ms) (fun l => (Flw.of (getE l 1), Tb.of (l.drop 2))) fun _ p => some [.int .i64 (time p.2.c p.1)]
theorem g30 (n : Nat) (f : Flw) (s : Tb) : G30 n (.pt 2 (some 0) :: f.av :: s.ms) = some [.int .i64 (time s.c f)] :=
  spec_at (enc := fun p : Flw × Tb => .pt 2 (some 0) :: p.1.av :: p.2.ms) (f, s) (by
    show (Flw.of f.av, Tb.of s.ms) = _
    rw [Tb.of_ms]; rfl)
theorem s30 : SoundCal Tryd.prog env 30 (calRo D30 G30) := specRo_ok snd30 (fun n p r h => by
  obtain ⟨f, s⟩ := p
  cases h
  refine (eq30 n (some 0) f.av s.m1 s.m2 s.m3 s.m4).trans ?_
  show jn (jn (brO (f.st == 1) (inl (some [_, _, _, _, _, _, _, .bool (f.st == 1)])) (inl (some [_, _, _, _, _, _, _, .bool (f.st == 2)]))) _) _ = _
  unfold time
  by_cases h1 : f.st = 1
  · simp only [h1]; rfl
  · rw [brO_f (b := f.st == 1) (by simp [h1])]
    by_cases h2 : f.st = 2
    · simp only [h2]; rfl
    · rw [show (f.st == 2) = false by simp [h2]]
      show jn (brO (f.st == 3) _ (jn (brO (f.st == 4) (inl (some [_, _, _, _, _, _, .bool (f.st == 4)])) (brO (f.st == 5) (inl (some [_, _, _, _, _, _, .bool (f.st == 5)])) (inl (some [_, _, _, _, _, _, .bool (f.st == 6)])))) _)) _ = _
      simp only [h1, h2, or_self, if_false]
      by_cases h3 : f.st = 3
      · simp only [h3]; rfl
      · rw [brO_f (b := f.st == 3) (by simp [h3])]
        simp only [h3, if_false]
        have fin : ∀ b : Bool, b = decide (f.st = 4 ∨ f.st = 5 ∨ f.st = 6) → True := fun _ _ => trivial
        by_cases h4 : f.st = 4
        · simp only [h4]; rfl
        · rw [brO_f (b := f.st == 4) (by simp [h4])]
          by_cases h5 : f.st = 5
          · simp only [h5]; rfl
          · rw [brO_f (b := f.st == 5) (by simp [h5])]
            by_cases h6 : f.st = 6
            · simp only [h6]; rfl
            · rw [show (f.st == 6) = false by simp [h6]]
              simp only [h4, h5, h6, or_self, if_false]
              show brO (f.t.p == 17) _ _ = _
              by_cases hp : f.t.p = 17
              · rw [brO_t (by simp [hp])]
                simp only [hp, if_true]
                rfl
              · rw [brO_f (by simp [hp])]
                simp only [hp, if_false]
                rfl)
end Go.Proofs.YtldnpibpbbcjgaaDoor.Am
end

section
set_option linter.unusedVariables false
set_option linter.unusedSimpArgs false
namespace Go.Proofs.YtldnpibpbbcjgaaDoor.Am
open Go Go.Am Go.Proofs

/-! Keys. -/
theorem keq_ip (a b : IP) : keq a.av b.av = decide (a = b) := by
  obtain ⟨v, l⟩ := a
  obtain ⟨v', l'⟩ := b
  show ((IntKind.i64 == IntKind.i64 && v == v') && ((IntKind.u8 == IntKind.u8 && (Nat.beq 16 16 && l == l')) && true)) = _
  rw [Bool.eq_iff_iff]
  simp [IP.mk.injEq]
theorem keq_tup (a b : Tup) : keq a.av b.av = decide (a = b) := by
  obtain ⟨p, s, d, x, y⟩ := a
  obtain ⟨p', s', d', x', y'⟩ := b
  show ((IntKind.i64 == IntKind.i64 && p == p') && (keq s.av s'.av && (keq d.av d'.av && ((IntKind.i64 == IntKind.i64 && x == x') && ((IntKind.i64 == IntKind.i64 && y == y') && true))))) = _
  rw [keq_ip, keq_ip, Bool.eq_iff_iff]
  simp [Tup.mk.injEq]

variable {β : Type}
def del (k : Tup) : List (Int × Tup × β) → List (Int × Tup × β)
  | [] => []
  | e :: r => if k = e.2.1 then r else e :: del k r
def fnd (k : Tup) : List (Int × Tup × β) → Option β
  | [] => none
  | e :: r => if k = e.2.1 then some e.2.2 else fnd k r

theorem mdel_e (k : Tup) : ∀ es : List (Int × Tup × Nat), mdel k.av (es.map eAv) = (del k es).map eAv
  | [] => rfl
  | e :: r => by
    show (match keq k.av e.2.1.av with | true => r.map eAv | false => eAv e :: mdel k.av (r.map eAv)) = _
    rw [keq_tup, mdel_e k r]
    show _ = (if k = e.2.1 then r else e :: del k r).map eAv
    by_cases h : k = e.2.1 <;> simp [h]
theorem mdel_b (k : Tup) : ∀ es : List (Int × Tup × Tup), mdel k.av (es.map bAv) = (del k es).map bAv
  | [] => rfl
  | e :: r => by
    show (match keq k.av e.2.1.av with | true => r.map bAv | false => bAv e :: mdel k.av (r.map bAv)) = _
    rw [keq_tup, mdel_b k r]
    show _ = (if k = e.2.1 then r else e :: del k r).map bAv
    by_cases h : k = e.2.1 <;> simp [h]

/-! Segments. -/
def hasB (x f : Int) : Bool := (IntKind.wrap .i64 (Int.ofNat (BitVec.toNat ((BitVec.ofInt 64 x) &&& (BitVec.ofInt 64 f))))) != 0
noncomputable def G42 : Fun := spec (fun p : Int × Int => [.int .i64 p.1, .int .i64 p.2]) (fun l => ((getE l 0).toInt, (getE l 1).toInt)) fun _ p => some [.bool (hasB p.2 p.1), .int .i64 p.2]
theorem g42 (n : Nat) (f x : Int) : G42 n [.int .i64 f, .int .i64 x] = some [.bool (hasB x f), .int .i64 x] := spec_at (enc := fun p : Int × Int => [.int .i64 p.1, .int .i64 p.2]) (f, x) rfl
theorem s42 : SoundCal Tryd.prog env 42 (mkCal D42 G42) := spec_ok snd42 (fun n p r h => by cases h; exact eq42 n p.1 p.2)

def seg (x : Int) : Nat := if hasB x 4 then 0 else if hasB x 2 ∧ hasB x 1 then 1 else if hasB x 2 ∧ hasB x 16 then 2 else if hasB x 2 then 3 else if hasB x 1 then 4 else 5
theorem seg_lt (x : Int) : seg x < 6 := by unfold seg; cases hasB x 4 <;> cases hasB x 2 <;> cases hasB x 1 <;> cases hasB x 16 <;> decide
noncomputable def G27 : Fun := spec (fun x : Int => [.int .i64 x]) (fun l => (getE l 0).toInt) fun _ x => some [.int .i64 (seg x : Nat)]
theorem g27 (n : Nat) (x : Int) : G27 n [.int .i64 x] = some [.int .i64 (seg x : Nat)] := spec_at (enc := fun x : Int => [.int .i64 x]) x rfl
theorem s27 : SoundCal Tryd.prog env 27 (mkCal D27 G27) := spec_ok (snd27 G42 s42) (fun n x r h => by
  cases h
  refine (eq27 G42 n x).trans ?_
  unfold seg
  simp only [g42, Option.bind_some, List.length_cons, List.length_nil, Nat.zero_add, getE, List.getD_cons_zero, List.getD_cons_succ, AV.toBool, AV.toInt, jn, inl, inr, brO, show Nat.beq (1 + 1) 2 = true from rfl]
  cases h4 : hasB x 4 <;> cases h2 : hasB x 2 <;> cases h1 : hasB x 1 <;> cases h16 : hasB x 16 <;> simp [h4, h2, h1, h16, g42, brO, jn, inl, inr, getE, AV.toBool, AV.toInt])

/-! Ends. -/
def endS (s : Tb) (f : Flw) : Tb := { s with es := del f.t s.es, bs := del (rev (out_ s.c f)) s.bs }
def encFS (p : Flw × Tb) : List AV := .pt 2 (some 0) :: p.1.av :: p.2.ms
def decFS (l : List AV) : Flw × Tb := (Flw.of (getE l 1), Tb.of (l.drop 2))
theorem decFS_enc (p : Flw × Tb) : decFS (encFS p) = p := by
  obtain ⟨f, s⟩ := p
  show (Flw.of f.av, Tb.of s.ms) = _
  rw [Tb.of_ms]; rfl
noncomputable def G37 : Fun := spec encFS decFS fun _ p => some (endS p.2 p.1).ms
theorem g37 (n : Nat) (f : Flw) (s : Tb) : G37 n (.pt 2 (some 0) :: f.av :: s.ms) = some (endS s f).ms := spec_at (enc := encFS) (f, s) (decFS_enc _)
theorem s37 : SoundCal Tryd.prog env 37 (mkCal D37 G37) := spec_ok (snd37 G13 G25 s13 s25) (fun n p r h => by
  obtain ⟨f, s⟩ := p
  cases h
  refine (eq37 G13 G25 n (some 0) f.av s.m1 s.m2 s.m3 s.m4).trans ?_
  show Option.bind (G25 n [.pt 2 (some 0), f.av, .tup s.m1, .tup s.m2, .tup [.mc (mdel f.t.av (s.es.map eAv)) s.ck], .tup s.m4]) _ = _
  rw [mdel_e]
  rw [show G25 n [.pt 2 (some 0), f.av, .tup s.m1, .tup s.m2, .tup [.mc ((del f.t s.es).map eAv) s.ck], .tup s.m4] = some [(out_ s.c f).av] from g25 n f { s with es := del f.t s.es }]
  show Option.bind (G13 n [(out_ s.c f).av]) _ = _
  rw [g13]
  show some [_, _, AV.tup [.mc (mdel f.t.av (s.es.map eAv)) s.ck], .tup [.mc (mdel (rev (out_ s.c f)).av (s.bs.map bAv)) s.bk]] = _
  rw [mdel_b, mdel_e]
  rfl)
end Go.Proofs.YtldnpibpbbcjgaaDoor.Am
end

section
set_option linter.unusedVariables false
set_option linter.unusedSimpArgs false
namespace Go.Proofs.YtldnpibpbbcjgaaDoor.Am
open Go Go.Am Go.Proofs

def next (comes : Bool) (st : Int) (k : Nat) : Int := getI (AV.toInts (getE (match comes with | true => inL | false => outL) st.toNat)) k
def setFl (s : Tb) (j : Nat) (f : Flw) : Tb := { s with F := s.F.set j f }
def Flw.go (f : Flw) (c : Cfg) (st : Int) : Flw := { f with st := st, left := time c { f with st := st } }
def goes (s : Tb) (j : Nat) (fl : Int) (comes : Bool) : Option (Bool × Tb) := match s.F[j]? with
  | none => none
  | some f => if f.t.p = 6 then
      if seg fl = 0 then some (true, endS s f)
      else if inR f.st 8 = true then
        if next comes f.st (seg fl) = 0 then some (false, s) else some (true, setFl s j (f.go s.c (next comes f.st (seg fl))))
      else none
    else some (true, setFl s j (f.go s.c f.st))

theorem setFl_m1 (s : Tb) (j : Nat) (f : Flw) : s.m1.set j f.av = (setFl s j f).m1 := by
  unfold Tb.m1 setFl
  rw [List.map_set]
theorem setFl_at {s : Tb} {j : Nat} {f g : Flw} (h : s.F[j]? = some f) : (setFl s j g).F[j]? = some g := by
  unfold setFl
  simp [List.getElem?_set, (List.getElem?_eq_some_iff.1 h).1]
theorem setFl_set (s : Tb) (j : Nat) (f g : Flw) : setFl (setFl s j f) j g = setFl s j g := by
  unfold setFl
  simp

def encG (p : Nat × Int × Bool × Tb) : List AV := .pt 2 (some 0) :: .pt 1 (some p.1) :: .int .i64 p.2.1 :: .bool p.2.2.1 :: p.2.2.2.ms
def decG (l : List AV) : Nat × Int × Bool × Tb := (((getE l 1).toPt).getD 0, (getE l 2).toInt, (getE l 3).toBool, Tb.of (l.drop 4))
theorem decG_enc (p : Nat × Int × Bool × Tb) : decG (encG p) = p := by
  obtain ⟨j, x, b, s⟩ := p
  show (j, x, b, Tb.of s.ms) = _
  rw [Tb.of_ms]
def outG (r : Option (Bool × Tb)) : Option (List AV) := match r with | some (b, s) => some (.bool b :: s.ms) | none => none
noncomputable def G26 : Fun := spec encG decG fun _ p => outG (goes p.2.2.2 p.1 p.2.1 p.2.2.1)
theorem g26 (n : Nat) (j : Nat) (x : Int) (b : Bool) (s : Tb) : G26 n (.pt 2 (some 0) :: .pt 1 (some j) :: .int .i64 x :: .bool b :: s.ms) = outG (goes s j x b) := spec_at (enc := encG) (j, x, b, s) (decG_enc _)

/-- What comes behind the state's turn: the time. -/
theorem goes_time (n : Nat) (s : Tb) (j : Nat) (f : Flw) (hf : s.F[j]? = some f) (r : Option (List AV)) 
    (h : r = (G30 n [.pt 2 (some 0), eta s48 (getE s.m1 j), .tup s.m1, .tup s.m2, .tup s.m3, .tup s.m4]).bind fun r4 =>
      brO (Nat.beq (List.length r4) 1) (brO true (some [.bool true, .tup (List.set s.m1 j (.agg [eta s34 (AV.item (getE s.m1 j) 0), .int .i64 (AV.toInt (AV.item (getE s.m1 j) 1)), .int .i64 (AV.toInt (AV.item (getE s.m1 j) 2)), .int .i64 (AV.toInt (getE r4 0))])), .tup s.m2, .tup s.m3, .tup s.m4]) none) none) :
    r = some (.bool true :: (setFl s j (f.go s.c f.st)).ms) := by
  rw [h, m1_at hf]
  rw [show G30 n [.pt 2 (some 0), eta s48 f.av, .tup s.m1, .tup s.m2, .tup s.m3, .tup s.m4] = some [.int .i64 (time s.c f)] from g30 n f s]
  show some [_, AV.tup (s.m1.set j (f.go s.c f.st).av), _, _, _] = _
  rw [setFl_m1]
  rfl

theorem s26_ : SoundCal Tryd.prog env 26 (mkCal D26 G26) := spec_ok (snd26 G27 G30 G37 s27 s30 s37) (fun n p r h => by
  obtain ⟨j, x, b, s⟩ := p
  refine (eq26 G27 G30 G37 n (some 0) (some j) x b s.m1 s.m2 s.m3 s.m4).trans ?_
  have h : outG (goes s j x b) = some r := h
  unfold goes at h
  cases hf : s.F[j]? with
  | none => rw [hf] at h; cases h
  | some f =>
    rw [hf] at h
    dsimp only at h
    have hg : getE s.m1 j = f.av := m1_at hf
    rw [brO_t (b := Option.isSome (some j)) rfl]
    simp only [Option.getD_some]
    rw [hg]
    by_cases hp : f.t.p = 6
    · rw [if_pos hp] at h
      rw [brO_t (b := AV.toInt (AV.item (AV.item f.av 0) 0) == 6) (by show (f.t.p == 6) = true; simp [hp]), g27]
      rw [Option.bind_some, brO_t (b := Nat.beq _ 1) rfl]
      by_cases h0 : seg x = 0
      · rw [if_pos h0] at h
        rw [brO_t (b := AV.toInt (getE [AV.int .i64 (seg x : Nat)] 0) == 0) (by show (((seg x : Nat) : Int) == 0) = true; simp [h0])]
        rw [brO_t (b := Option.isSome (some j)) rfl]
        rw [show G37 n [.pt 2 (some 0), eta s48 f.av, .tup s.m1, .tup s.m2, .tup s.m3, .tup s.m4] = some (endS s f).ms from g37 n f s]
        exact h
      · rw [if_neg h0] at h
        rw [brO_f (b := AV.toInt (getE [AV.int .i64 (seg x : Nat)] 0) == 0) (by show (((seg x : Nat) : Int) == 0) = false; simpa using h0)]
        rw [brO_t (b := Option.isSome (some j)) rfl]
        by_cases hst : inR f.st 8 = true
        · rw [if_pos hst] at h
          have h6 : inR ((seg x : Nat) : Int) 6 = true := by
            have := seg_lt x
            unfold inR
            simp
            omega
          rw [show AV.toInt (AV.item f.av 2) = f.st from rfl, show AV.toInt (getE [AV.int .i64 (seg x : Nat)] 0) = ((seg x : Nat) : Int) from rfl, hst, h6]
          rw [show Int.toNat ((seg x : Nat) : Int) = seg x from Int.toNat_natCast _]
          -- the state behind
          have mid : jn (brO b (brO (Option.isSome (some j)) (brO true (brO true (inl (R := Sum (List AV) (List AV)) (some [.tup s.m1, .tup s.m2, .tup s.m3, .tup s.m4, .pt 2 (some 0), .pt 1 (some j), .int .i64 (getI (AV.toInts (getE inL (Int.toNat f.st))) (seg x))])) none) none) none)
              (inl (some [.tup s.m1, .tup s.m2, .tup s.m3, .tup s.m4, .pt 2 (some 0), .pt 1 (some j), .int .i64 (getI (AV.toInts (getE outL (Int.toNat f.st))) (seg x))]))) = jn (R := Sum (List AV) (List AV)) (inl (some [.tup s.m1, .tup s.m2, .tup s.m3, .tup s.m4, .pt 2 (some 0), .pt 1 (some j), .int .i64 (next b f.st (seg x))])) := by
            cases b <;> rfl
          by_cases hn : next b f.st (seg x) = 0
          · rw [if_pos hn] at h
            show jn (brO true (brO true (jn (brO b _ _) _) none) none) _ = _
            rw [brO_t rfl, brO_t rfl]
            rw [mid]
            show jn (brO (next b f.st (seg x) == 0) _ _) _ = _
            rw [brO_t (by simp [hn])]
            exact h
          · rw [if_neg hn] at h
            show jn (brO true (brO true (jn (brO b _ _) _) none) none) _ = _
            rw [brO_t rfl, brO_t rfl]
            rw [mid]
            show jn (brO (next b f.st (seg x) == 0) _ _) _ = _
            rw [brO_f (by simpa using hn)]
            have hs1 : (setFl s j { f with st := next b f.st (seg x) }).F[j]? = some { f with st := next b f.st (seg x) } := setFl_at hf
            have e1 : (setFl s j { f with st := next b f.st (seg x) }).m1 = List.set s.m1 j (.agg [eta s34 (AV.item (getE s.m1 j) 0), .int .i64 (AV.toInt (AV.item (getE s.m1 j) 1)), .int .i64 (next b f.st (seg x)), .int .i64 (AV.toInt (AV.item (getE s.m1 j) 3))]) := by
              rw [hg, ← setFl_m1]
              rfl
            refine (goes_time n _ j _ hs1 _ ?_).trans ?_
            · rw [e1]
              rfl
            · rw [← h, setFl_set]
              rfl
        · rw [if_neg hst] at h; cases h
    · rw [if_neg hp] at h
      rw [brO_f (b := AV.toInt (AV.item (AV.item f.av 0) 0) == 6) (by show (f.t.p == 6) = false; simpa using hp)]
      refine (goes_time n s j f hf _ ?_).trans h
      rfl)
end Go.Proofs.YtldnpibpbbcjgaaDoor.Am
end

section
set_option linter.unusedVariables false
set_option linter.unusedSimpArgs false
namespace Go.Proofs.YtldnpibpbbcjgaaDoor.Am
open Go Go.Am Go.Proofs

variable {β : Type}
/-- The entries that have not come yet. -/
def left (seen : List Int) (es : List (Int × Tup × β)) : List (Int × Tup × β) := es.filter fun e => !(seen.any fun b => e.1 == b)

theorem mleft_e (seen : List Int) (es : List (Int × Tup × Nat)) : mleft seen (es.map eAv) = (left seen es).map eAv := by
  unfold mleft left
  rw [List.filter_map]
  rfl
theorem left_mem {seen : List Int} {es : List (Int × Tup × β)} {e : Int × Tup × β} : e ∈ left seen es ↔ e ∈ es ∧ e.1 ∉ seen := by
  unfold left
  rw [List.mem_filter]
  constructor
  · rintro ⟨h1, h2⟩
    exact ⟨h1, fun hm => by simp at h2; exact h2 _ hm rfl⟩
  · rintro ⟨h1, h2⟩
    refine ⟨h1, ?_⟩
    simp
    intro b hb he
    exact h2 (he ▸ hb)
theorem left_snoc {seen : List Int} {es : List (Int × Tup × β)} {b : Int} : left (seen ++ [b]) es = (left seen es).filter fun e => !(e.1 == b) := by
  unfold left
  rw [List.filter_filter]
  congr 1
  funext e
  simp [List.any_append, Bool.and_comm]
theorem left_lt {seen : List Int} {es : List (Int × Tup × β)} {e : Int × Tup × β} (h : e ∈ left seen es) : (left (seen ++ [e.1]) es).length < (left seen es).length := by
  rw [left_snoc]
  have : ∀ l : List (Int × Tup × β), e ∈ l → (l.filter fun x => !(x.1 == e.1)).length < l.length := by
    intro l
    induction l with
    | nil => intro h; cases h
    | cons x r ih =>
      intro h
      rcases List.mem_cons.1 h with rfl | h
      · rw [List.filter_cons_of_neg (by simp)]
        have := List.length_filter_le (fun x => !(x.1 == e.1)) r
        simp only [List.length_cons]
        omega
      · have := ih h
        rw [List.filter_cons]
        split <;> simp only [List.length_cons] <;> omega
  exact this _ h

theorem mfindB_e {es : List (Int × Tup × Nat)} (hn : (es.map fun e => e.1).Nodup) {e : Int × Tup × Nat} (he : e ∈ es) : mfindB e.1 (es.map eAv) = some (eAv e) := by
  induction es with
  | nil => cases he
  | cons x r ih =>
    rw [List.map_cons, List.nodup_cons] at hn
    show (match x.1 == e.1 with | true => some (eAv x) | false => mfindB e.1 (r.map eAv)) = _
    rcases List.mem_cons.1 he with rfl | he
    · simp
    · have : x.1 ≠ e.1 := fun h => hn.1 (h ▸ List.mem_map.2 ⟨e, he, rfl⟩)
      rw [show (x.1 == e.1) = false by simpa using this]
      exact ih hn.2 he

theorem same_born {es : List (Int × Tup × β)} (hn : (es.map fun e => e.1).Nodup) {x e : Int × Tup × β} (hx : x ∈ es) (he : e ∈ es) (h : x.1 = e.1) : x = e := by
  induction es with
  | nil => cases hx
  | cons y r ih =>
    rw [List.map_cons, List.nodup_cons] at hn
    have hy : ∀ z, z ∈ r → z.1 ≠ y.1 := fun z hz hh => hn.1 (hh ▸ List.mem_map.2 ⟨z, hz, rfl⟩)
    rcases List.mem_cons.1 hx with hx | hx
    · rcases List.mem_cons.1 he with he | he
      · rw [hx, he]
      · exact (hy e he (by rw [← h, hx])).elim
    · rcases List.mem_cons.1 he with he | he
      · exact (hy x hx (by rw [h, he])).elim
      · exact ih hn.2 hx he

theorem born_e (e : Int × Tup × Nat) : bornOf (eAv e) = e.1 := rfl
theorem all_e {es : List (Int × Tup × Nat)} {ck : Int} (h : ∀ e ∈ es, e.1 < ck) : (List.all (es.map eAv) fun e => decide (bornOf e < ck)) = true := by
  rw [List.all_map, List.all_eq_true]
  intro e he
  exact decide_eq_true (h e he)
theorem getE_map {es : List (Int × Tup × Nat)} {i : Nat} {e : Int × Tup × Nat} (h : es[i]? = some e) : getE (es.map eAv) i = eAv e := by
  unfold getE
  rw [List.getD_eq_getElem?_getD, List.getElem?_map, h]
  rfl

theorem ge0 (x : AV) (l : List AV) : getE (x :: l) 0 = x := rfl
theorem ge1 (a0 x : AV) (l : List AV) : getE (a0 :: x :: l) 1 = x := rfl
theorem ge2 (a0 a1 x : AV) (l : List AV) : getE (a0 :: a1 :: x :: l) 2 = x := rfl
theorem ge3 (a0 a1 a2 x : AV) (l : List AV) : getE (a0 :: a1 :: a2 :: x :: l) 3 = x := rfl
theorem ge4 (a0 a1 a2 a3 x : AV) (l : List AV) : getE (a0 :: a1 :: a2 :: a3 :: x :: l) 4 = x := rfl
theorem ge5 (a0 a1 a2 a3 a4 x : AV) (l : List AV) : getE (a0 :: a1 :: a2 :: a3 :: a4 :: x :: l) 5 = x := rfl
theorem ge6 (a0 a1 a2 a3 a4 a5 x : AV) (l : List AV) : getE (a0 :: a1 :: a2 :: a3 :: a4 :: a5 :: x :: l) 6 = x := rfl
theorem ge7 (a0 a1 a2 a3 a4 a5 a6 x : AV) (l : List AV) : getE (a0 :: a1 :: a2 :: a3 :: a4 :: a5 :: a6 :: x :: l) 7 = x := rfl
theorem ge8 (a0 a1 a2 a3 a4 a5 a6 a7 x : AV) (l : List AV) : getE (a0 :: a1 :: a2 :: a3 :: a4 :: a5 :: a6 :: a7 :: x :: l) 8 = x := rfl
theorem ge9 (a0 a1 a2 a3 a4 a5 a6 a7 a8 x : AV) (l : List AV) : getE (a0 :: a1 :: a2 :: a3 :: a4 :: a5 :: a6 :: a7 :: a8 :: x :: l) 9 = x := rfl
theorem ge10 (a0 a1 a2 a3 a4 a5 a6 a7 a8 a9 x : AV) (l : List AV) : getE (a0 :: a1 :: a2 :: a3 :: a4 :: a5 :: a6 :: a7 :: a8 :: a9 :: x :: l) 10 = x := rfl
theorem ge11 (a0 a1 a2 a3 a4 a5 a6 a7 a8 a9 a10 x : AV) (l : List AV) : getE (a0 :: a1 :: a2 :: a3 :: a4 :: a5 :: a6 :: a7 :: a8 :: a9 :: a10 :: x :: l) 11 = x := rfl

theorem tI (k : IntKind) (x : Int) : AV.toInt (.int k x) = x := rfl
theorem tB (x : Bool) : AV.toBool (.bool x) = x := rfl
theorem tT (x : List AV) : AV.toElems (.tup x) = x := rfl
theorem tV (s : Sh) (x : List AV) : AV.toElems (.fv s x) = x := rfl
theorem tF (k : IntKind) (x : List Int) : AV.toInts (.fs k x) = x := rfl
theorem tM (x : List AV) (c : Int) : AV.ments (.mc x c) = x := rfl
theorem tC (x : List AV) (c : Int) : AV.mclk (.mc x c) = c := rfl
theorem tP (f : Nat) (o : Option Nat) : AV.toPt (.pt f o) = o := rfl
theorem tQ (f : Nat) (o : Option Nat) : AV.toPt (.mp f o) = o := rfl

/-- Rounds that come to an end. -/
theorem iter_any {R σ : Type} {g : List AV → (List AV → Option R) → Option R} (enc : σ → List AV) (μ : σ → Nat) (res : σ → R) (Good : σ → Prop)
    (hstep : ∀ x k, Good x → (∀ y, μ y < μ x → Good y → k (enc y) = some (res y)) → g (enc x) k = some (res x)) : ∀ n x, μ x < n → Good x → iter g n (enc x) = some (res x) := by
  intro n
  induction n with
  | zero => intro x h; omega
  | succ n ih =>
    intro x h hg
    exact hstep x (iter g n) hg (fun y hy hgy => ih y (by omega) hgy)

/-- What the table bears, of its flows. -/
structure Inv (s : Tb) : Prop where
  born : (s.es.map fun e => e.1).Nodup
  lt : ∀ e ∈ s.es, e.1 < s.ck
  ptr : ∀ e ∈ s.es, ∃ f, s.F[e.2.2]? = some f ∧ f.t = e.2.1

def uses (s : Tb) (p q : Int) (e : Int × Tup × Nat) : Bool := match s.F[e.2.2]? with | some f => f.t.s.v == 4 && (f.t.p == p && f.port == q) | none => false
def freeB (s : Tb) (p q : Int) : Bool := !(s.es.any (uses s p q))

def encP (x : Int × Int × Tb) : List AV := .pt 2 (some 0) :: .int .i64 x.1 :: .int .i64 x.2.1 :: x.2.2.ms
def decP (l : List AV) : Int × Int × Tb := ((getE l 1).toInt, (getE l 2).toInt, Tb.of (l.drop 3))
theorem decP_enc (x : Int × Int × Tb) : decP (encP x) = x := by
  obtain ⟨p, q, s⟩ := x
  show (p, q, Tb.of s.ms) = _
  rw [Tb.of_ms]
open Classical in
noncomputable def outP (n : Nat) (x : Int × Int × Tb) : Option (List AV) := if Inv x.2.2 ∧ x.2.2.es.length < n then some (.bool (freeB x.2.2 x.1 x.2.1) :: x.2.2.ms) else none
noncomputable def G43 : Fun := spec encP decP outP
theorem g43 (n : Nat) (p q : Int) (s : Tb) (h : Inv s) (hn : s.es.length < n) : G43 n (.pt 2 (some 0) :: .int .i64 p :: .int .i64 q :: s.ms) = some (.bool (freeB s p q) :: s.ms) :=
  (spec_at (enc := encP) (p, q, s) (decP_enc _)).trans (if_pos ⟨h, hn⟩)

theorem s43 : SoundCal Tryd.prog env 43 (mkCal D43 G43) := spec_ok snd43 (fun n x r h => by
  obtain ⟨p, q, s⟩ := x
  have h : outP n (p, q, s) = some r := h
  unfold outP at h
  split at h
  case isFalse => cases h
  rename_i hh
  obtain ⟨hi, hn⟩ := hh
  replace hi : Inv s := hi
  replace hn : s.es.length < n := hn
  cases h
  refine (eq43 n (some 0) p q s.m1 s.m2 s.m3 s.m4).trans ?_
  rw [brO_t (b := Option.isSome (some 0)) rfl, brO_t (b := Option.isSome _) rfl]
  let st (seen : List Int) : List AV := [.tup s.m1, .tup s.m2, .tup s.m3, .tup s.m4, .int .i64 p, .int .i64 q, .tup [.int .i64 0, .int .i64 s.ck, .fs .i64 seen, .int .i64 s.ck]]
  let rs (seen : List Int) : Sum (List AV) (List AV) := match (left seen s.es).any (uses s p q) with | true => .inr (.bool false :: s.ms) | false => .inl s.ms
  have h0 : left [] s.es = s.es := by unfold left; simp
  have fin : ∀ X : Option (Sum (List AV) (List AV)), X = some (rs []) → jn X (fun d4 => some [.bool true, .tup (AV.toElems (getE d4 0)), .tup (AV.toElems (getE d4 1)), .tup (AV.toElems (getE d4 2)), .tup (AV.toElems (getE d4 3))]) = some (.bool (freeB s p q) :: s.ms) := by
    intro X hX
    rw [hX]
    simp only [rs, h0]
    unfold freeB
    cases s.es.any (uses s p q) <;> rfl
  refine fin _ ?_
  refine iter_any st (fun seen => (left seen s.es).length) rs (fun _ => True) (fun seen k _ hk => ?_) n [] (by rw [h0]; exact hn) trivial
  dsimp only [st, ge0, ge1, ge2, ge3, ge4, ge5, ge6, ge7, tI, tB, tT, tV, tF, tM, tC, tP, tQ, Tb.m3, Int.toNat_zero]
  refine (brO_t ((Bool.and_eq_true _ _).mpr ⟨all_e hi.lt, decide_eq_true (Int.le_refl _)⟩)).trans ?_
  rw [mleft_e]
  cases hl : left seen s.es with
  | nil =>
    simp only [rs, hl]
    rfl
  | cons e0 l0 =>
    rw [brO_f (by rfl)]
    refine allO_some.2 ⟨by simp, fun i hlt => ?_⟩
    rw [← hl] at hlt ⊢
    rw [List.length_map] at hlt
    obtain ⟨e, he⟩ : ∃ e, (left seen s.es)[i]? = some e := ⟨_, List.getElem?_eq_getElem hlt⟩
    have hmem := List.mem_of_getElem? he
    have hes := (left_mem.1 hmem).1
    obtain ⟨f, hf, hft⟩ := hi.ptr e hes
    rw [getE_map he]
    have hlast : (seen ++ [bornOf (eAv e)]).getLastD 0 = e.1 := by simp [born_e]
    rw [hlast, mfindB_e hi.born hes]
    rw [brO_t (by simp)]
    have hg : getE s.m1 e.2.2 = f.av := m1_at hf
    show jn (brO (Option.isSome (some e.2.2)) (brO (AV.toInt (AV.item (AV.item (AV.item (getE s.m1 e.2.2) 0) 1) 0) == 4) (brO (Option.isSome (some e.2.2)) (brO (AV.toInt (AV.item (AV.item (getE s.m1 e.2.2) 0) 0) == p) (brO (Option.isSome (some e.2.2)) (inl (some [_, _, _, _, _, _, _, AV.bool (AV.toInt (AV.item (getE s.m1 e.2.2) 1) == q)])) _) _) _) _) _) _ = _
    rw [hg]
    have hu : uses s p q e = (f.t.s.v == 4 && (f.t.p == p && f.port == q)) := by unfold uses; rw [hf]
    have hnext : uses s p q e = false → k (st (seen ++ [e.1])) = some (rs seen) := by
      intro hue
      rw [hk (seen ++ [e.1]) (left_lt hmem) trivial]
      simp only [rs]
      have : (left (seen ++ [e.1]) s.es).any (uses s p q) = (left seen s.es).any (uses s p q) := by
        rw [Bool.eq_iff_iff, List.any_eq_true, List.any_eq_true]
        constructor
        · rintro ⟨x, hx, hxu⟩
          rw [left_snoc] at hx
          exact ⟨x, (List.mem_filter.1 hx).1, hxu⟩
        · rintro ⟨x, hx, hxu⟩
          refine ⟨x, ?_, hxu⟩
          rw [left_snoc]
          refine List.mem_filter.2 ⟨hx, ?_⟩
          have hxe : x.1 ≠ e.1 := by
            intro hxe
            have : x = e := same_born hi.born (left_mem.1 hx).1 hes hxe
            rw [this, hue] at hxu
            cases hxu
          simpa using hxe
      rw [this]
    have hrs : uses s p q e = true → rs seen = .inr (.bool false :: s.ms) := by
      intro hue
      simp only [rs]
      rw [List.any_eq_true.2 ⟨e, hmem, hue⟩]
    show jn (brO (f.t.s.v == 4) (brO (f.t.p == p) (inl (some [_, _, _, _, _, _, _, AV.bool (f.port == q)])) _) _) _ = _
    cases h4 : (f.t.s.v == 4) with
    | false =>
      refine hnext ?_
      rw [hu, h4]; rfl
    | true =>
      cases hp : (f.t.p == p) with
      | false =>
        refine hnext ?_
        rw [hu, h4, hp]; rfl
      | true =>
        cases hq : (f.port == q) with
        | false =>
          refine hnext ?_
          rw [hu, h4, hp, hq]; rfl
        | true =>
          rw [hrs (by rw [hu, h4, hp, hq]; rfl)]
          rfl)
end Go.Proofs.YtldnpibpbbcjgaaDoor.Am
end
