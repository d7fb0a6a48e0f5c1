/-
  A step of a script, of whatever kind.
  The law FlowEnds: every tick ends what it should.
  The law FlowEnds: its rounds.
-/
import Derived.Test.YtldnpibpbbcjgaaDoorFlI
import Derived.Test.YtldnpibpbbcjgaaDoorFlE
import Derived.Test.YtldnpibpbbcjgaaDoorFlM
import Derived.Test.YtldnpibpbbcjgaaDoorFlH
import Derived.Test.YtldnpibpbbcjgaaDoorFlL
section
set_option linter.unusedVariables false
set_option linter.unusedSimpArgs false
set_option maxRecDepth 20000
namespace Go.Proofs.YtldnpibpbbcjgaaDoor.Am
open Go Go.Am Go.Proofs

def runS (p : Stp) (x : Tup) (s : Tb) : Option (Tup × Bool × Tb) :=
  if p.kind = 1 then (goOut s p.x p.fl).map fun r => if r.2.1 = 0 then (r.1, true, r.2.2) else (x, false, r.2.2)
  else if p.kind = 2 then (inS s p.x p.fl).map fun r => (x, false, r.2.2)
  else if p.kind = 3 then (inS s (rev x) p.fl).map fun r => (x, false, r.2.2)
  else if p.kind = 4 then some (x, false, ticks (more p 0) s)
  else some (x, false, s)

structure RunOk (n : Nat) (s : Tb) : Prop where
  o : OutOk n s
  t : TickOk n s
  n : 41 < n

def outW (r : Option (Tup × Bool × Tb)) : Option (List AV) := r.map fun q => q.1.av :: .bool q.2.1 :: q.2.2.ms
@[simp] theorem outW_some (y : Tup) (b : Bool) (s : Tb) : outW (some (y, b, s)) = some [y.av, .bool b, .tup s.m1, .tup s.m2, .tup s.m3, .tup s.m4] := rfl
open Classical in
noncomputable def outRW (n : Nat) (q : Stp × Tup × Tb) : Option (List AV) := if RunOk n q.2.2 then outW (runS q.1 q.2.1 q.2.2) else none
noncomputable def G14r : Fun := spec encR decR outRW
theorem g14r {n : Nat} {p : Stp} {x : Tup} {s : Tb} (ok : RunOk n s) : G14r n [.pt 2 (some 0), p.av, x.av, .tup s.m1, .tup s.m2, .tup s.m3, .tup s.m4] = outW (runS p x s) :=
  (spec_at (enc := encR) (p, x, s) (decR_enc _)).trans (if_pos ok)

theorem s14r : SoundCal Tryd.prog env 14 (mkCal D14 G14r) := spec_ok (snd14 G11 G12 G13 G18 s11 s12 s13 s18) (fun n q r h => by
  obtain ⟨p, x, s⟩ := q
  unfold outRW at h
  split at h
  case isFalse => cases h
  rename_i ok
  obtain ⟨oo, ot, hn⟩ := ok
  replace oo : OutOk n s := oo
  replace ot : TickOk n s := ot
  refine (eq14 G11 G12 G13 G18 n (some 0) p.av x.av s.m1 s.m2 s.m3 s.m4).trans ?_
  have h11 : ∀ x fl, G11 n [.pt 2 (some 0), Tup.av x, .int .i64 fl, .tup s.m1, .tup s.m2, .tup s.m3, .tup s.m4] = outI (goOut s x fl) := fun x fl => g11 n x fl s oo
  by_cases k1 : p.kind = 1
  · have hr : outW ((goOut s p.x p.fl).map fun r => if r.2.1 = 0 then (r.1, true, r.2.2) else (x, false, r.2.2)) = some r := by
      have h : outW (runS p x s) = some r := h
      unfold runS at h
      rwa [if_pos k1] at h
    cases ho : goOut s p.x p.fl with
    | none => rw [ho] at hr; cases hr
    | some q =>
      obtain ⟨y, e, s'⟩ := q
      rw [ho] at hr
      have h11' := h11 p.x p.fl
      rw [ho] at h11'
      by_cases he : e = 0
      · subst he
        simp only [Option.map_some, if_true, outW_some] at hr
        cases hr
        simp [k1, h11']
      · have he' : (e == 0) = false := by simpa using he
        simp only [Option.map_some, he, if_false, outW_some] at hr
        cases hr
        simp [k1, h11', he']
  · have k1' : (p.kind == 1) = false := by simpa using k1
    by_cases k2 : p.kind = 2
    · have hr : outW ((inS s p.x p.fl).map fun r => (x, false, r.2.2)) = some r := by
        have h : outW (runS p x s) = some r := h
        unfold runS at h
        rwa [if_neg k1, if_pos k2] at h
      cases ho : inS s p.x p.fl with
      | none => rw [ho] at hr; cases hr
      | some q =>
        obtain ⟨y, e, s'⟩ := q
        rw [ho] at hr
        have h12' := g12' (n := n) (s := s) (x := p.x) (fl := p.fl)
        rw [ho] at h12'
        cases hr
        simp [k2, h12']
        rfl
    · have k2' : (p.kind == 2) = false := by simpa using k2
      by_cases k3 : p.kind = 3
      · have hr : outW ((inS s (rev x) p.fl).map fun r => (x, false, r.2.2)) = some r := by
          have h : outW (runS p x s) = some r := h
          unfold runS at h
          rwa [if_neg k1, if_neg k2, if_pos k3] at h
        cases ho : inS s (rev x) p.fl with
        | none => rw [ho] at hr; cases hr
        | some q =>
          obtain ⟨y, e, s'⟩ := q
          rw [ho] at hr
          have h12' := g12' (n := n) (s := s) (x := rev x) (fl := p.fl)
          rw [ho] at h12'
          cases hr
          simp [k3, g13, h12']
          rfl
      · have k3' : (p.kind == 3) = false := by simpa using k3
        by_cases k4 : p.kind = 4
        · have hr : some [x.av, .bool false, .tup (ticks (more p 0) s).m1, .tup (ticks (more p 0) s).m2, .tup (ticks (more p 0) s).m3, .tup (ticks (more p 0) s).m4] = some r := by
            have h : outW (runS p x s) = some r := h
            unfold runS at h
            rw [if_neg k1, if_neg k2, if_neg k3, if_pos k4] at h
            exact h
          cases hr
          have e4 : AV.toInt (AV.item p.av 0) = 4 := k4
          rw [e4]
          rw [brO_f (b := ((4 : Int) == 1)) rfl, brO_f (b := ((4 : Int) == 2)) rfl, brO_f (b := ((4 : Int) == 3)) rfl, brO_t (b := ((4 : Int) == 4)) rfl]
          generalize hT : ticks (more p 0) s = T
          refine (jn_l (d := [.tup T.m1, .tup T.m2, .tup T.m3, .tup T.m4, x.av, z34]) ?_).trans rfl
          refine iter_any (fun y : Int × Tb => [.tup y.2.m1, .tup y.2.m2, .tup y.2.m3, .tup y.2.m4, .pt 2 (some 0), p.av, x.av, z34, .int .i64 y.1]) (fun y => more p y.1) (fun _ => (Sum.inl [AV.tup T.m1, AV.tup T.m2, AV.tup T.m3, AV.tup T.m4, x.av, z34] : Sum (List AV) (List AV))) (fun y => 0 ≤ y.1 ∧ y.1 ≤ 40 ∧ TickOk n y.2 ∧ ticks (more p y.1) y.2 = T) (fun y k hg hkk => ?_) n (0, s) (by show more p 0 < n; unfold more; split <;> omega) ⟨by simp, by simp, ot, hT⟩
          obtain ⟨i, t⟩ := y
          obtain ⟨h0, h40, hok, hT⟩ := hg
          by_cases hc : i < p.k ∧ i < 40
          · have h18 : G18 n [.pt 2 (some 0), .tup t.m1, .tup t.m2, .tup t.m3, .tup t.m4] = some [.int .i64 (cnt t fun _ => true : Nat), .tup (tickS t).m1, .tup (tickS t).m2, .tup (tickS t).m3, .tup (tickS t).m4] := g18 n t hok
            have hm := more_step hc.1 hc.2
            have w : IntKind.wrap .i64 (i + 1) = i + 1 := W_id (by omega) (by omega)
            have go := hkk (i + 1, tickS t) (by show more p (i + 1) < more p i; omega) ⟨by show 0 ≤ i + 1; omega, by show i + 1 ≤ 40; omega, tick_ok hok, by rw [hm] at hT; exact hT⟩
            have hz : eta s34 z34 = z34 := rfl
            simp [hc.1, hc.2, h18, w, hz]
            exact go
          · have hT' : t = T := by
              rw [more_end hc] at hT
              exact hT
            subst hT'
            have hz : eta s34 z34 = z34 := rfl
            by_cases h1 : i < p.k
            · have h2 : ¬ i < 40 := fun h2 => hc ⟨h1, h2⟩
              simp [h1, h2, hz]
            · simp [h1, hz]
        · have k4' : (p.kind == 4) = false := by simpa using k4
          have hr : some [x.av, .bool false, .tup s.m1, .tup s.m2, .tup s.m3, .tup s.m4] = some r := by
            have h : outW (runS p x s) = some r := h
            unfold runS at h
            rw [if_neg k1, if_neg k2, if_neg k3, if_neg k4] at h
            exact h
          cases hr
          simp [k1', k2', k3', k4'])

/-- What a step does to a table. -/
theorem runS_ok {c : Cfg} {s : Tb} (hw : Wf c s) (hc : CfgOk outB c) (p : Stp) (x : Tup) : ∃ y b s', runS p x s = some (y, b, s') ∧ Wf c s' ∧ ∀ f, Has s' f → (∃ f', Has s f' ∧ f'.t = f.t) ∨ f.t = p.x := by
  unfold runS
  by_cases k1 : p.kind = 1
  · rw [if_pos k1]
    obtain ⟨y, e, s', ho, hr⟩ := goOut_ok hw hc p.x p.fl
    rw [ho]
    have hsub : ∀ f, Has s' f → (∃ f', Has s f' ∧ f'.t = f.t) ∨ f.t = p.x := fun f hf => by
      rcases out_sub hw hr hf with h | h
      · exact .inl h
      · exact .inr h.2
    by_cases he : e = 0
    · exact ⟨y, true, s', by simp [he], hr.wf hw hc, hsub⟩
    · exact ⟨x, false, s', by simp [he], hr.wf hw hc, hsub⟩
  · rw [if_neg k1]
    by_cases k2 : p.kind = 2
    · rw [if_pos k2]
      obtain ⟨y, e, s', ho, hr⟩ := inS_ok hw hc p.x p.fl
      rw [ho]
      exact ⟨x, false, s', rfl, hr.wf hw hc, fun f hf => .inl ((in_len hw hr).2.2.2 f hf)⟩
    · rw [if_neg k2]
      by_cases k3 : p.kind = 3
      · rw [if_pos k3]
        obtain ⟨y, e, s', ho, hr⟩ := inS_ok hw hc (rev x) p.fl
        rw [ho]
        exact ⟨x, false, s', rfl, hr.wf hw hc, fun f hf => .inl ((in_len hw hr).2.2.2 f hf)⟩
      · rw [if_neg k3]
        by_cases k4 : p.kind = 4
        · rw [if_pos k4]
          exact ⟨x, false, _, rfl, hw.ticks hc, fun f hf => .inl (ticks_sub hc hw hf)⟩
        · rw [if_neg k4]
          exact ⟨x, false, s, rfl, hw, fun f hf => .inl ⟨f, hf, rfl⟩⟩
end Go.Proofs.YtldnpibpbbcjgaaDoor.Am
end

section
set_option linter.unusedVariables false
set_option linter.unusedSimpArgs false
set_option maxRecDepth 20000
namespace Go.Proofs.YtldnpibpbbcjgaaDoor.Am
open Go Go.Am Go.Proofs

theorem jn_post {R : Type} {X : Option (Sum (List AV) R)} {K : List AV → Option R} {r : Option R} (Q : List AV → Prop) (h : ∃ d, X = some (.inl d) ∧ Q d) (hk : ∀ d, Q d → K d = r) : jn X K = r := by
  obtain ⟨d, rfl, hd⟩ := h
  rw [r_jnl]
  exact hk d hd

/-! Flows later. -/
def Flw.sub (k : Int) (f : Flw) : Flw := { f with left := f.left - k }
def wantL (k : Int) (L : List Flw) : List Flw := (L.filter fun f => decide (k < f.left)).map (Flw.sub k)
def endsN (k : Int) (L : List Flw) : Nat := L.countP fun f => f.left == k
theorem mem_want {k : Int} {L : List Flw} {g : Flw} : g ∈ wantL k L ↔ ∃ f ∈ L, k < f.left ∧ g = f.sub k := by
  unfold wantL
  rw [List.mem_map]
  constructor
  · rintro ⟨f, h, rfl⟩
    obtain ⟨h1, h2⟩ := List.mem_filter.1 h
    exact ⟨f, h1, of_decide_eq_true h2, rfl⟩
  · rintro ⟨f, h1, h2, rfl⟩
    exact ⟨f, List.mem_filter.2 ⟨h1, decide_eq_true h2⟩, rfl⟩
theorem want_keys (k : Int) (L : List Flw) : ((wantL k L).map fun f => f.t).Sublist (L.map fun f => f.t) := by
  unfold wantL
  rw [List.map_map]
  exact List.filter_sublist.map _
theorem want_app (k : Int) (L M : List Flw) : wantL k (L ++ M) = wantL k L ++ wantL k M := by unfold wantL; rw [List.filter_append, List.map_append]
theorem ends_app (k : Int) (L M : List Flw) : endsN k (L ++ M) = endsN k L + endsN k M := List.countP_append ..
theorem want_one (k : Int) (f : Flw) : wantL k [f] = if k < f.left then [f.sub k] else [] := by
  unfold wantL
  by_cases h : k < f.left <;> simp [h]
theorem ends_one (k : Int) (f : Flw) : endsN k [f] = if f.left = k then 1 else 0 := by
  unfold endsN
  by_cases h : f.left = k <;> simp [h]
theorem ends_want (k : Int) (L : List Flw) : (wantL k L).countP (fun f => f.left == 1) = endsN (k + 1) L := by
  induction L with
  | nil => rfl
  | cons f r ih =>
    have e : f :: r = [f] ++ r := rfl
    rw [e, want_app, ends_app, List.countP_append, ih, want_one, ends_one]
    congr 1
    by_cases h : k < f.left
    · rw [if_pos h]
      by_cases h2 : f.left = k + 1
      · rw [if_pos h2]
        have : (f.sub k).left = 1 := by show f.left - k = 1; omega
        simp [this]
      · rw [if_neg h2]
        have : ¬ (f.sub k).left = 1 := by show ¬ f.left - k = 1; omega
        simp [this]
    · rw [if_neg h, if_neg (by omega)]
      rfl
theorem want0 {L : List Flw} (h : ∀ f ∈ L, 1 ≤ f.left) : wantL 0 L = L := by
  unfold wantL
  rw [List.filter_eq_self.2 (fun f hf => decide_eq_true (by have := h f hf; omega))]
  refine (List.map_congr_left (fun f _ => ?_)).trans (List.map_id _)
  show Flw.mk f.t f.port f.st (f.left - 0) = f
  rw [Int.sub_zero]

/-! A dump is told by its members. -/
def Sorted (L : List Flw) : Prop := L.Pairwise fun a b => cmpF a.av b.av ≤ 0
theorem dump_sorted (s : Tb) : Sorted (dump s) := by
  have := sortAV_pair ((live s).map Flw.av)
  rw [dump_av, List.pairwise_map] at this
  exact this
theorem dump_keys {s : Tb} (hi : InvT s) : ((dump s).map fun f => f.t).Nodup := by
  refine ((dump_perm s).map _).nodup_iff.2 ?_
  rw [live_keys hi.toInv]
  exact hi.keys
theorem nodup_of_keys {L : List Flw} (h : (L.map fun f => f.t).Nodup) : L.Nodup := List.Pairwise.of_map (fun f : Flw => f.t) (fun a b h e => h (congrArg Flw.t e)) h
theorem want_sorted {k : Int} {L : List Flw} (h : Sorted L) : Sorted (wantL k L) := by
  unfold wantL Sorted
  rw [List.pairwise_map]
  exact (List.Pairwise.filter _ h).imp (fun h => h)
theorem dump_eq {t : Tb} (hi : InvT t) {L : List Flw} (hs : Sorted L) (hk : (L.map fun f => f.t).Nodup) (h16 : ∀ f ∈ L, TupIn f.t) (hm : ∀ g, g ∈ L ↔ Has t g) : dump t = L := by
  have hp : L.Perm (dump t) := (List.perm_ext_iff_of_nodup (nodup_of_keys hk) (nodup_of_keys (dump_keys hi))).2 (fun g => by rw [hm, mem_dump])
  have ha := apart_of hk h16
  refine List.Perm.eq_of_pairwise (le := fun a b : Flw => cmpF a.av b.av ≤ 0) (fun a b h1 h2 h3 h4 => ?_) (dump_sorted t) hs hp.symm
  have hb : a ∈ L := hp.mem_iff.2 h1
  have h5 := ha.same (List.mem_map.2 ⟨a, hb, rfl⟩) (List.mem_map.2 ⟨b, h2, rfl⟩) (by
    have := cmpF_ord.sym a.av b.av
    omega)
  have := congrArg Flw.of h5
  simpa using this
theorem live_perm {t : Tb} (hi : InvT t) {L : List Flw} (hk : (L.map fun f => f.t).Nodup) (hm : ∀ g, g ∈ L ↔ Has t g) : (live t).Perm L := by
  refine (List.perm_ext_iff_of_nodup (nodup_of_keys ?_) (nodup_of_keys hk)).2 (fun g => by rw [hm, mem_live])
  rw [live_keys hi.toInv]
  exact hi.keys

/-- How many a tick ends. -/
theorem cnt_live {t : Tb} (hi : Inv t) : cnt t (fun _ => true) = (live t).countP fun f => (dec f).left == 0 := by
  unfold cnt live
  have h := hi.ptr
  generalize hl : t.es = l at h
  clear hl
  induction l with
  | nil => rfl
  | cons e r ih =>
    obtain ⟨f, h1, h2⟩ := h e (by simp)
    rw [List.filterMap_cons, h1, List.countP_cons, ← ih (fun x hx => h x (by simp [hx])), List.filter_cons]
    have hg : gone t e = ((dec f).left == 0) := by unfold gone; rw [h1]
    rw [Bool.true_and, hg]
    cases (dec f).left == 0 <;> simp

structure AtK (c : Cfg) (L : List Flw) (k : Nat) (t : Tb) : Prop where
  wf : Wf c t
  has : ∀ g, Has t g ↔ g ∈ wantL k L
theorem AtK.tick {c : Cfg} (hc : CfgOk outB c) {L : List Flw} {k : Nat} {t : Tb} (h : AtK c L k t) : AtK c L (k + 1) (tickS t) := by
  refine ⟨h.wf.tick hc.v4, fun g => ?_⟩
  rw [has_tick h.wf.inv, mem_want]
  constructor
  · rintro ⟨f', h1, rfl, h2⟩
    have ok := h.wf.fl f' h1
    have hd := dec_left ok
    obtain ⟨f, h3, h4, rfl⟩ := mem_want.1 ((h.has f').1 h1)
    refine ⟨f, h3, ?_, ?_⟩
    · have : (f.sub k).left = f.left - k := rfl
      rw [hd] at h2
      show ((k + 1 : Nat) : Int) < f.left
      omega
    · have e : dec (f.sub k) = { (f.sub k) with left := (dec (f.sub k)).left } := rfl
      rw [e, hd]
      show Flw.mk f.t f.port f.st (f.left - k - 1) = Flw.mk f.t f.port f.st (f.left - ((k + 1 : Nat) : Int))
      congr 1
      omega
  · rintro ⟨f, h1, h2, rfl⟩
    have h3 : Has t (f.sub k) := (h.has _).2 (mem_want.2 ⟨f, h1, by omega, rfl⟩)
    have hd := dec_left (h.wf.fl _ h3)
    have e : dec (f.sub k) = f.sub ((k + 1 : Nat) : Int) := by
      have e : dec (f.sub k) = { (f.sub k) with left := (dec (f.sub k)).left } := rfl
      rw [e, hd]
      show Flw.mk f.t f.port f.st (f.left - k - 1) = Flw.mk f.t f.port f.st (f.left - ((k + 1 : Nat) : Int))
      congr 1
      omega
    refine ⟨_, h3, e.symm, ?_⟩
    show f.left - ((k + 1 : Nat) : Int) ≠ 0
    omega
theorem AtK.cnt {c : Cfg} {L : List Flw} (hk : (L.map fun f => f.t).Nodup) {k : Nat} {t : Tb} (h : AtK c L k t) : Am.cnt t (fun _ => true) = endsN ((k : Int) + 1) L := by
  rw [cnt_live h.wf.inv.toInv, ← ends_want]
  have hp := live_perm h.wf.inv (L := wantL k L) ((want_keys k L).nodup hk) (fun g => (h.has g).symm)
  rw [hp.countP_eq]
  refine List.countP_congr (fun f hf => ?_)
  have := dec_left (h.wf.fl f ((h.has f).2 hf))
  rw [this]
  simp
  omega

/-! Flows alike. -/
open Classical in
noncomputable def G19 : Fun := spec (fun p : List Flw × List Flw => [.fv s48 (p.1.map Flw.av), .fv s48 (p.2.map Flw.av)]) (fun l => ((getE l 0).toElems.map Flw.of, (getE l 1).toElems.map Flw.of)) fun n p => if p.1 = p.2 ∧ p.1.length < n ∧ p.1.length < 1000000 then some [.bool true] else none
theorem g19 {n : Nat} {L : List Flw} (h : L.length < n) (h2 : L.length < 1000000) : G19 n [.fv s48 (L.map Flw.av), .fv s48 (L.map Flw.av)] = some [.bool true] :=
  (spec_at (enc := fun p : List Flw × List Flw => [.fv s48 (p.1.map Flw.av), .fv s48 (p.2.map Flw.av)]) (L, L) (by
    show ((L.map Flw.av).map Flw.of, (L.map Flw.av).map Flw.of) = _
    rw [map_id' Flw.of_av])).trans (if_pos ⟨rfl, h, h2⟩)
theorem getE_flw (l : List Flw) {i : Nat} (h : i < l.length) : getE (l.map Flw.av) i = (l[i]).av := by
  unfold getE
  rw [List.getD_eq_getElem?_getD, List.getElem?_map, List.getElem?_eq_getElem h]
  rfl
theorem keq_flw (f : Flw) : keq f.av f.av = true := by
  show (keq f.t.av f.t.av && ((IntKind.i64 == IntKind.i64 && f.port == f.port) && ((IntKind.i64 == IntKind.i64 && f.st == f.st) && ((IntKind.i64 == IntKind.i64 && f.left == f.left) && true)))) = _
  rw [keq_tup]
  simp
theorem s19 : SoundCal Tryd.prog env 19 (mkCal D19 G19) := spec_ok snd19 (fun n p r h => by
  obtain ⟨A, B⟩ := p
  split at h
  case isFalse => cases h
  rename_i hh
  obtain ⟨e, hn, hs⟩ := hh
  simp only at e hn hs
  subst e
  cases h
  refine (eq19 n (A.map Flw.av) (A.map Flw.av)).trans ?_
  rw [brO_f (by simp)]
  refine (jn_l (d := []) ?_).trans rfl
  refine iter_any (fun i : Nat => [.fv s48 (A.map Flw.av), .fv s48 (A.map Flw.av), .int .i64 (i : Nat)]) (fun i => A.length - i) (fun _ => (Sum.inl [] : Sum (List AV) (List AV))) (fun i => i ≤ A.length) (fun i k hi hk => ?_) n 0 (by show A.length - 0 < n; omega) (Nat.zero_le _)
  by_cases hl : i < A.length
  · have w : IntKind.wrap .i64 (((i : Nat) : Int) + 1) = ((i : Nat) : Int) + 1 := W_id (by omega) (by omega)
    have r1 : inR ((i : Nat) : Int) A.length = true := inRt (by omega) (by omega)
    have hge := getE_flw A hl
    simp [hl, w, r1, hge, keq_flw]
    exact hk (i + 1) (by show A.length - (i + 1) < A.length - i; omega) (by show i + 1 ≤ A.length; omega)
  · simp [hl])
end Go.Proofs.YtldnpibpbbcjgaaDoor.Am
end

section
set_option linter.unusedVariables false
set_option linter.unusedSimpArgs false
set_option maxRecDepth 20000
namespace Go.Proofs.YtldnpibpbbcjgaaDoor.Am
open Go Go.Am Go.Proofs

def In16 (s : Tb) : Prop := ∀ f, Has s f → TupIn f.t
theorem Wf.runOk {c : Cfg} {s : Tb} (h : Wf c s) (hc : CfgOk outB c) {n : Nat} (hn : 65537 < n) : RunOk n s := ⟨h.outOk hc hn, h.tickOk hc hn, by omega⟩
theorem Wf.dumpOk {c : Cfg} {s : Tb} (h : Wf c s) (hc : CfgOk outB c) (h16 : In16 s) {n : Nat} (hn : 65537 < n) : DumpOk n s := by
  have h1 := h.len
  have h2 := hc.max2
  exact ⟨h.inv, by omega, by omega, h16⟩
theorem g15' {n : Nat} {s : Tb} (h : DumpOk n s) : G15 n [.pt 2 (some 0), .tup s.m1, .tup s.m2, .tup s.m3, .tup s.m4] = some [.fv s48 ((dump s).map Flw.av), .tup s.m1, .tup s.m2, .tup s.m3, .tup s.m4] := g15 n s h
theorem g18' {n : Nat} {s : Tb} (h : TickOk n s) : G18 n [.pt 2 (some 0), .tup s.m1, .tup s.m2, .tup s.m3, .tup s.m4] = some [.int .i64 (cnt s fun _ => true : Nat), .tup (tickS s).m1, .tup (tickS s).m2, .tup (tickS s).m3, .tup (tickS s).m4] := g18 n s h
theorem askT_in : TupIn askT := ⟨rfl, rfl⟩

theorem ends_ok (c : Cfg) (hi : IPIn c.out) (l : List Stp) (hl16 : ∀ p ∈ l, TupIn p.x) (n : Nat) (hn : 70000 < n) : run5 G8 G9 G11 G14r G15 G17 G18 G19 n c.av (l.map Stp.av) = some [.bool true] := by
  have hc := cfgOf_ok hi
  generalize hc' : cfgOf c = c' at hc
  refine (eq5 G8 G9 G11 G14r G15 G17 G18 G19 n c.av (l.map Stp.av)).trans ?_
  have h8 := g8' (by omega : 300 ≤ n) hi
  have h9 := g9 (by omega : 65537 < n)
  rw [hc'] at h8
  simp only [r_cfe, h8, h9, Option.bind_some, List.length_cons, List.length_nil, r_beq, r_brt, r_brf, r_get0, r_getS, r_pt, r_tup, r_fv, r_bool, r_inl, r_jnl, Option.isNone_some, Bool.not_true]
  refine jn_post (fun d => ∃ s, Wf c' s ∧ In16 s ∧ d = [.tup s.m1, .tup s.m2, .tup s.m3, .tup s.m4, .pt 2 (some 0)]) ?_ ?_
  · -- the script
    have key := iter_post (R := Sum (List AV) (List AV)) (g := fun d4 k5 => jn
      (brO (decide ((AV.toInt (getE d4 7)) < (Int.ofNat (List.length (AV.toElems (getE d4 4))))))
       (brO (decide ((AV.toInt (getE d4 7)) < 400))
        (inl (some [(.tup (AV.toElems (getE d4 0))), (.tup (AV.toElems (getE d4 1))), (.tup (AV.toElems (getE d4 2))), (.tup (AV.toElems (getE d4 3))), (.fv s36 (AV.toElems (getE d4 4))), (.pt 2 (AV.toPt (getE d4 5))), (eta s34 (getE d4 6)), (.int .i64 (AV.toInt (getE d4 7)))]))
        (inr (inl (some [(.tup (AV.toElems (getE d4 0))), (.tup (AV.toElems (getE d4 1))), (.tup (AV.toElems (getE d4 2))), (.tup (AV.toElems (getE d4 3))), (.pt 2 (AV.toPt (getE d4 5)))]))))
       (inr (inl (some [(.tup (AV.toElems (getE d4 0))), (.tup (AV.toElems (getE d4 1))), (.tup (AV.toElems (getE d4 2))), (.tup (AV.toElems (getE d4 3))), (.pt 2 (AV.toPt (getE d4 5)))])))) fun d6 =>
     brO (inR (AV.toInt (getE d6 7)) (List.length (AV.toElems (getE d6 4))))
      (((G14r n [(.pt 2 (AV.toPt (getE d6 5))), (eta s36 (getE (AV.toElems (getE d6 4)) (Int.toNat (AV.toInt (getE d6 7))))), (eta s34 (getE d6 6)), (.tup (AV.toElems (getE d6 0))), (.tup (AV.toElems (getE d6 1))), (.tup (AV.toElems (getE d6 2))), (.tup (AV.toElems (getE d6 3)))])).bind fun r7 =>
      brO (Nat.beq (List.length r7) 6)
       ((k5 [(.tup (AV.toElems (getE r7 2))), (.tup (AV.toElems (getE r7 3))), (.tup (AV.toElems (getE r7 4))), (.tup (AV.toElems (getE r7 5))), (.fv s36 (AV.toElems (getE d6 4))), (.pt 2 (AV.toPt (getE d6 5))), (eta s34 (getE r7 0)), (.int .i64 (IntKind.wrap .i64 ((AV.toInt (getE d6 7)) + 1)))]))
       (none))
      (none)) (fun q : Tb × Tup × Nat => [.tup q.1.m1, .tup q.1.m2, .tup q.1.m3, .tup q.1.m4, .fv s36 (l.map Stp.av), .pt 2 (some 0), q.2.1.av, .int .i64 (q.2.2 : Nat)]) (fun q => 401 - q.2.2) (fun q => Wf c' q.1 ∧ In16 q.1 ∧ q.2.2 ≤ 400)
      (fun X => ∃ d, X = some (.inl d) ∧ ∃ s, Wf c' s ∧ In16 s ∧ d = [.tup s.m1, .tup s.m2, .tup s.m3, .tup s.m4, .pt 2 (some 0)]) (fun q k hg hk => by
        obtain ⟨s, x, i⟩ := q
        obtain ⟨hw, h16, hi4⟩ := hg
        simp only at hw h16 hi4
        by_cases hlt : i < l.length ∧ i < 400
        · obtain ⟨hl, h4⟩ := hlt
          have d3 : inR ((i : Nat) : Int) l.length = true := inR_ok (by omega) (by omega)
          have d4 : IntKind.wrap .i64 (((i : Nat) : Int) + 1) = ((i : Nat) : Int) + 1 := W_id (by omega) (by omega)
          have hge := getE_stp l hl
          have hin := hl16 l[i] (List.getElem_mem hl)
          generalize l[i] = p at hge hin
          obtain ⟨y, b, s', hr, hw', hs⟩ := runS_ok hw hc p x
          have h14 := g14r (p := p) (x := x) (hw.runOk hc (by omega : 65537 < n))
          rw [hr] at h14
          have h16' : In16 s' := fun f hf => by
            rcases hs f hf with ⟨f', h1, h2⟩ | h1
            · rw [← h2]; exact h16 f' h1
            · rw [h1]; exact hin
          have h4i : ((i : Nat) : Int) < 400 := by omega
          simp [hl, h4i, d3, d4, hge, h14]
          exact hk (s', y, i + 1) (by show 401 - (i + 1) < 401 - i; omega) ⟨hw', h16', by show i + 1 ≤ 400; omega⟩
        · by_cases hl : i < l.length
          · have h4 : ¬ ((i : Nat) : Int) < 400 := fun h => hlt ⟨hl, by omega⟩
            simp [hl, h4]
            exact ⟨s, hw, h16, rfl, rfl, rfl, rfl⟩
          · simp [hl]
            exact ⟨s, hw, h16, rfl, rfl, rfl, rfl⟩) n (newT c', zT, 0) (by show 401 - 0 < n; omega) ⟨Wf.newT hc, fun f ⟨e, h, _⟩ => (List.not_mem_nil h).elim, Nat.zero_le _⟩
    exact key
  · rintro d ⟨s0, hw0, h160, rfl⟩
    -- the ask
    obtain ⟨y, e, s, ho, hr⟩ := goOut_ok hw0 hc askT 0
    have hw := hr.wf hw0 hc
    have h16 : In16 s := fun f hf => by
      rcases out_sub hw0 hr hf with ⟨f', h1, h2⟩ | ⟨_, h2⟩
      · rw [← h2]; exact h160 f' h1
      · rw [h2]; exact askT_in
    have h11 := g11' (x := askT) (fl := 0) hw0 hc (by omega : 65537 < n)
    rw [ho, outI_some] at h11
    have h15 := g15' (hw.dumpOk hc h16 (by omega : 65537 < n))
    have hL : ∀ f ∈ dump s, FlOk c' f := fun f hf => hw.fl f (mem_dump.1 hf)
    have hk := dump_keys hw.inv
    have hsort := dump_sorted s
    have hmem : ∀ f, f ∈ dump s ↔ Has s f := fun f => mem_dump
    have hlen : (dump s).length ≤ 4096 := by
      rw [dump_len hw.inv.toInv]
      have h1 := hw.len
      have h2 := hc.max2
      omega
    have hLin : ∀ f ∈ dump s, TupIn f.t := fun f hf => h16 f (mem_dump.1 hf)
    generalize dump s = L at h15 hL hk hsort hmem hlen hLin
    have hat0 : AtK c' L 0 s := ⟨hw, fun g => by rw [show ((0 : Nat) : Int) = 0 from rfl, want0 (fun f hf => (hL f hf).l1), hmem]⟩
    simp [g17, h11, h15]
    refine jn_post (fun _ => True) ?_ (fun _ _ => rfl)
    refine iter_post (fun q : Tb × Nat => [.tup q.1.m1, .tup q.1.m2, .tup q.1.m3, .tup q.1.m4, .pt 2 (some 0), .fv s48 (L.map Flw.av), .int .i64 ((q.2 : Int) + 1)]) (fun q => 61 - q.2) (fun q => AtK c' L q.2 q.1 ∧ q.2 ≤ 60) (fun X : Option (Sum (List AV) (List AV)) => ∃ d : List AV, X = some (Sum.inl d) ∧ True) (fun q k hg hkk => ?_) n (s, 0) (by show 61 - 0 < n; omega) ⟨hat0, Nat.zero_le _⟩
    obtain ⟨t, i⟩ := q
    obtain ⟨hat, hi60⟩ := hg
    simp only at hat hi60
    by_cases h60 : i < 60
    · have l1 : ((i : Nat) : Int) + 1 ≤ 60 := by omega
      have hat' := hat.tick hc
      have hcnt := hat.cnt hk
      have h18 := g18' (hat.wf.tickOk hc (by omega : 65537 < n))
      rw [hcnt] at h18
      have hk' := (want_keys ((i + 1 : Nat) : Int) L).nodup hk
      have hd : dump (tickS t) = wantL ((i + 1 : Nat) : Int) L := dump_eq hat'.wf.inv (want_sorted hsort) hk' (fun g hg => by
        obtain ⟨f, h1, _, rfl⟩ := mem_want.1 hg
        exact hLin f h1) (fun g => (hat'.has g).symm)
      have h16' : In16 (tickS t) := fun g hg => by
        obtain ⟨f, h1, _, rfl⟩ := mem_want.1 ((hat'.has g).1 hg)
        exact hLin f h1
      have h15' := g15' (hat'.wf.dumpOk hc h16' (by omega : 65537 < n))
      rw [hd] at h15'
      have hwl : (wantL ((i + 1 : Nat) : Int) L).length ≤ 4096 := by
        unfold wantL
        rw [List.length_map]
        exact Nat.le_trans (List.length_filter_le _ _) hlen
      have h19 := g19 (n := n) (L := wantL ((i + 1 : Nat) : Int) L) (by omega) (by omega)
      have w1 : IntKind.wrap .i64 (((i : Nat) : Int) + 1 + 1) = ((i : Nat) : Int) + 1 + 1 := W_id (by omega) (by omega)
      have go := hkk (tickS t, i + 1) (by show 61 - (i + 1) < 61 - i; omega) ⟨hat', by show i + 1 ≤ 60; omega⟩
      simp [l1]
      refine jn_jn (Q := fun X : Option (Sum (List AV) (List AV)) => ∃ d : List AV, X = some (Sum.inl d)) (d := [.tup t.m1, .tup t.m2, .tup t.m3, .tup t.m4, .pt 2 (some 0), .fv s48 (L.map Flw.av), .int .i64 ((i : Int) + 1), .int .i64 (endsN ((i : Int) + 1) L : Nat), .fv s48 ((wantL ((i : Int) + 1) L).map Flw.av)]) (e := [.tup (tickS t).m1, .tup (tickS t).m2, .tup (tickS t).m3, .tup (tickS t).m4, .pt 2 (some 0), .fv s48 (L.map Flw.av), .int .i64 ((i : Int) + 1)]) ?_ ?_ ?_
      · have hT : L.take L.length = L := List.take_length
        refine Eq.trans (iter_any (fun j : Nat => [.tup t.m1, .tup t.m2, .tup t.m3, .tup t.m4, .pt 2 (some 0), .fv s48 (L.map Flw.av), .int .i64 ((i : Int) + 1), .int .i64 (endsN ((i : Int) + 1) (L.take j) : Nat), .fv s48 ((wantL ((i : Int) + 1) (L.take j)).map Flw.av), .int .i64 (j : Nat)]) (fun j => L.length - j) (fun _ => (Sum.inl [.tup t.m1, .tup t.m2, .tup t.m3, .tup t.m4, .pt 2 (some 0), .fv s48 (L.map Flw.av), .int .i64 ((i : Int) + 1), .int .i64 (endsN ((i : Int) + 1) L : Nat), .fv s48 ((wantL ((i : Int) + 1) L).map Flw.av)])) (fun j => j ≤ L.length) (fun j K hj hK => ?_) n 0 (by show L.length - 0 < n; omega) (Nat.zero_le _)) rfl
        by_cases hjl : j < L.length
        · have hge := getE_flw L hjl
          have e1 : inR ((j : Nat) : Int) L.length = true := inR_ok (by omega) (by omega)
          have e2 : Nat.ble (j + 1) L.length = true := Nat.ble_eq_true_of_le (by omega)
          have e3 : IntKind.wrap .i64 (((j : Nat) : Int) + 1) = ((j : Nat) : Int) + 1 := W_id (by omega) (by omega)
          have htk : L.take (j + 1) = L.take j ++ [L[j]] := by rw [List.take_add_one, List.getElem?_eq_getElem hjl]; rfl
          have hK' := hK (j + 1) (by show L.length - (j + 1) < L.length - j; omega) (by show j + 1 ≤ L.length; omega)
          have hf := hL L[j] (List.getElem_mem hjl)
          rw [htk, ends_app, want_app, ends_one, want_one] at hK'
          generalize L[j] = f at hge hf hK'
          have hl1 := hf.l1
          have hl2 := hf.l2
          have hb1 : endsN ((i : Int) + 1) (L.take j) ≤ 4096 := by
            have h1 : endsN ((i : Int) + 1) (L.take j) ≤ (L.take j).length := List.countP_le_length
            have h2 : (L.take j).length ≤ L.length := by rw [List.length_take]; omega
            omega
          have hb2 : (wantL ((i : Int) + 1) (L.take j)).length ≤ 4096 := by
            have h1 : (wantL ((i : Int) + 1) (L.take j)).length ≤ (L.take j).length := by
              unfold wantL
              rw [List.length_map]
              exact List.length_filter_le _ _
            have h2 : (L.take j).length ≤ L.length := by rw [List.length_take]; omega
            omega
          generalize endsN ((i : Int) + 1) (L.take j) = E at hb1 hK'
          generalize wantL ((i : Int) + 1) (L.take j) = V at hb2 hK'
          have e4 : IntKind.wrap .i64 ((E : Int) + 1) = (E : Int) + 1 := W_id (by omega) (by omega)
          have e5 : Nat.ble ((V.length + 1) * 96) 140737488355328 = true := Nat.ble_eq_true_of_le (by omega)
          have e6 : IntKind.wrap .i64 (f.left - ((i : Int) + 1)) = f.left - ((i : Int) + 1) := W_id (by omega) (by omega)
          by_cases q1 : f.left = (i : Int) + 1
          · have q2 : ¬ (i : Int) + 1 < f.left := by omega
            have q1' : (f.left == (i : Int) + 1) = true := by simpa using q1
            rw [if_pos q1, if_neg q2] at hK'
            simp [hjl, e1, e2, e3, e4, hge, q1', q2]
            refine Eq.trans ?_ hK'
            simp
          · have q1' : (f.left == (i : Int) + 1) = false := by simpa using q1
            by_cases q2 : (i : Int) + 1 < f.left
            · rw [if_neg q1, if_pos q2] at hK'
              simp [hjl, e1, e2, e3, e5, e6, hge, q1', q2]
              refine Eq.trans ?_ hK'
              simp
              rfl
            · rw [if_neg q1, if_neg q2] at hK'
              simp [hjl, e1, e2, e3, hge, q1', q2]
              refine Eq.trans ?_ hK'
              simp
        · have : j = L.length := by omega
          subst this
          simp [hT]
      · have e1 : ((i + 1 : Nat) : Int) = (i : Int) + 1 := by omega
        rw [e1] at h15' h19
        simp [h18, h15', h19]
      · simp [w1]
        obtain ⟨d, hd, _⟩ := go
        exact ⟨d, hd⟩
    · have l1 : ¬ ((i : Nat) : Int) + 1 ≤ 60 := by omega
      simp [l1]
end Go.Proofs.YtldnpibpbbcjgaaDoor.Am
end
