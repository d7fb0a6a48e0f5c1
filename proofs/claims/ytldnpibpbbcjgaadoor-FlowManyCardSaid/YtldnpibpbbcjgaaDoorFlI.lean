/-
  The law FlowBack: answers find back, and what comes unasked finds no way.
  The law FlowBack: its rounds.
-/
import Derived.Test.YtldnpibpbbcjgaaDoorFlH
import Derived.Test.YtldnpibpbbcjgaaDoorFlE
section
set_option linter.unusedVariables false
set_option linter.unusedSimpArgs false
namespace Go.Proofs.YtldnpibpbbcjgaaDoor.Am
open Go Go.Am Go.Proofs

/-! Flags. -/
def fl7 (x : Int) : Int := IntKind.wrap .i64 (Int.ofNat (BitVec.toNat ((BitVec.ofInt 64 x) &&& (BitVec.ofInt 64 7))))
theorem and_le (v w : BitVec 64) : (v &&& w).toNat ≤ w.toNat := by rw [BitVec.toNat_and]; exact Nat.and_le_right
theorem W_nat {n : Nat} (h : n < 4611686018427387904) : IntKind.wrap .i64 (Int.ofNat n) = (n : Int) := by
  show IntKind.wrap .i64 ((n : Nat) : Int) = _
  exact W_id (by omega) (by omega)
theorem hasB_iff (x f : Int) (hf : (BitVec.ofInt 64 f).toNat < 4611686018427387904) : hasB x f = decide ((BitVec.ofInt 64 x &&& BitVec.ofInt 64 f) ≠ 0#64) := by
  unfold hasB
  have h1 := and_le (BitVec.ofInt 64 x) (BitVec.ofInt 64 f)
  generalize (BitVec.ofInt 64 x &&& BitVec.ofInt 64 f) = v at *
  rw [W_nat (by omega)]
  rw [Bool.eq_iff_iff]
  simp only [bne_iff_ne, ne_eq, decide_eq_true_eq]
  constructor
  · intro h hv; subst hv; exact h rfl
  · intro h hv
    apply h
    apply BitVec.eq_of_toNat_eq
    simpa using hv
theorem fl7_two {x : Int} (h : fl7 x = 2) : hasB x 4 = false ∧ hasB x 2 = true ∧ hasB x 1 = false := by
  have h1 : (BitVec.ofInt 64 x &&& BitVec.ofInt 64 7) = 2#64 := by
    unfold fl7 at h
    have h1 := and_le (BitVec.ofInt 64 x) (BitVec.ofInt 64 7)
    have h2 : (BitVec.ofInt 64 7).toNat = 7 := rfl
    rw [W_nat (by omega)] at h
    apply BitVec.eq_of_toNat_eq
    show _ = 2
    omega
  have key : ∀ f : Int, (BitVec.ofInt 64 7 &&& BitVec.ofInt 64 f) = BitVec.ofInt 64 f → (BitVec.ofInt 64 x &&& BitVec.ofInt 64 f) = (2#64 &&& BitVec.ofInt 64 f) := by
    intro f hf
    rw [← hf, ← BitVec.and_assoc, h1, ← BitVec.and_assoc]
    rw [show (2#64 &&& BitVec.ofInt 64 7) = 2#64 from rfl]
  refine ⟨?_, ?_, ?_⟩
  · rw [hasB_iff _ _ (by decide), key 4 rfl]; rfl
  · rw [hasB_iff _ _ (by decide), key 2 rfl]; rfl
  · rw [hasB_iff _ _ (by decide), key 1 rfl]; rfl
theorem seg_two {x : Int} (h : fl7 x = 2) : seg x = 2 ∨ seg x = 3 := by
  obtain ⟨h1, h2, h3⟩ := fl7_two h
  unfold seg
  rw [h1, h2, h3]
  cases hasB x 16 <;> simp
theorem seg18 : seg 18 = 2 := by decide

section
variable {s s' : Tb} {f g : Flw} {c : Cfg} {x : Tup} {fl : Int}
theorem next_both : ∀ st : Fin 8, next false (st.1 : Int) 2 = 0 ∧ (next false (st.1 : Int) 3 = 0 ∨ next false (st.1 : Int) 3 = 1 ∨ next false (st.1 : Int) 3 = 2) := by decide
theorem next_b {st : Int} (h1 : 1 ≤ st) (h2 : st ≤ 7) : next false st 2 = 0 ∧ (next false st 3 = 0 ∨ next false st 3 = 1 ∨ next false st 3 = 2) := by
  have := next_both ⟨st.toNat, by omega⟩
  rw [show ((st.toNat : Nat) : Int) = st by omega] at this
  exact this

theorem judge_out (hc : CfgOk outB c) (hf : FlOk c f) : judge (rev (out_ c f)) = 0 := by
  obtain ⟨h1, h2⟩ := judge_ok.1 hf.ok
  rw [judge_ok]
  have hv := valid_v h1.vs
  have hlo := hc.lo
  have hhi := hc.hi
  have h4 := hf.p4
  have h6 := hf.p6
  have hp : 0 ≤ f.port ∧ f.port ≤ 65535 := by
    have := h1.sp0
    have := h1.sp1
    rcases hv with hv | hv
    · have := h4 hv; omega
    · have := h6 (by omega); omega
  have hsv : (out_ c f).s.v = f.t.s.v := by
    show (if f.t.s.v = 4 then c.out else f.t.s).v = _
    split
    · rw [hc.v4]; omega
    · rfl
  have hsval : valid (out_ c f).s = true := by
    show valid (if f.t.s.v = 4 then c.out else f.t.s) = true
    split
    · exact hc.val
    · exact h1.vs
  refine ⟨⟨h1.vd, hsval, ?_, h1.dp0, h1.dp1, hp.1, hp.2⟩, ?_⟩
  · show f.t.d.v = (out_ c f).s.v
    rw [hsv, h1.vv]
  · rcases h2 with h2 | h2 | h2
    · exact .inl h2
    · exact .inr (.inl h2)
    · refine .inr (.inr ?_)
      unfold isEcho at h2 ⊢
      show ((f.t.p == 1) && (f.t.d.v == 4) || (f.t.p == 58) && (f.t.d.v == 6)) = true
      rw [← h1.vv]
      exact h2

theorem Goes.sub (h : Wf c s) {j : Nat} (hj : fnd f.t s.es = some j) (hf : s.F[j]? = some f) {b r : Bool} (hg : Goes c s j f fl b r s') {k : Flw} (hk : Has s' k) : ∃ k', Has s k' ∧ k'.t = k.t := by
  cases hg with
  | no => exact ⟨k, hk, rfl⟩
  | reset => exact ⟨k, ((has_end h.inv).1 hk).1, rfl⟩
  | on h1 h2 h3 =>
    rcases (has_set h.inv hj hf).1 hk with h4 | rfl
    · exact ⟨k, h4.1, rfl⟩
    · exact ⟨f, (has_fnd h.inv).2 ⟨j, hj, hf⟩, rfl⟩
theorem Goes.len (h : Wf c s) {j : Nat} {b r : Bool} (hg : Goes c s j f fl b r s') : s'.es.length ≤ s.es.length := by
  cases hg with
  | no => exact Nat.le_refl _
  | reset =>
    show (del f.t s.es).length ≤ _
    rw [del_filter h.inv.keys]
    exact List.length_filter_le _ _
  | on h1 h2 h3 => exact Nat.le_refl _

/-- What a packet that went out leaves. -/
theorem out_sub (h : Wf c s) {y : Tup} {e : Int} (hr : OutR c s x fl y e s') {k : Flw} (hk : Has s' k) : (∃ k', Has s k' ∧ k'.t = k.t) ∨ (e = 0 ∧ k.t = x) := by
  cases hr with
  | judge => exact .inl ⟨k, hk, rfl⟩
  | known hj h1 h2 hx h3 => exact .inl (h3.sub h h1 h2 hk)
  | refused => exact .inl ⟨k, hk, rfl⟩
  | bad => exact .inl ⟨k, (has_withF h.inv).1 hk, rfl⟩
  | full => exact .inl ⟨k, (has_withF h.inv).1 hk, rfl⟩
  | noPort => exact .inl ⟨k, (has_withF h.inv).1 hk, rfl⟩
  | new q hj h1 h2 h3 h4 h5 h6 =>
    rcases (has_add h.inv).1 hk with h7 | rfl
    · exact .inl ⟨k, h7, rfl⟩
    · exact .inr ⟨rfl, rfl⟩
theorem out_err {y : Tup} {e : Int} (hr : OutR c s x fl y e s') (he : e ≠ 0) : y = zT ∧ s'.es.length = s.es.length := by
  cases hr with
  | judge => exact ⟨rfl, rfl⟩
  | known => exact (he rfl).elim
  | refused => exact ⟨rfl, rfl⟩
  | bad => exact ⟨rfl, rfl⟩
  | full => exact ⟨rfl, rfl⟩
  | noPort => exact ⟨rfl, rfl⟩
  | new => exact (he rfl).elim
/-- The flow of a packet that went out, where it may answer. -/
theorem out_flow (h : Wf c s) (hc : CfgOk outB c) {y : Tup} {e : Int} (hr : OutR c s x fl y e s') (he : e = 0) (hp : x.p = 6 → fl7 fl = 2) : ∃ g, Has s' g ∧ g.t = x ∧ out_ c g = y ∧ (x.p = 6 → g.st = 1 ∨ g.st = 2) := by
  have bad : ∀ {e : Int}, e ≠ 0 → e = 0 → ∃ g, Has s' g ∧ g.t = x ∧ out_ c g = y ∧ (x.p = 6 → g.st = 1 ∨ g.st = 2) := fun h1 h2 => (h1 h2).elim
  cases hr with
  | judge hj => exact bad hj he
  | refused => exact bad (by decide) he
  | bad => exact bad (by decide) he
  | full => exact bad (by decide) he
  | noPort => exact bad (by decide) he
  | @known j f s' hj h1 h2 hx h3 =>
    subst hx
    have ok := h.fl f ((has_fnd h.inv).2 ⟨j, h1, h2⟩)
    cases h3 with
    | reset h4 h5 =>
      rcases seg_two (hp h4) with h6 | h6 <;> rw [h6] at h5 <;> cases h5
    | on h4 h5 h6 =>
      refine ⟨_, (has_set h.inv h1 h2).2 (.inr rfl), rfl, rfl, fun h7 => ?_⟩
      show newSt false f fl = 1 ∨ newSt false f fl = 2
      unfold newSt at h5 ⊢
      rw [if_pos h7] at h5 ⊢
      obtain ⟨n1, n2⟩ := next_b ok.st1 ok.st2
      rcases seg_two (hp h7) with h8 | h8 <;> rw [h8] at h5 ⊢
      · exact (h5 n1).elim
      · rcases n2 with n2 | n2
        · exact (h5 n2).elim
        · exact n2
  | new q hj h1 h2 h3 h4 h5 h6 =>
    refine ⟨_, (has_add h.inv).2 (.inr rfl), rfl, rfl, fun h7 => .inl ?_⟩
    show (new0 x fl).st = 1
    rw [new0_st h2, if_pos h7]
/-- Its answer finds back. -/
theorem in_back (h : Wf c s) (hc : CfgOk outB c) (hg : Has s g) (hst : g.t.p = 6 → g.st = 1 ∨ g.st = 2) : ∃ s', inS s (rev (out_ c g)) 18 = some (rev g.t, 0, s') ∧ Wf c s' ∧ ∀ k, Has s' k → ∃ k', Has s k' ∧ k'.t = k.t := by
  obtain ⟨y, e, s', h1, h2⟩ := inS_ok h hc (rev (out_ c g)) 18
  have hw := h2.wf h hc
  have hj := judge_out hc (h.fl g hg)
  cases h2 with
  | judge h3 => exact (h3 hj).elim
  | none h3 h4 => exact (h4 g hg rfl).elim
  | @known j f s' h3 h4 h5 hx h6 =>
    have hf : Has s f := (has_fnd h.inv).2 ⟨j, h4, h5⟩
    have : f = g := has_inj h.inv hf hg (h.outI hc.v4 hf hg (rev_inj hx))
    subst this
    exact ⟨s', h1, hw, fun k hk => h6.sub h h4 h5 hk⟩
  | @refused j f h3 h4 h5 hx h6 =>
    have hf : Has s f := (has_fnd h.inv).2 ⟨j, h4, h5⟩
    have : f = g := has_inj h.inv hf hg (h.outI hc.v4 hf hg (rev_inj hx))
    subst this
    cases h6 with
    | no h7 h8 h9 =>
      unfold newSt at h9
      rw [if_pos h7, seg18] at h9
      rcases hst h7 with h10 | h10 <;> rw [h10] at h9 <;> exact absurd h9 (by decide)
theorem in_len (h : Wf c s) {y : Tup} {e : Int} (hr : InR c s x fl y e s') : s'.es.length ≤ s.es.length ∧ (e ≠ 0 → y = zT ∧ s'.es.length = s.es.length) ∧ (e = 0 → ∃ f, Has s f ∧ y = rev f.t) ∧ ∀ k, Has s' k → ∃ k', Has s k' ∧ k'.t = k.t := by
  cases hr with
  | judge h1 => exact ⟨Nat.le_refl _, fun _ => ⟨rfl, rfl⟩, fun h => (h1 h).elim, fun k hk => ⟨k, hk, rfl⟩⟩
  | none => exact ⟨Nat.le_refl _, fun _ => ⟨rfl, rfl⟩, fun h => (by cases h), fun k hk => ⟨k, hk, rfl⟩⟩
  | @known j f s' h3 h4 h5 hx h6 => exact ⟨h6.len h, fun h => (h rfl).elim, fun _ => ⟨f, (has_fnd h.inv).2 ⟨j, h4, h5⟩, rfl⟩, fun k hk => h6.sub h h4 h5 hk⟩
  | refused => exact ⟨Nat.le_refl _, fun _ => ⟨rfl, rfl⟩, fun h => (by cases h), fun k hk => ⟨k, hk, rfl⟩⟩
theorem ticks_sub (hc : CfgOk outB c) : ∀ {n : Nat} {s : Tb}, Wf c s → ∀ {k : Flw}, Has (ticks n s) k → ∃ k', Has s k' ∧ k'.t = k.t
  | 0, s, h, k, hk => ⟨k, hk, rfl⟩
  | n + 1, s, h, k, hk => by
    obtain ⟨k1, h1, h2⟩ := ticks_sub hc (n := n) (h.tick hc.v4) hk
    obtain ⟨k2, h3, rfl, _⟩ := (has_tick h.inv).1 h1
    exact ⟨k2, h3, h2⟩
theorem ticks_len : ∀ {n : Nat} {s : Tb}, (ticks n s).es.length ≤ s.es.length
  | 0, s => Nat.le_refl _
  | n + 1, s => Nat.le_trans (ticks_len (n := n)) (List.length_filter_le _ _)
end
end Go.Proofs.YtldnpibpbbcjgaaDoor.Am
end

section
set_option linter.unusedVariables false
set_option linter.unusedSimpArgs false
set_option maxRecDepth 20000
namespace Go.Proofs.YtldnpibpbbcjgaaDoor.Am
open Go Go.Am Go.Proofs

theorem g14' {n : Nat} {p : Stp} {x : Tup} {s : Tb} (h : p.kind = 4) (ok : TickOk n s) (hn : 41 < n) : G14 n [.pt 2 (some 0), p.av, x.av, .tup s.m1, .tup s.m2, .tup s.m3, .tup s.m4] = some [x.av, .bool false, .tup (ticks (more p 0) s).m1, .tup (ticks (more p 0) s).m2, .tup (ticks (more p 0) s).m3, .tup (ticks (more p 0) s).m4] := g14 n p x s h ok hn

theorem fl7_def (x : Int) : IntKind.wrap .i64 (Int.ofNat (BitVec.toNat (BitVec.ofInt 64 x &&& BitVec.ofInt 64 7))) = fl7 x := rfl
theorem jn_jn {R1 : Type} {X : Option (Sum (List AV) (Sum (List AV) R1))} {k1 : List AV → Option (Sum (List AV) R1)} {k2 : List AV → Option R1} {d e : List AV} {Q : Option R1 → Prop} (h1 : X = some (.inl d)) (h2 : k1 d = some (.inl e)) (h3 : Q (k2 e)) : Q (jn (jn X k1) k2) := by
  rw [h1, r_jnl, h2, r_jnl]
  exact h3
structure BS where
  s : Tb
  gone : List Tup
  last : Tup
  i : Nat
def BS.enc (l : List Stp) (b : BS) : List AV := [.tup b.s.m1, .tup b.s.m2, .tup b.s.m3, .tup b.s.m4, .fv s36 (l.map Stp.av), .pt 2 (some 0), .fv s34 (b.gone.map Tup.av), b.last.av, .int .i64 (b.i : Nat)]
structure BGood (c : Cfg) (b : BS) : Prop where
  wf : Wf c b.s
  gone : ∀ f, Has b.s f → f.t ∈ b.gone
  glen : b.gone.length ≤ b.i
  i : b.i ≤ 400
def Fine (o : Option (Sum (List AV) (List AV))) : Prop := ∃ d, o = some (.inl d)

theorem getE_stp (l : List Stp) {i : Nat} (h : i < l.length) : getE (l.map Stp.av) i = (l[i]).av := by
  unfold getE
  rw [List.getD_eq_getElem?_getD, List.getElem?_map, List.getElem?_eq_getElem h]
  rfl
theorem getE_tup (l : List Tup) {i : Nat} (h : i < l.length) : getE (l.map Tup.av) i = (l[i]).av := by
  unfold getE
  rw [List.getD_eq_getElem?_getD, List.getElem?_map, List.getElem?_eq_getElem h]
  rfl
theorem append_av (l : List Tup) (x : Tup) : l.map Tup.av ++ [x.av] = (l ++ [x]).map Tup.av := by rw [List.map_append]; rfl

/-- The search for a tuple whose reverse has gone out. -/
def anyG (z : Tup) (l : List Tup) : Bool := l.any fun g => decide (rev g = z)

theorem back_ok (c : Cfg) (hi : IPIn c.out) (l : List Stp) (n : Nat) (hn : 70000 < n) : run3 G8 G9 G10 G11 G12 G13 G14 n c.av (l.map Stp.av) = some [.bool true] := by
  have hc := cfgOf_ok hi
  generalize hc' : cfgOf c = c' at hc
  refine (eq3 G8 G9 G10 G11 G12 G13 G14 n c.av (l.map Stp.av)).trans ?_
  have h8 := g8' (by omega : 300 ≤ n) hi
  have h9 := g9 (by omega : 65537 < n)
  rw [hc'] at h8
  simp only [r_cfe, h8, h9, Option.bind_some, List.length_cons, List.length_nil, r_beq, r_brt, r_brf, r_get0, r_getS, r_pt, r_tup, r_fv, r_bool, r_inl, r_jnl, Option.isNone_some, Bool.not_true]
  have fin : ∀ X : Option (Sum (List AV) (List AV)), Fine X → jn X (fun _ => some [AV.bool true]) = some [.bool true] := by
    rintro X ⟨d, rfl⟩
    rfl
  refine fin _ ?_
  refine iter_post (BS.enc l) (fun b => 401 - b.i) (BGood c') Fine (fun b k hg hk => ?_) n ⟨newT c', [], zT, 0⟩ (by show 401 - 0 < n; omega) ⟨Wf.newT hc, fun f ⟨e, h, _⟩ => (List.not_mem_nil h).elim, Nat.le_refl _, by show 0 ≤ 400; omega⟩
  obtain ⟨s, gone, last, i⟩ := b
  obtain ⟨hw, hgone, hglen, hi4⟩ := hg
  simp only at hw hgone hglen hi4
  simp only [BS.enc, r_get0, r_getS, r_int, r_fv, r_tup, r_pt, List.length_map]
  by_cases hlt : i < l.length ∧ i < 400
  · obtain ⟨hl, h4⟩ := hlt
    have d1 : decide (((i : Nat) : Int) < Int.ofNat l.length) = true := decide_eq_true (by show ((i : Nat) : Int) < ((l.length : Nat) : Int); omega)
    have d2 : decide (((i : Nat) : Int) < 400) = true := decide_eq_true (by omega)
    have d3 : inR ((i : Nat) : Int) l.length = true := inR_ok (by omega) (by omega)
    have d4 : IntKind.wrap .i64 (((i : Nat) : Int) + 1) = ((i + 1 : Nat) : Int) := W_id (by omega) (by omega)
    have d5 : Nat.ble ((gone.length + 1) * 72) 140737488355328 = true := Nat.ble_eq_true_of_le (by omega)
    have d6 : ((gone.map Tup.av).length + 1) * 72 = (gone.length + 1) * 72 := by rw [List.length_map]
    have hge := getE_stp l hl
    have h4i : ((i : Nat) : Int) < 400 := by omega
    have d4' : IntKind.wrap .i64 (((i : Nat) : Int) + 1) = ((i : Nat) : Int) + 1 := d4
    generalize l[i] = p at hge
    have goOn : ∀ (s' : Tb) (gone' : List Tup) (last' : Tup), Wf c' s' → (∀ f, Has s' f → f.t ∈ gone') → gone'.length ≤ i + 1 → Fine (k [.tup s'.m1, .tup s'.m2, .tup s'.m3, .tup s'.m4, .fv s36 (l.map Stp.av), .pt 2 (some 0), .fv s34 (gone'.map Tup.av), last'.av, .int .i64 ((i + 1 : Nat) : Int)]) := fun s' gone' last' h1 h2 h3 => hk ⟨s', gone', last', i + 1⟩ (by show 401 - (i + 1) < 401 - i; omega) ⟨h1, h2, h3, by show i + 1 ≤ 400; omega⟩
    simp only [hge, r_brdt, r_brdf, r_get0, r_getS, r_int, r_fv, r_tup, r_pt, r_st0, r_st1, r_st2, r_st3, r_st4, r_inl, r_inr, hl, h4i, fl7_def]
    simp [hl, h4i]
    by_cases k1 : p.kind = 1
    · -- out
      obtain ⟨y, e, s', ho, hr⟩ := goOut_ok hw hc p.x p.fl
      have hw' := hr.wf hw hc
      have h11 := g11' (x := p.x) (fl := p.fl) hw hc (by omega : 65537 < n)
      rw [ho] at h11
      by_cases he : e = 0
      · subst he
        have hsub : ∀ f, Has s' f → f.t ∈ gone ++ [p.x] := by
          intro f hf
          rcases out_sub hw hr hf with ⟨f', h1, h2⟩ | ⟨_, h2⟩
          · rw [← h2]; exact List.mem_append.2 (.inl (hgone f' h1))
          · rw [h2]; simp
        by_cases hq : p.x.p = 6 ∧ fl7 p.fl ≠ 2
        · have q1 : (fl7 p.fl != 2) = true := by simpa using hq.2
          have q2 : (p.x.p == 6) = true := by simpa using hq.1
          simp [d3, d4', d5, hge, g10', k1, h11, q1, q2]
          rw [append_av]
          exact goOn s' (gone ++ [p.x]) y hw' hsub (by simp; omega)
        · obtain ⟨g, hg, hgt, hgy, hgs⟩ := out_flow hw hc hr rfl (fun h => Classical.byContradiction fun h2 => hq ⟨h, h2⟩)
          obtain ⟨s2, h12, hw2, hs2⟩ := in_back hw' hc hg (by rw [hgt]; exact hgs)
          have h12' := g12' (n := n) (s := s') (x := rev (out_ c' g)) (fl := 18)
          rw [h12, hgy, hgt] at h12'
          have hsub2 : ∀ f, Has s2 f → f.t ∈ gone ++ [p.x] := fun f hf => by
            obtain ⟨f', h1, h2⟩ := hs2 f hf
            rw [← h2]
            exact hsub f' h1
          have go := goOn s2 (gone ++ [p.x]) y hw2 hsub2 (by simp; omega)
          by_cases q2 : p.x.p = 6
          · have q1 : (fl7 p.fl != 2) = false := by
              have : fl7 p.fl = 2 := Classical.byContradiction fun h2 => hq ⟨q2, h2⟩
              exact (by rw [this]; decide : (fl7 p.fl != 2) = false)
            simp [d3, d4', d5, hge, g10', k1, h11, q1, q2, g13, h12', keq_tup]
            rw [append_av]
            exact go
          · have q3 : (p.x.p == 6) = false := by simpa using q2
            simp [d3, d4', d5, hge, g10', k1, h11, q3, g13, h12', keq_tup]
            rw [append_av]
            exact go
      · obtain ⟨rfl, hlen⟩ := out_err hr he
        have he' : (e != 0) = true := by simpa using he
        have hsub : ∀ f, Has s' f → f.t ∈ gone := by
          intro f hf
          rcases out_sub hw hr hf with ⟨f', h1, h2⟩ | ⟨h1, _⟩
          · rw [← h2]; exact hgone f' h1
          · exact (he h1).elim
        simp [d3, d4', hge, g10', k1, h11, he', z34_eq, keq_tup, hlen]
        exact goOn s' gone last hw' hsub (by omega)
    · have k1' : (p.kind == 1) = false := by simpa using k1
      by_cases k4 : p.kind = 4
      · have h14 := g14' (n := n) (p := p) (x := last) (s := s) k4 (hw.tickOk hc (by omega)) (by omega)
        simp [d3, d4', hge, g10', k4, h14]
        exact goOn _ gone last (hw.ticks hc) (fun f hf => by
          obtain ⟨f', h1, h2⟩ := ticks_sub hc hw hf
          rw [← h2]; exact hgone f' h1) (by omega)
      · have k4' : (p.kind == 4) = false := by simpa using k4
        by_cases k23 : p.kind = 2 ∨ p.kind = 3
        · -- in
          have core : ∀ x : Tup, ∃ y e s', inS s x p.fl = some (y, e, s') ∧ Wf c' s' ∧ s'.es.length ≤ s.es.length ∧ (e ≠ 0 → y = zT ∧ s'.es.length = s.es.length) ∧ (e = 0 → anyG y gone = true) ∧ ∀ f, Has s' f → f.t ∈ gone := by
            intro x
            obtain ⟨y, e, s', h1, h2⟩ := inS_ok hw hc x p.fl
            obtain ⟨h3, h4, h5, h6⟩ := in_len hw h2
            refine ⟨y, e, s', h1, h2.wf hw hc, h3, h4, fun he => ?_, fun f hf => ?_⟩
            · obtain ⟨f, hf, rfl⟩ := h5 he
              unfold anyG
              rw [List.any_eq_true]
              exact ⟨f.t, hgone f hf, by simp⟩
            · obtain ⟨f', h7, h8⟩ := h6 f hf
              rw [← h8]; exact hgone f' h7
          obtain ⟨x, hx⟩ : ∃ x, (p.kind = 2 ∧ p.x = x) ∨ (p.kind = 3 ∧ rev last = x) := by
            rcases k23 with h | h
            · exact ⟨_, .inl ⟨h, rfl⟩⟩
            · exact ⟨_, .inr ⟨h, rfl⟩⟩
          obtain ⟨y, e, s', h1, hw', hlen, herr, hok, hsub⟩ := core x
          have h12 := g12' (n := n) (s := s) (x := x) (fl := p.fl)
          rw [h1] at h12
          have dl : ¬ s.es.length < s'.es.length := by omega
          by_cases he : e = 0
          · subst he
            have hy := hok rfl
            have go := goOn s' gone last hw' hsub (by omega)
            rcases hx with ⟨k2, rfl⟩ | ⟨k3, rfl⟩
            · simp [d3, d4', hge, g10', h12, dl, g13, k2]
              refine jn_jn (Q := Fine) (d := [.tup s'.m1, .tup s'.m2, .tup s'.m3, .tup s'.m4, .fv s36 (l.map Stp.av), .pt 2 (some 0), .fv s34 (gone.map Tup.av), last.av, .int .i64 (i : Nat), .bool (false || anyG y (gone.drop 0))]) (e := [.tup s'.m1, .tup s'.m2, .tup s'.m3, .tup s'.m4, .fv s36 (l.map Stp.av), .pt 2 (some 0), .fv s34 (gone.map Tup.av), last.av, .int .i64 (i : Nat)]) ?_ ?_ ?_
              · refine iter_any (fun q : Bool × Nat => [.tup s'.m1, .tup s'.m2, .tup s'.m3, .tup s'.m4, .fv s36 (l.map Stp.av), .pt 2 (some 0), .fv s34 (gone.map Tup.av), last.av, .int .i64 (i : Nat), Tup.av y, .bool q.1, .int .i64 (q.2 : Nat)]) (fun q => gone.length - q.2) (fun q => Sum.inl [.tup s'.m1, .tup s'.m2, .tup s'.m3, .tup s'.m4, .fv s36 (l.map Stp.av), .pt 2 (some 0), .fv s34 (gone.map Tup.av), last.av, .int .i64 (i : Nat), .bool (q.1 || anyG y (gone.drop q.2))]) (fun q => q.2 ≤ gone.length) (fun q K hq hK => ?_) n (false, 0) (by show gone.length - 0 < n; omega) (Nat.zero_le _)
                obtain ⟨b, j⟩ := q
                simp only at hq
                by_cases hj : j < gone.length
                · have hgj := getE_tup gone hj
                  have e1 : inR ((j : Nat) : Int) gone.length = true := inR_ok (by omega) (by omega)
                  have e2 : Nat.ble (j + 1) gone.length = true := Nat.ble_eq_true_of_le (by omega)
                  have e3 : IntKind.wrap .i64 (((j : Nat) : Int) + 1) = ((j : Nat) : Int) + 1 := W_id (by omega) (by omega)
                  have e4 : gone.drop j = gone[j] :: gone.drop (j + 1) := List.drop_eq_getElem_cons hj
                  have hK' := fun b' => hK (b', j + 1) (by show gone.length - (j + 1) < gone.length - j; omega) (by show j + 1 ≤ gone.length; omega)
                  cases b with
                  | true =>
                    simp [hj, e3]
                    exact (hK' true).trans (by simp)
                  | false =>
                    simp [hj, e1, e2, e3, hgj, g13, keq_tup]
                    refine (hK' (decide (rev gone[j] = y))).trans ?_
                    rw [e4]
                    rfl
                · have : j = gone.length := by omega
                  subst this
                  simp [anyG]
              · simp [hy]
              · simp [d4']
                exact go
            · simp [d3, d4', hge, g10', h12, dl, g13, k3]
              refine jn_jn (Q := Fine) (d := [.tup s'.m1, .tup s'.m2, .tup s'.m3, .tup s'.m4, .fv s36 (l.map Stp.av), .pt 2 (some 0), .fv s34 (gone.map Tup.av), last.av, .int .i64 (i : Nat), .bool (false || anyG y (gone.drop 0))]) (e := [.tup s'.m1, .tup s'.m2, .tup s'.m3, .tup s'.m4, .fv s36 (l.map Stp.av), .pt 2 (some 0), .fv s34 (gone.map Tup.av), last.av, .int .i64 (i : Nat)]) ?_ ?_ ?_
              · refine iter_any (fun q : Bool × Nat => [.tup s'.m1, .tup s'.m2, .tup s'.m3, .tup s'.m4, .fv s36 (l.map Stp.av), .pt 2 (some 0), .fv s34 (gone.map Tup.av), last.av, .int .i64 (i : Nat), Tup.av y, .bool q.1, .int .i64 (q.2 : Nat)]) (fun q => gone.length - q.2) (fun q => Sum.inl [.tup s'.m1, .tup s'.m2, .tup s'.m3, .tup s'.m4, .fv s36 (l.map Stp.av), .pt 2 (some 0), .fv s34 (gone.map Tup.av), last.av, .int .i64 (i : Nat), .bool (q.1 || anyG y (gone.drop q.2))]) (fun q => q.2 ≤ gone.length) (fun q K hq hK => ?_) n (false, 0) (by show gone.length - 0 < n; omega) (Nat.zero_le _)
                obtain ⟨b, j⟩ := q
                simp only at hq
                by_cases hj : j < gone.length
                · have hgj := getE_tup gone hj
                  have e1 : inR ((j : Nat) : Int) gone.length = true := inR_ok (by omega) (by omega)
                  have e2 : Nat.ble (j + 1) gone.length = true := Nat.ble_eq_true_of_le (by omega)
                  have e3 : IntKind.wrap .i64 (((j : Nat) : Int) + 1) = ((j : Nat) : Int) + 1 := W_id (by omega) (by omega)
                  have e4 : gone.drop j = gone[j] :: gone.drop (j + 1) := List.drop_eq_getElem_cons hj
                  have hK' := fun b' => hK (b', j + 1) (by show gone.length - (j + 1) < gone.length - j; omega) (by show j + 1 ≤ gone.length; omega)
                  cases b with
                  | true =>
                    simp [hj, e3]
                    exact (hK' true).trans (by simp)
                  | false =>
                    simp [hj, e1, e2, e3, hgj, g13, keq_tup]
                    refine (hK' (decide (rev gone[j] = y))).trans ?_
                    rw [e4]
                    rfl
                · have : j = gone.length := by omega
                  subst this
                  simp [anyG]
              · simp [hy]
              · simp [d4']
                exact go
          · obtain ⟨rfl, hl2⟩ := herr he
            have he' : (e != 0) = true := by simpa using he
            have go := goOn s' gone last hw' hsub (by omega)
            rcases hx with ⟨k2, rfl⟩ | ⟨k3, rfl⟩
            · simp [d3, d4', hge, g10', h12, dl, g13, k2, he', z34_eq, keq_tup, hl2]
              refine jn_jn (Q := Fine) (d := [.tup s'.m1, .tup s'.m2, .tup s'.m3, .tup s'.m4, .fv s36 (l.map Stp.av), .pt 2 (some 0), .fv s34 (gone.map Tup.av), last.av, .int .i64 (i : Nat), .bool (true || anyG zT (gone.drop 0))]) (e := [.tup s'.m1, .tup s'.m2, .tup s'.m3, .tup s'.m4, .fv s36 (l.map Stp.av), .pt 2 (some 0), .fv s34 (gone.map Tup.av), last.av, .int .i64 (i : Nat)]) ?_ ?_ ?_
              · refine iter_any (fun q : Bool × Nat => [.tup s'.m1, .tup s'.m2, .tup s'.m3, .tup s'.m4, .fv s36 (l.map Stp.av), .pt 2 (some 0), .fv s34 (gone.map Tup.av), last.av, .int .i64 (i : Nat), Tup.av zT, .bool q.1, .int .i64 (q.2 : Nat)]) (fun q => gone.length - q.2) (fun q => Sum.inl [.tup s'.m1, .tup s'.m2, .tup s'.m3, .tup s'.m4, .fv s36 (l.map Stp.av), .pt 2 (some 0), .fv s34 (gone.map Tup.av), last.av, .int .i64 (i : Nat), .bool (q.1 || anyG zT (gone.drop q.2))]) (fun q => q.2 ≤ gone.length) (fun q K hq hK => ?_) n (true, 0) (by show gone.length - 0 < n; omega) (Nat.zero_le _)
                obtain ⟨b, j⟩ := q
                simp only at hq
                by_cases hj : j < gone.length
                · have hgj := getE_tup gone hj
                  have e1 : inR ((j : Nat) : Int) gone.length = true := inR_ok (by omega) (by omega)
                  have e2 : Nat.ble (j + 1) gone.length = true := Nat.ble_eq_true_of_le (by omega)
                  have e3 : IntKind.wrap .i64 (((j : Nat) : Int) + 1) = ((j : Nat) : Int) + 1 := W_id (by omega) (by omega)
                  have e4 : gone.drop j = gone[j] :: gone.drop (j + 1) := List.drop_eq_getElem_cons hj
                  have hK' := fun b' => hK (b', j + 1) (by show gone.length - (j + 1) < gone.length - j; omega) (by show j + 1 ≤ gone.length; omega)
                  cases b with
                  | true =>
                    simp [hj, e3]
                    exact (hK' true).trans (by simp)
                  | false =>
                    simp [hj, e1, e2, e3, hgj, g13, keq_tup]
                    refine (hK' (decide (rev gone[j] = zT))).trans ?_
                    rw [e4]
                    rfl
                · have : j = gone.length := by omega
                  subst this
                  simp [anyG]
              · simp
              · simp [d4']
                exact go
            · simp [d3, d4', hge, g10', h12, dl, g13, k3, he', z34_eq, keq_tup, hl2]
              refine jn_jn (Q := Fine) (d := [.tup s'.m1, .tup s'.m2, .tup s'.m3, .tup s'.m4, .fv s36 (l.map Stp.av), .pt 2 (some 0), .fv s34 (gone.map Tup.av), last.av, .int .i64 (i : Nat), .bool (true || anyG zT (gone.drop 0))]) (e := [.tup s'.m1, .tup s'.m2, .tup s'.m3, .tup s'.m4, .fv s36 (l.map Stp.av), .pt 2 (some 0), .fv s34 (gone.map Tup.av), last.av, .int .i64 (i : Nat)]) ?_ ?_ ?_
              · refine iter_any (fun q : Bool × Nat => [.tup s'.m1, .tup s'.m2, .tup s'.m3, .tup s'.m4, .fv s36 (l.map Stp.av), .pt 2 (some 0), .fv s34 (gone.map Tup.av), last.av, .int .i64 (i : Nat), Tup.av zT, .bool q.1, .int .i64 (q.2 : Nat)]) (fun q => gone.length - q.2) (fun q => Sum.inl [.tup s'.m1, .tup s'.m2, .tup s'.m3, .tup s'.m4, .fv s36 (l.map Stp.av), .pt 2 (some 0), .fv s34 (gone.map Tup.av), last.av, .int .i64 (i : Nat), .bool (q.1 || anyG zT (gone.drop q.2))]) (fun q => q.2 ≤ gone.length) (fun q K hq hK => ?_) n (true, 0) (by show gone.length - 0 < n; omega) (Nat.zero_le _)
                obtain ⟨b, j⟩ := q
                simp only at hq
                by_cases hj : j < gone.length
                · have hgj := getE_tup gone hj
                  have e1 : inR ((j : Nat) : Int) gone.length = true := inR_ok (by omega) (by omega)
                  have e2 : Nat.ble (j + 1) gone.length = true := Nat.ble_eq_true_of_le (by omega)
                  have e3 : IntKind.wrap .i64 (((j : Nat) : Int) + 1) = ((j : Nat) : Int) + 1 := W_id (by omega) (by omega)
                  have e4 : gone.drop j = gone[j] :: gone.drop (j + 1) := List.drop_eq_getElem_cons hj
                  have hK' := fun b' => hK (b', j + 1) (by show gone.length - (j + 1) < gone.length - j; omega) (by show j + 1 ≤ gone.length; omega)
                  cases b with
                  | true =>
                    simp [hj, e3]
                    exact (hK' true).trans (by simp)
                  | false =>
                    simp [hj, e1, e2, e3, hgj, g13, keq_tup]
                    refine (hK' (decide (rev gone[j] = zT))).trans ?_
                    rw [e4]
                    rfl
                · have : j = gone.length := by omega
                  subst this
                  simp [anyG]
              · simp
              · simp [d4']
                exact go
        · have k2' : (p.kind == 2) = false := by simp; exact fun h => k23 (.inl h)
          have k3' : (p.kind == 3) = false := by simp; exact fun h => k23 (.inr h)
          simp [d3, d4', hge, g10', k1', k2', k3', k4']
          exact goOn s gone last hw hgone (by omega)
  · by_cases hl : i < l.length
    · have h4 : ¬ i < 400 := fun h => hlt ⟨hl, h⟩
      have d1 : decide (((i : Nat) : Int) < Int.ofNat l.length) = true := decide_eq_true (by show ((i : Nat) : Int) < ((l.length : Nat) : Int); omega)
      have d2 : decide (((i : Nat) : Int) < 400) = false := decide_eq_false (by omega)
      simp [hl, show ¬ ((i : Nat) : Int) < 400 by omega]
      exact ⟨_, rfl⟩
    · have d1 : decide (((i : Nat) : Int) < Int.ofNat l.length) = false := decide_eq_false (by show ¬ ((i : Nat) : Int) < ((l.length : Nat) : Int); omega)
      simp [hl]
      exact ⟨_, rfl⟩
end Go.Proofs.YtldnpibpbbcjgaaDoor.Am
end
