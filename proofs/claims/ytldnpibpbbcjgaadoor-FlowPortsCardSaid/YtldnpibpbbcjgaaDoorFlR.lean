/-
  The law FlowPorts: the table's flows, after every step.
-/
import Derived.Test.YtldnpibpbbcjgaaDoorFlP
section
set_option linter.unusedVariables false
set_option linter.unusedSimpArgs false
set_option maxRecDepth 20000
namespace Go.Proofs.YtldnpibpbbcjgaaDoor.Am
open Go Go.Am Go.Proofs

noncomputable def G16 : Fun := spec (fun p : Cfg × Flw => [p.1.av, p.2.av]) (fun l => (Cfg.of (getE l 0), Flw.of (getE l 1))) fun _ p => some [(out_ p.1 p.2).av]
theorem g16 (n : Nat) (c : Cfg) (f : Flw) : G16 n [c.av, f.av] = some [(out_ c f).av] := spec_at (enc := fun p : Cfg × Flw => [p.1.av, p.2.av]) (c, f) rfl
theorem s16 : SoundCal Tryd.prog env 16 (mkCal D16 G16) := spec_ok snd16 (fun n p r h => by
  obtain ⟨c, f⟩ := p
  cases h
  refine (eq16 n c.av f.av).trans ?_
  unfold out_
  by_cases h4 : f.t.s.v = 4
  · simp [h4]
    rfl
  · have h4' : (f.t.s.v == 4) = false := by simpa using h4
    simp [h4', h4]
    rfl)

theorem jn_lQ {R : Type} {X : Option (Sum (List AV) R)} {K : List AV → Option R} {Q : Option R → Prop} (d : List AV) (h : X = some (.inl d)) (hq : Q (K d)) : Q (jn X K) := by
  rw [h, r_jnl]
  exact hq
theorem keys_ne {L : List Flw} (hk : (L.map fun f => f.t).Nodup) {i j : Nat} (hi : i < L.length) (hj : j < L.length) (h : i ≠ j) : L[i].t ≠ L[j].t := by
  intro e
  refine h ((List.getElem?_inj (by simpa using hi) hk).1 ?_)
  rw [List.getElem?_eq_getElem (by simpa using hi), List.getElem?_eq_getElem (by simpa using hj)]
  simpa using e

theorem ports_ok (c : Cfg) (hi : IPIn c.out) (l : List Stp) (hl16 : ∀ p ∈ l, TupIn p.x) (n : Nat) (hn : 70000 < n) : run4 G8 G9 G10 G14r G15 G16 n c.av (l.map Stp.av) = some [.bool true] := by
  have hc := cfgOf_ok hi
  generalize hc' : cfgOf c = c' at hc
  refine (eq4 G8 G9 G10 G14r G15 G16 n c.av (l.map Stp.av)).trans ?_
  have h8 := g8' (by omega : 300 ≤ n) hi
  have h9 := g9 (by omega : 65537 < n)
  rw [hc'] at h8
  simp only [r_cfe, h8, h9, Option.bind_some, List.length_cons, List.length_nil, r_beq, r_brt, r_brf, r_get0, r_getS, r_pt, r_tup, r_fv, r_bool, r_inl, r_jnl, Option.isNone_some, Bool.not_true]
  refine jn_post (fun _ => True) ?_ (fun _ _ => rfl)
  refine iter_post (fun q : Tb × Tup × Nat => [.tup q.1.m1, .tup q.1.m2, .tup q.1.m3, .tup q.1.m4, .fv s36 (l.map Stp.av), c'.av, .pt 2 (some 0), q.2.1.av, .int .i64 (q.2.2 : Nat)]) (fun q => 401 - q.2.2) (fun q => Wf c' q.1 ∧ In16 q.1 ∧ q.2.2 ≤ 400)
    (fun X : Option (Sum (List AV) (List AV)) => ∃ d : List AV, X = some (Sum.inl d) ∧ True) (fun q k hg hk => ?_) n (newT c', zT, 0) (by show 401 - 0 < n; omega) ⟨Wf.newT hc, fun f ⟨e, h, _⟩ => (List.not_mem_nil h).elim, Nat.zero_le _⟩
  obtain ⟨s, x, i⟩ := q
  obtain ⟨hw0, h160, hi4⟩ := hg
  simp only at hw0 h160 hi4
  by_cases hlt : i < l.length ∧ i < 400
  · obtain ⟨hl, h4⟩ := hlt
    have d3 : inR ((i : Nat) : Int) l.length = true := inR_ok (by omega) (by omega)
    have d4 : IntKind.wrap .i64 (((i : Nat) : Int) + 1) = ((i : Nat) : Int) + 1 := W_id (by omega) (by omega)
    have hge := getE_stp l hl
    have hin := hl16 l[i] (List.getElem_mem hl)
    generalize l[i] = p at hge hin
    obtain ⟨y, b, t, hr, hw, hs⟩ := runS_ok hw0 hc p x
    have h14 := g14r (p := p) (x := x) (hw0.runOk hc (by omega : 65537 < n))
    rw [hr, outW_some] at h14
    have h16 : In16 t := fun f hf => by
      rcases hs f hf with ⟨f', h1, h2⟩ | h1
      · rw [← h2]; exact h160 f' h1
      · rw [h1]; exact hin
    have h4i : ((i : Nat) : Int) < 400 := by omega
    have h15 := g15' (hw.dumpOk hc h16 (by omega : 65537 < n))
    have h10 := g10' (n := n) (s := t)
    have hL : ∀ f ∈ dump t, Has t f := fun f hf => mem_dump.1 hf
    have hkeys := dump_keys hw.inv
    have hlen : (dump t).length = t.es.length := dump_len hw.inv.toInv
    have hmax : ¬ c'.max < (t.es.length : Int) := by
      have := hw.len
      omega
    have hbig : t.es.length ≤ 4096 := by
      have h1 := hw.len
      have h2 := hc.max2
      omega
    generalize dump t = L at h15 hL hkeys hlen
    simp [hl, h4i, d3, hge, h14, h15, hlen, hmax, h10]
    refine jn_lQ (Q := fun X : Option (Sum (List AV) (List AV)) => ∃ d : List AV, X = some (Sum.inl d)) [.tup t.m1, .tup t.m2, .tup t.m3, .tup t.m4, .fv s36 (l.map Stp.av), c'.av, .pt 2 (some 0), y.av, .int .i64 (i : Nat)] ?_ ?_
    · refine Eq.trans (iter_any (fun j : Nat => [.tup t.m1, .tup t.m2, .tup t.m3, .tup t.m4, .fv s36 (l.map Stp.av), c'.av, .pt 2 (some 0), y.av, .int .i64 (i : Nat), .fv s48 (L.map Flw.av), .int .i64 (j : Nat)]) (fun j => L.length - j) (fun _ => (Sum.inl [.tup t.m1, .tup t.m2, .tup t.m3, .tup t.m4, .fv s36 (l.map Stp.av), c'.av, .pt 2 (some 0), y.av, .int .i64 (i : Nat)])) (fun j => j ≤ L.length) (fun j K hj hK => ?_) n 0 (by show L.length - 0 < n; omega) (Nat.zero_le _)) rfl
      by_cases hjl : j < L.length
      · have hge := getE_flw L hjl
        have e1 : inR ((j : Nat) : Int) L.length = true := inR_ok (by omega) (by omega)
        have e2 : Nat.ble (j + 1) L.length = true := Nat.ble_eq_true_of_le (by omega)
        have e3 : IntKind.wrap .i64 (((j : Nat) : Int) + 1) = ((j : Nat) : Int) + 1 := W_id (by omega) (by omega)
        have hK' := hK (j + 1) (by show L.length - (j + 1) < L.length - j; omega) (by show j + 1 ≤ L.length; omega)
        have hHas := hL L[j] (List.getElem_mem hjl)
        have hf := hw.fl _ hHas
        have hpair : ∀ q, (hq : q < j) → L[q].t ≠ L[j].t := fun q hq => keys_ne hkeys (by omega) hjl (by omega)
        generalize L[j] = f at hge hHas hf hpair
        have f1 : ¬ f.left < 1 := by have := hf.l1; omega
        have h3 : (f.t.s.v = 4 ∧ ¬ f.port < c'.lo ∧ ¬ c'.hi < f.port) ∨ ((f.t.s.v == 4) = false ∧ f.t.s.v = 6 ∧ f.port = f.t.sp) ∨ ((f.t.s.v == 4) = false ∧ (f.t.s.v == 6) = false ∧ True) := by
          by_cases h4v : f.t.s.v = 4
          · have hp := hf.p4 h4v
            exact .inl ⟨h4v, by omega, by omega⟩
          · have h4v' : (f.t.s.v == 4) = false := by simpa using h4v
            by_cases h6v : f.t.s.v = 6
            · exact .inr (.inl ⟨h4v', h6v, hf.p6 h4v⟩)
            · exact .inr (.inr ⟨h4v', by simpa using h6v, trivial⟩)
        rcases h3 with ⟨h4v, f2, f3⟩ | ⟨h4v, f2, f3⟩ | ⟨h4v, f2, f3⟩
        all_goals simp [hjl, e1, e2, hge, f1, h4v, f2, f3]
        all_goals refine jn_lQ (Q := fun X => X = some _) [.tup t.m1, .tup t.m2, .tup t.m3, .tup t.m4, .fv s36 (l.map Stp.av), c'.av, .pt 2 (some 0), y.av, .int .i64 (i : Nat), .fv s48 (L.map Flw.av), .int .i64 (j : Nat)] ?_ (by simp [e3]; exact hK')
        all_goals
          refine Eq.trans (iter_any (fun q : Nat => [.tup t.m1, .tup t.m2, .tup t.m3, .tup t.m4, .fv s36 (l.map Stp.av), c'.av, .pt 2 (some 0), y.av, .int .i64 (i : Nat), .fv s48 (L.map Flw.av), .int .i64 (j : Nat), f.av, .int .i64 (q : Nat)]) (fun q => j - q) (fun _ => (Sum.inl [.tup t.m1, .tup t.m2, .tup t.m3, .tup t.m4, .fv s36 (l.map Stp.av), c'.av, .pt 2 (some 0), y.av, .int .i64 (i : Nat), .fv s48 (L.map Flw.av), .int .i64 (j : Nat)])) (fun q => q ≤ j) (fun q N hq hN => ?_) n 0 (by show j - 0 < n; omega) (Nat.zero_le _)) rfl
          by_cases hqj : q < j
          · have hql : q < L.length := by omega
            have hgq := getE_flw L hql
            have z1 : inR ((q : Nat) : Int) L.length = true := inR_ok (by omega) (by omega)
            have z2 : Nat.ble (q + 1) L.length = true := Nat.ble_eq_true_of_le (by omega)
            have z3 : IntKind.wrap .i64 (((q : Nat) : Int) + 1) = ((q : Nat) : Int) + 1 := W_id (by omega) (by omega)
            have hN' := hN (q + 1) (by show j - (q + 1) < j - q; omega) (by show q + 1 ≤ j; omega)
            have hHq := hL L[q] (List.getElem_mem hql)
            have hne := hpair q hqj
            generalize L[q] = g at hgq hHq hne
            have hno : ¬ out_ c' g = out_ c' f := fun h => hne (hw.outI hc.v4 hHq hHas h)
            by_cases g4 : g.t.s.v = 4
            · by_cases ff4 : f.t.s.v = 4
              · by_cases gp : g.t.p = f.t.p
                · have hpo : (g.port == f.port) = false := by
                    simp
                    exact fun h => hne (hw.port g f hHq hHas g4 ff4 gp h)
                  simp [hqj, hgq, z1, z2, z3, keq_tup, hne, g16, hno, g4, ff4, gp, hpo]
                  exact hN'
                · have gp' : (g.t.p == f.t.p) = false := by simpa using gp
                  simp [hqj, hgq, z1, z2, z3, keq_tup, hne, g16, hno, g4, ff4, gp']
                  exact hN'
              · have ff4' : (f.t.s.v == 4) = false := by simpa using ff4
                simp [hqj, hgq, z1, z2, z3, keq_tup, hne, g16, hno, g4, ff4']
                exact hN'
            · have g4' : (g.t.s.v == 4) = false := by simpa using g4
              simp [hqj, hgq, z1, z2, z3, keq_tup, hne, g16, hno, g4']
              exact hN'
          · have : q = j := by omega
            subst this
            simp
      · simp [hjl]
    · simp [d4]
      obtain ⟨d, hd, _⟩ := hk (t, y, i + 1) (by show 401 - (i + 1) < 401 - i; omega) ⟨hw, h16, by show i + 1 ≤ 400; omega⟩
      exact ⟨d, hd⟩
  · by_cases hl : i < l.length
    · have h4 : ¬ ((i : Nat) : Int) < 400 := fun h => hlt ⟨hl, by omega⟩
      simp [hl, h4]
    · simp [hl]
end Go.Proofs.YtldnpibpbbcjgaaDoor.Am
end
