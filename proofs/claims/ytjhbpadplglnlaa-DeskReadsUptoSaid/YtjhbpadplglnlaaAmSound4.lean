/-
  AM: the operations are sound, part 4: addresses, parts, numbers, strings.
-/
import Derived.Test.YtjhbpadplglnlaaAmSound3
set_option linter.unusedVariables false
set_option linter.unusedSimpArgs false
namespace Go.Am
open Go.RowKit

section
variable {C : Ctx} {S S' : St} {θ θ' : Nat → Option Value} {a : Act} {w w' : World} {n : Nat} {ok : Nat → Prop} {P : Program} {o : Oper}

theorem ptr_plain : ∀ {x : AV} {v : Value} {ad : Addr}, CV w ok θ x v → v = .pointer (some ad) → (∀ t, x ≠ .fp t) → x ≠ .undef → x ≠ .own 0 → True := fun _ _ _ _ _ => trivial

theorem CVs_item {cs : List AV} {vs : List Value} (h : CVs w ok θ cs vs) {i : Nat} {c : AV} (hi : cs[i]? = some c) :
    ∃ v us ws, vs = us ++ (v.cells.toList ++ ws) ∧ us.length = AV.widths (cs.take i) ∧ v.cells.size = c.width ∧ CV w ok θ c v := by
  obtain ⟨v, us, ws, h1, h2, h3, h4, _, _⟩ := CVs_get h hi
  exact ⟨v, us, ws, h1, h2, h3, h4⟩

theorem run_part {t : TypeId} {cs us ws : List Value} {v : Value} {c : AV} (hf : fits P t c = true) (hst : c.stor = true) (hv : CV w ok θ c v) (hs : v.cells.size = c.width) (hc : cs = us ++ (v.cells.toList ++ ws)) :
    (part t cs.toArray us.length).run P w = .ok v w := by
  simp only [fits, Bool.and_eq_true, beq_iff_eq] at hf
  obtain ⟨ht, ha, hw⟩ := hf
  have hw' : c.width = sizeT P t := Nat.eq_of_beq_eq_true hw
  simp only [part, Sem.run_bind, run_isAgg' ht, Result.andThen_ok]
  cases hb : c.isAgg with
  | true =>
    rw [← ha, hb]
    simp only [if_true, Sem.run_bind, run_sizeOf' ht, Result.andThen_ok, Sem.run_pure]
    have hv2 : v = .agg v.cells := by
      cases c with
      | arr k m xs => obtain ⟨_, rfl⟩ := hv; rfl
      | agg cs => obtain ⟨vs, rfl, _⟩ := hv; rfl
      | _ => simp [AV.isAgg] at hb
    congr 1
    conv => rhs; rw [hv2]
    congr 1
    apply Array.ext'
    subst hc
    simp only [Array.toList_extract, List.extract_eq_take_drop]
    rw [List.drop_left, ← hw', ← hs, Nat.add_sub_cancel_left, ← Array.length_toList, List.take_left]
  | false =>
    rw [← ha, hb]
    simp only [Bool.false_eq_true, if_false]
    have h1 := CV_one hb hst hv
    have : cs.toArray[us.length]? = some v := by
      subst hc
      rw [h1]
      simp
    simp only [this, Sem.run_pure]

theorem opField_ok {t : TypeId} {x : Operand} {f : Nat} {u : AV} (ho : o.op = .field t x f) (h : Rel C S θ a w) (hu : CV w (okOf C w S θ) θ u (a.eval x)) (hh : (opField P o t u f).exe n S = some S') : Does P C S' o a w := by
  unfold opField at hh
  split at hh <;> first | exact (exe_fail hh).elim | skip
  rename_i fs hfs
  split at hh <;> first | exact (exe_fail hh).elim | skip
  rename_i fd cs hfd
  split at hh <;> first | exact (exe_fail hh).elim | skip
  rename_i c hc
  obtain ⟨hm, hh⟩ := exe_must hh
  simp only [Bool.and_eq_true] at hm
  obtain ⟨hw, hfit, hst⟩ := hm
  obtain ⟨vs, he, hcs⟩ := hu
  obtain ⟨v, us, ws, h1, h2, h3, h4⟩ := CVs_item hcs hc
  have hp := run_part (P := P) hfit hst h4 h3 h1
  refine Does.value (v := v) ?_ (put_ok h h4 hh)
  have hoff : fd.offset = us.length := by rw [h2, Nat.eq_of_beq_eq_true hw]
  have e2 : vs = vs.toList.toArray := by simp
  simp only [execOp, ho, Instr.field, Sem.run_bind, run_underlying hfs, Result.andThen_ok, hfd, he, asAgg, Sem.run_pure]
  rw [e2, hoff, hp]
  rfl

theorem add_ptr (g o j : Nat) : (⟨g, o, none⟩ : Addr).add j = ⟨g, o + j, none⟩ := add_lit g o j

theorem run_fieldPlace {ad : Addr} {f : Field} (ht : typOk P f.type = true) (h0 : sizeT P f.type ≠ 0) : (fieldPlace ad f).run P w = .ok (ad.add f.offset) w := by
  simp only [fieldPlace, Sem.run_bind, run_sizeOf' ht, Result.andThen_ok, h0, if_false, Sem.run_pure]

theorem opFieldAddr_ok {s : TypeId} {x : Operand} {f : Nat} {u : AV} (ho : o.op = .fieldAddr s x f) (h : Rel C S θ a w) (hu : CV w (okOf C w S θ) θ u (a.eval x)) (hh : (opFieldAddr P o s u f).exe n S = some S') : Does P C S' o a w := by
  unfold opFieldAddr at hh
  split at hh <;> first | exact (exe_fail hh).elim | skip
  rename_i fs hfs
  split at hh <;> first | exact (exe_fail hh).elim | skip
  rename_i fd hfd
  obtain ⟨hm, hh⟩ := exe_must hh
  simp only [Bool.and_eq_true, Bool.not_eq_true'] at hm
  have h0 : sizeT P fd.type ≠ 0 := fun e => by have := hm.2; rw [e] at this; cases this
  have run : ∀ ad, a.eval x = .pointer (some ad) → (execOp a.eval o).run P w = .ok (.value (.pointer (some (ad.add fd.offset)))) w := by
    intro ad he
    simp only [execOp, ho, Instr.fieldAt, Sem.run_bind, run_underlying hfs, Result.andThen_ok, hfd, he, Instr.sureAddr, Sem.run_pure, run_fieldPlace hm.1 h0]
  split at hh <;> first | exact (exe_fail hh).elim | skip
  · rename_i d off
    obtain ⟨g, hd, he⟩ := hu
    exact Does.value (run _ he) (put_ok' hh h ⟨g, hd, by rw [add_lit]⟩)
  · rename_i d sz i off
    obtain ⟨g, m, c, hd, hi, he⟩ := hu
    exact Does.value (run _ he) (put_ok' hh h ⟨g, m, c, hd, hi, by rw [add_lit, Nat.add_assoc]⟩)
  · rename_i cs
    split at hh <;> first | exact (exe_fail hh).elim | skip
    rename_i c hc
    obtain ⟨hw, hh⟩ := exe_must hh
    obtain ⟨ad, v, he, hok, ⟨vs, rfl, hcs⟩, hl⟩ := hu
    obtain ⟨v', us, ws, h1, h2, h3, h4⟩ := CVs_item hcs hc
    have hl' : cellsAt w ad (us ++ (v'.cells.toList ++ ws)) := by rw [← h1]; exact hl
    have hl2 := cellsAt_left (cellsAt_right hl')
    rw [h2, Nat.eq_of_beq_eq_true hw] at hl2
    exact Does.value (run _ he) (put_ok' hh h ⟨_, v', rfl, by rw [block_add]; exact hok, h4, hl2⟩)

theorem inR_ok {i : Int} {m : Nat} (h : inR i m = true) : 0 ≤ i ∧ i < m ∧ i.toNat < m := by
  simp only [inR, Bool.and_eq_true, decide_eq_true_eq] at h
  omega

theorem run_indexAt_slice {t e : TypeId} {A : Addr} {len c : Nat} {kd : IntKind} {i : Int} (ht : P.underlying t = some (.slice e)) (he : typOk P e = true) (h0 : 0 ≤ i) (h1 : i < len) :
    (Instr.indexAt t (.slice (some A) len c) (.int kd i)).run P w = .ok (.pointer (some (A.add (i.toNat * sizeT P e)))) w := by
  simp only [Instr.indexAt, Sem.run_bind, asIntOf, Sem.run_pure, Result.andThen_ok, run_underlying ht, h0, h1, and_self, if_true, run_sizeOf' he]

theorem run_indexAt_array {t e : TypeId} {A : Addr} {len : Nat} {kd : IntKind} {i : Int} (ht : P.underlying t = some (.array len e)) (he : typOk P e = true) (h0 : 0 ≤ i) (h1 : i < len) :
    (Instr.indexAt t (.pointer (some A)) (.int kd i)).run P w = .ok (.pointer (some (A.add (i.toNat * sizeT P e)))) w := by
  simp only [Instr.indexAt, Sem.run_bind, asIntOf, Sem.run_pure, Result.andThen_ok, run_underlying ht, Instr.sureAddr, h0, h1, and_self, if_true, run_sizeOf' he]

theorem row_form {d : Nat} {own : Bool} {e : TypeId} {k : IntKind} {xs : List Int} {A : Option Addr} {m c : Nat} (h : Rel C S θ a w) (ho : S.obj d = some (.row own e k xs)) (hd : θ d = some (.slice A m c)) :
    m = xs.length ∧ xs.length ≤ c ∧ (0 < xs.length → ∃ g, A = some ⟨g, 0, none⟩ ∧ cellsAt w ⟨g, 0, none⟩ (ints k xs)) := by
  have hov := h.objs d _ ho
  have hml : m = xs.length ∧ xs.length ≤ c ∧ (0 < xs.length → ∃ ad, A = some ad) := by
    obtain ⟨v, v1, v2, v3⟩ := hov
    rw [hd] at v1
    cases v1
    cases own with
    | true =>
      rcases (v2 rfl).2 with ⟨q1, q2⟩ | ⟨g, cap, cur, fr, q1, q2, q3, q4, q5, q6, q7, q8⟩
      · cases q1
        exact ⟨q2.symm, by omega, fun h => by omega⟩
      · cases q1
        exact ⟨rfl, q5, fun _ => ⟨_, rfl⟩⟩
    | false =>
      obtain ⟨A', c', q1, q2, q3⟩ := v3 rfl
      cases q1
      exact ⟨rfl, q2, fun h0 => by obtain ⟨ad, q4, _⟩ := q3 h0; exact ⟨ad, q4⟩⟩
  refine ⟨hml.1, hml.2.1, fun h0 => ?_⟩
  obtain ⟨ad, rfl⟩ := hml.2.2 h0
  obtain ⟨g, rfl⟩ := h.base d _ hd ad m c rfl
  exact ⟨g, rfl, (row_cells hov hd).1⟩

theorem rows_form {d : Nat} {own : Bool} {e : TypeId} {s : Sh} {xs : List AV} {A : Option Addr} {m c : Nat} (h : Rel C S θ a w) (ho : S.obj d = some (.rows own e s xs)) (hd : θ d = some (.slice A m c)) :
    m = xs.length ∧ xs.length ≤ c ∧ (∀ x ∈ xs, WT s x) ∧ ∃ cs, CVs w (okOf C w S θ) θ xs cs ∧ (0 < xs.length → ∃ g, A = some ⟨g, 0, none⟩ ∧ cellsAt w ⟨g, 0, none⟩ cs) := by
  have hov := h.objs d _ ho
  obtain ⟨v, v1, hw, v2, v3⟩ := hov
  rw [hd] at v1
  cases v1
  cases own with
  | true =>
    obtain ⟨cs, hcs, hrow⟩ := v2 rfl
    rcases hrow.2 with ⟨q1, q2⟩ | ⟨g, cap, cur, fr, q1, q2, q3, q4, q5, q6, q7, q8⟩
    · cases q1
      exact ⟨q2.symm, by omega, hw, cs, hcs, fun h => by omega⟩
    · cases q1
      exact ⟨rfl, q5, hw, cs, hcs, fun _ => ⟨g, rfl, hrow.cells.1⟩⟩
  | false =>
    obtain ⟨A', c', cs, q1, q2, _, hcs, q3⟩ := v3 rfl
    cases q1
    refine ⟨rfl, q2, hw, cs, hcs, fun h0 => ?_⟩
    obtain ⟨ad, rfl, _, hcl⟩ := q3 h0
    obtain ⟨g, rfl⟩ := h.base d _ hd ad _ _ rfl
    exact ⟨g, rfl, hcl⟩

theorem opIndexAddr_ok {t : TypeId} {x y : Operand} {u uy : AV} (ho : o.op = .indexAddr t x y) (h : Rel C S θ a w) (hu : CV w (okOf C w S θ) θ u (a.eval x)) (hy : CV w (okOf C w S θ) θ uy (a.eval y))
    (hh : (opIndexAddr P o t u uy).exe n S = some S') : Does P C S' o a w := by
  unfold opIndexAddr at hh
  split at hh <;> first | exact (exe_fail hh).elim | skip
  rename_i kd i
  have hy' : a.eval y = .int kd i := hy
  have runS : ∀ e A len c, P.underlying t = some (.slice e) → typOk P e = true → 0 ≤ i → i < (len : Nat) → a.eval x = .slice (some A) len c →
      (execOp a.eval o).run P w = .ok (.value (.pointer (some (A.add (i.toNat * sizeT P e))))) w := by
    intro e A len c ht he h0 h1 hx
    simp only [execOp, ho, Sem.run_bind, hx, hy', run_indexAt_slice ht he h0 h1, Result.andThen_ok, Sem.run_pure]
  have runA : ∀ e A len, P.underlying t = some (.array len e) → typOk P e = true → 0 ≤ i → i < (len : Nat) → a.eval x = .pointer (some A) →
      (execOp a.eval o).run P w = .ok (.value (.pointer (some (A.add (i.toNat * sizeT P e))))) w := by
    intro e A len ht he h0 h1 hx
    simp only [execOp, ho, Sem.run_bind, hx, hy', run_indexAt_array ht he h0 h1, Result.andThen_ok, Sem.run_pure]
  split at hh <;> first | exact (exe_fail hh).elim | skip
  · rename_i e ht
    split at hh <;> first | exact (exe_fail hh).elim | skip
    · -- fs
      rename_i k xs
      obtain ⟨hm, hh⟩ := exe_must hh
      obtain ⟨hr, hh⟩ := exe_chk hh
      obtain ⟨he, hsz⟩ := szIs_ok hm
      obtain ⟨h0, h1, h2⟩ := inR_ok hr
      obtain ⟨A, c, hx, hc, hl⟩ := hu
      obtain ⟨ad, rfl, hok, hcl⟩ := hl (by omega)
      refine Does.value (runS e ad _ c ht he h0 h1 hx) (put_ok' hh h ⟨_, .int k (getI xs i.toNat), rfl, by rw [block_add]; exact hok, rfl, ?_⟩)
      rw [hsz, Nat.mul_one]
      intro j u hj
      have : j = 0 := by
        rcases Nat.eq_zero_or_pos j with h | h
        · exact h
        · have e : (Value.int k (getI xs i.toNat)).cells.toList = [.int k (getI xs i.toNat)] := rfl
          rw [e, List.getElem?_eq_none (by simp; omega)] at hj
          cases hj
      subst this
      cases hj
      rw [add_add']
      exact hcl _ _ (ints_get h2)
    · -- fv
      rename_i s xs
      obtain ⟨hm, hh⟩ := exe_must hh
      obtain ⟨hr, hh⟩ := exe_chk hh
      obtain ⟨he, hsz⟩ := szIs_ok hm
      obtain ⟨h0, h1, h2⟩ := inR_ok hr
      obtain ⟨A, c, cs, hx, hc, hw, hcs, hl⟩ := hu
      obtain ⟨ad, rfl, hok, hcl⟩ := hl (by omega)
      obtain ⟨v, q1, q2, q3, q4, q5⟩ := elem_at hcs hw h2 hcl
      rw [q4] at hh
      refine Does.value (runS e ad _ c ht he h0 h1 hx) (put_ok' hh h ⟨_, v, rfl, by rw [block_add]; exact hok, q1, ?_⟩)
      rw [hsz]
      exact q3
    · -- own
      rename_i d
      obtain ⟨hd, A, m, c, hx⟩ := hu
      replace hh := exe_obj hh
      cases hob : S.obj d with
      | none => rw [hob] at hh; exact (exe_fail hh).elim
      | some ob =>
        rw [hob] at hh
        have hov := h.objs d _ hob
        cases ob <;> first | exact (exe_fail hh).elim | skip
        · rename_i own e' k xs
          obtain ⟨hm, hh⟩ := exe_must hh
          obtain ⟨hr, hh⟩ := exe_chk hh
          obtain ⟨he, hsz⟩ := szIs_ok hm
          obtain ⟨h0, h1, h2⟩ := inR_ok hr
          rw [hx] at hd
          obtain ⟨f1, _, f3⟩ := row_form h hob hd
          obtain ⟨g, rfl, _⟩ := f3 (by omega)
          refine Does.value (runS e _ m c ht he h0 (by omega) hx) (put_ok' hh h ⟨g, m, c, hd, by omega, ?_⟩)
          rw [hsz, add_lit]
          simp
        · rename_i own e' s xs
          obtain ⟨hm, hh⟩ := exe_must hh
          obtain ⟨hr, hh⟩ := exe_chk hh
          obtain ⟨he, hsz⟩ := szIs_ok hm
          obtain ⟨h0, h1, h2⟩ := inR_ok hr
          rw [hx] at hd
          obtain ⟨f1, _, _, cs, _, f3⟩ := rows_form h hob hd
          obtain ⟨g, rfl, _⟩ := f3 (by omega)
          refine Does.value (runS e _ m c ht he h0 (by omega) hx) (put_ok' hh h ⟨g, m, c, hd, by omega, ?_⟩)
          rw [hsz, add_lit]
          simp
    · -- win
      rename_i d sz off len
      obtain ⟨hm, hh⟩ := exe_must hh
      obtain ⟨hr, hh⟩ := exe_chk hh
      obtain ⟨he, hsz⟩ := szIs_ok hm
      obtain ⟨h0, h1, h2⟩ := inR_ok hr
      obtain ⟨A, c, hx, hc, hl⟩ := hu
      obtain ⟨g, m, c', hd, hle, rfl⟩ := hl (by omega)
      refine Does.value (runS e _ len c ht he h0 h1 hx) (put_ok' hh h ⟨g, m, c', hd, by omega, ?_⟩)
      rw [hsz, add_lit, Nat.add_mul, Nat.add_zero]
    · -- wina
      rename_i d oo m off len
      obtain ⟨hm, hh⟩ := exe_must hh
      obtain ⟨hr, hh⟩ := exe_chk hh
      obtain ⟨he, hsz⟩ := szIs_ok hm
      obtain ⟨h0, h1, h2⟩ := inR_ok hr
      obtain ⟨A, c, hx, hc, hle, hl⟩ := hu
      obtain ⟨g, hd, rfl⟩ := hl (by omega)
      refine Does.value (runS e _ len c ht he h0 h1 hx) (put_ok' hh h ⟨by omega, g, hd, ?_⟩)
      rw [hsz, add_lit, Nat.mul_one, Nat.add_assoc]
  · rename_i m e ht
    split at hh <;> first | exact (exe_fail hh).elim | skip
    · -- ref
      rename_i d off
      obtain ⟨g, hd, hx⟩ := hu
      split at hh
      · obtain ⟨hm, hh⟩ := exe_must hh
        obtain ⟨hr, hh⟩ := exe_chk hh
        obtain ⟨he, hsz⟩ := szIs_ok hm
        obtain ⟨h0, h1, h2⟩ := inR_ok hr
        refine Does.value (runA e _ m ht he h0 h1 hx) (put_ok' hh h ⟨h2, g, hd, ?_⟩)
        rw [hsz, add_lit, Nat.mul_one]
      · obtain ⟨he, hh⟩ := exe_must hh
        obtain ⟨hr, hh⟩ := exe_chk hh
        obtain ⟨h0, h1, h2⟩ := inR_ok hr
        refine Does.value (runA e _ m ht he h0 h1 hx) (put_ok' hh h ⟨g, hd, ?_⟩)
        rw [add_lit]
    · -- fp arr
      rename_i k m' xs
      have hq := exe_must hh
      clear hh
      obtain ⟨hm, hq⟩ := hq
      have hh := exe_chk hq
      clear hq
      obtain ⟨hr, hh⟩ := hh
      simp only [Bool.and_eq_true] at hm
      obtain ⟨he, hsz⟩ := szIs_ok hm.1
      have hmm := Nat.eq_of_beq_eq_true hm.2
      subst hmm
      obtain ⟨h0, h1, h2⟩ := inR_ok hr
      obtain ⟨ad, v, hx, hok, ⟨hl, rfl⟩, hcl⟩ := hu
      refine Does.value (runA e _ m ht he h0 h1 hx) (put_ok' hh h ⟨_, .int k (getI xs i.toNat), rfl, by rw [block_add]; exact hok, rfl, ?_⟩)
      rw [hsz, Nat.mul_one]
      intro j u hj
      have : j = 0 := by
        rcases Nat.eq_zero_or_pos j with h | h
        · exact h
        · have e : (Value.int k (getI xs i.toNat)).cells.toList = [.int k (getI xs i.toNat)] := rfl
          rw [e, List.getElem?_eq_none (by simp; omega)] at hj
          cases hj
      subst this
      cases hj
      rw [add_add']
      exact hcl _ _ (by simpa [Value.cells] using ints_get (k := k) (xs := xs) (i := i.toNat) (by omega))
    · -- fp agg
      rename_i cs
      split at hh <;> first | exact (exe_fail hh).elim | skip
      rename_i c hc
      obtain ⟨hm, hh⟩ := exe_must hh
      obtain ⟨hr, hh⟩ := exe_chk hh
      simp only [Bool.and_eq_true] at hm
      have hmm := Nat.eq_of_beq_eq_true hm.2
      obtain ⟨h0, h1, h2⟩ := inR_ok hr
      obtain ⟨ad, v, hx, hok, ⟨vs, rfl, hcs⟩, hcl⟩ := hu
      obtain ⟨v', us, ws, q1, q2, q3, q4⟩ := CVs_item hcs hc
      have hl' : cellsAt w ad (us ++ (v'.cells.toList ++ ws)) := by rw [← q1]; exact hcl
      have hl2 := cellsAt_left (cellsAt_right hl')
      rw [q2, hmm] at hl2
      exact Does.value (runA e _ m ht hm.1 h0 h1 hx) (put_ok' hh h ⟨_, v', rfl, by rw [block_add]; exact hok, q4, hl2⟩)

theorem opExtract_ok {x : Operand} {i : Nat} {u : AV} (ho : o.op = .extract x i) (h : Rel C S θ a w) (hu : CV w (okOf C w S θ) θ u (a.eval x)) (hh : (opExtract o u i).exe n S = some S') : Does P C S' o a w := by
  unfold opExtract at hh
  split at hh <;> first | exact (exe_fail hh).elim | skip
  rename_i vs
  split at hh <;> first | exact (exe_fail hh).elim | skip
  rename_i v hv
  obtain ⟨us, hx, hcs⟩ := hu
  have key : ∀ (vs : List AV) (us : List Value) (i : Nat) (v : AV), CVt w (okOf C w S θ) θ vs us → vs[i]? = some v → ∃ u, us[i]? = some u ∧ CV w (okOf C w S θ) θ v u := by
    intro vs
    induction vs with
    | nil => intro us i v _ h; simp at h
    | cons x vs ih =>
      intro us i v hc hi
      obtain ⟨u, rest, rfl, h1, h2⟩ := hc
      cases i with
      | zero => cases hi; exact ⟨u, rfl, h1⟩
      | succ i => exact ih rest i v h2 hi
  obtain ⟨u, h1, h2⟩ := key vs us.toList i v hcs hv
  refine Does.value (v := u) ?_ (put_ok' hh h h2)
  have h1' : us[i]? = some u := by simpa using h1
  simp only [execOp, ho, Instr.extract, hx, h1', Sem.run_bind, Sem.run_pure, Result.andThen_ok]

theorem opUn_ok {uo : UnOp} {t : TypeId} {x : Operand} {u : AV} (ho : o.op = .unOp uo t x) (h : Rel C S θ a w) (hu : CV w (okOf C w S θ) θ u (a.eval x)) (hh : (opUn o uo u).exe n S = some S') : Does P C S' o a w := by
  unfold opUn at hh
  split at hh <;> first | exact (exe_fail hh).elim | skip
  · rename_i b
    have hx : a.eval x = .bool b := hu
    exact Does.value (v := .bool (!b)) (by simp only [execOp, ho, hx, Op.unary, Sem.run_bind, Sem.run_pure, Result.andThen_ok]) (put_ok' hh h rfl)
  · rename_i k m
    have hx : a.eval x = .int k m := hu
    exact Does.value (v := .int k (k.wrap (0 - m))) (by simp only [execOp, ho, hx, Op.unary, Op.intArith, Sem.run_bind, Sem.run_pure, Result.andThen_ok]) (put_ok' hh h rfl)
end
end Go.Am
