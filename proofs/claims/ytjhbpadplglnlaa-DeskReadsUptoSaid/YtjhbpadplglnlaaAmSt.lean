/-
  AM: what a state says of a frame and a world; how that is kept.
-/
import Derived.Test.YtjhbpadplglnlaaAmRel
namespace Go.Am
open Go.RowKit

structure Ctx where
  w0 : World
  I : Nat → Prop      -- blocks that came in and may be written
  F : Nat → Prop      -- blocks of the caller's own, that nothing of here looks into
  G : Nat → Option AV -- what package-level variables hold
  ib : ∀ b, I b → b < w0.heap.size
  fb : ∀ b, F b → b < w0.heap.size
  noI : ∀ b, ¬ I b
  gd : ∀ g t, G g = some t → ∃ s, WT s t

def Ctx.B (C : Ctx) : Nat := C.w0.heap.size

def blk : Value → Option Nat
  | .pointer (some a) => some a.block
  | .slice (some a) _ _ => some a.block
  | _ => none

def Ob.isOwn : Ob → Bool
  | .dead => false
  | .box _ => true
  | .row o _ _ _ => o
  | .rows o _ _ _ => o
  | .lit _ _ _ => true

def OwnB (S : St) (θ : Nat → Option Value) (b : Nat) : Prop := ∃ d o v, S.obj d = some o ∧ o.isOwn = true ∧ θ d = some v ∧ blk v = some b

def okOf (C : Ctx) (w : World) (S : St) (θ : Nat → Option Value) (b : Nat) : Prop := b < w.heap.size ∧ ¬ C.F b ∧ ¬ C.I b ∧ ¬ OwnB S θ b

/-- No cell of the block is frozen. -/
def Free (cur : Array Value) (fr : Nat × Nat) : Prop := fr.1 ≤ fr.2 ∧ ∀ o, o < cur.size → ¬ (fr.1 ≤ o ∧ o < fr.2)

def OwnRow (w : World) (B : Nat) (e : TypeId) (size : Nat) (v : Value) (n : Nat) (cs : List Value) : Prop :=
  cs.length = n * size ∧ ((v = .slice none 0 0 ∧ n = 0) ∨
    ∃ g cap cur fr, v = .slice (some ⟨g, 0, none⟩) n cap ∧ B ≤ g ∧ w.heap[g]? = some (.cells cur e fr) ∧ Free cur fr ∧ n ≤ cap ∧ cap ≤ maxLen ∧ cur.size = cap * size ∧ cur.toList.take (n * size) = cs)

def OV (C : Ctx) (w : World) (ok : Nat → Prop) (θ : Nat → Option Value) (d : Nat) : Ob → Prop
  | .dead => True
  | .box t => ∃ g e fr v, θ d = some (.pointer (some ⟨g, 0, none⟩)) ∧ w.heap[g]? = some (.cells v.cells e fr) ∧ Free v.cells fr ∧ CV w ok θ t v ∧ v.cells.size = t.width ∧ (C.B ≤ g ∨ C.I g)
  | .row own e k xs => ∃ v, θ d = some v ∧ (own = true → OwnRow w C.B e 1 v xs.length (ints k xs)) ∧ (own = false → CV w ok θ (.fs k xs) v)
  | .rows own e s xs => ∃ v, θ d = some v ∧ (∀ x ∈ xs, WT s x) ∧ (own = true → ∃ cs, CVs w ok θ xs cs ∧ OwnRow w C.B e s.width v xs.length cs) ∧ (own = false → CV w ok θ (.fv s xs) v)
  | .lit e s vs => ∃ v cs, θ d = some v ∧ CVs w ok θ vs cs ∧ AV.widths vs = vs.length * s.width ∧ OwnRow w C.B e s.width v vs.length cs

/-- A slice begins where its block does. -/
def base0 (v : Value) : Prop := ∀ ad n c, v = .slice (some ad) n c → ∃ g, ad = ⟨g, 0, none⟩

structure Rel (C : Ctx) (S : St) (θ : Nat → Option Value) (a : Act) (w : World) : Prop where
  len : a.tmps.size = S.tm.length
  slots : ∀ (i : Nat) v, a.tmps[i]? = some v → CV w (okOf C w S θ) θ (S.slot i) v
  objs : ∀ d o, S.obj d = some o → OV C w (okOf C w S θ) θ d o
  fresh : ∀ d, S.obj d = none → θ d = none
  sep : ∀ d d' o o' v v' b, S.obj d = some o → S.obj d' = some o' → o.isOwn = true → o'.isOwn = true → d ≠ d' → θ d = some v → θ d' = some v' → blk v = some b → blk v' ≠ some b
  os : w.os = C.w0.os
  tape : w.tape = C.w0.tape
  output : w.output = C.w0.output
  size : C.w0.heap.size ≤ w.heap.size
  frame : ∀ b, b < C.B → ¬ C.I b → w.heap[b]? = C.w0.heap[b]?
  globs : ∀ g t, C.G g = some t → CV w (okOf C w S θ) θ (.fp t) (.pointer (some ⟨g, 0, none⟩))
  base : ∀ d v, θ d = some v → base0 v

section
variable {C : Ctx} {S S' : St} {θ θ' : Nat → Option Value} {a : Act} {w w' : World}

theorem OwnRow.mono {B : Nat} {e : TypeId} {size n : Nat} {v : Value} {cs : List Value} (h : OwnRow w B e size v n cs)
    (hk : ∀ b, blk v = some b → w'.heap[b]? = w.heap[b]?) : OwnRow w' B e size v n cs := by
  refine ⟨h.1, ?_⟩
  rcases h.2 with h | ⟨g, cap, cur, fr, rfl, h1, h2, h3⟩
  · exact .inl h
  · exact .inr ⟨g, cap, cur, fr, rfl, h1, (hk g rfl).trans h2, h3⟩

theorem OwnRow.lt {B : Nat} {e : TypeId} {size n : Nat} {v : Value} {cs : List Value} (h : OwnRow w B e size v n cs) {b : Nat} (hb : blk v = some b) : b < w.heap.size ∧ B ≤ b := by
  rcases h.2 with ⟨rfl, _⟩ | ⟨g, cap, cur, fr, rfl, h1, h2, _⟩
  · cases hb
  · cases hb
    exact ⟨(Array.getElem?_eq_some_iff.1 h2).1, h1⟩

theorem OV.mono {ok ok' : Nat → Prop} {d : Nat} (hk : Keeps w w' ok ok' θ θ') : ∀ {o : Ob}, OV C w ok θ d o → (o.isOwn = true → ∀ v b, θ d = some v → blk v = some b → w'.heap[b]? = w.heap[b]?) → OV C w' ok' θ' d o
  | .dead, _, _ => trivial
  | .box t, h, hb => by
    obtain ⟨g, e, fr, v, h1, h2, h3, h4, h5⟩ := h
    exact ⟨g, e, fr, v, hk.nm _ _ h1, (hb rfl _ g h1 rfl).trans h2, h3, CV_mono hk _ _ h4, h5⟩
  | .row own e k xs, h, hb => by
    obtain ⟨v, h1, h2, h3⟩ := h
    exact ⟨v, hk.nm _ _ h1, fun ho => (h2 ho).mono (fun b hv => hb ho v b h1 hv), fun ho => CV_mono hk _ _ (h3 ho)⟩
  | .rows own e s xs, h, hb => by
    obtain ⟨v, h1, hw, h2, h3⟩ := h
    refine ⟨v, hk.nm _ _ h1, hw, fun ho => ?_, fun ho => CV_mono hk _ _ (h3 ho)⟩
    obtain ⟨cs, h4, h5⟩ := h2 ho
    exact ⟨cs, CVs_mono hk _ _ h4, h5.mono (fun b hv => hb ho v b h1 hv)⟩
  | .lit e s vs, h, hb => by
    obtain ⟨v, cs, h1, h4, hw, h5⟩ := h
    exact ⟨v, cs, hk.nm _ _ h1, CVs_mono hk _ _ h4, hw, h5.mono (fun b hv => hb rfl v b h1 hv)⟩

theorem OV.lt {ok : Nat → Prop} {d : Nat} : ∀ {o : Ob}, OV C w ok θ d o → o.isOwn = true → ∀ {v b}, θ d = some v → blk v = some b → b < w.heap.size ∧ (C.B ≤ b ∨ C.I b)
  | .dead, _, ho => by cases ho
  | .box t, h, _ => by
    obtain ⟨g, e, fr, v, h1, h2, _, _, _, h5⟩ := h
    intro hv hb
    rw [h1] at hv
    cases hv
    cases hb
    exact ⟨(Array.getElem?_eq_some_iff.1 h2).1, h5⟩
  | .row own e k xs, h, ho => by
    obtain ⟨v, h1, h2, _⟩ := h
    intro hv hb
    rw [h1] at hv
    cases hv
    exact ⟨((h2 ho).lt hb).1, .inl ((h2 ho).lt hb).2⟩
  | .rows own e s xs, h, ho => by
    obtain ⟨v, h1, _, h2, _⟩ := h
    intro hv hb
    rw [h1] at hv
    cases hv
    obtain ⟨cs, _, h3⟩ := h2 ho
    exact ⟨(h3.lt hb).1, .inl (h3.lt hb).2⟩
  | .lit e s vs, h, _ => by
    obtain ⟨v, cs, h1, _, _, h3⟩ := h
    intro hv hb
    rw [h1] at hv
    cases hv
    exact ⟨(h3.lt hb).1, .inl (h3.lt hb).2⟩

/-- ONE step for all: the names of D have turned, and blocks that they own; all else is as it was. -/
theorem Rel.turn (h : Rel C S θ a w) (D : Nat → Prop) (X : Nat → Prop)
    (htm : S'.tm = S.tm)
    (hout : ∀ d, ¬ D d → S'.obj d = S.obj d ∧ θ' d = θ d)
    (hnm : ∀ d x, θ d = some x → θ' d = some x)
    (hos : w'.os = w.os) (htape : w'.tape = w.tape) (houtp : w'.output = w.output) (hsize : w.heap.size ≤ w'.heap.size)
    (hheap : ∀ b, b < w.heap.size → ¬ X b → w'.heap[b]? = w.heap[b]?)
    (hX : ∀ b, X b → ∃ d o v, D d ∧ S.obj d = some o ∧ o.isOwn = true ∧ θ d = some v ∧ blk v = some b)
    (hnew : ∀ d o v b, D d → S'.obj d = some o → o.isOwn = true → θ' d = some v → blk v = some b →
      w.heap.size ≤ b ∨ ∃ d₀ o₀ v₀, D d₀ ∧ S.obj d₀ = some o₀ ∧ o₀.isOwn = true ∧ θ d₀ = some v₀ ∧ blk v₀ = some b)
    (hsep : ∀ d d' o o' v v' b, D d → D d' → S'.obj d = some o → S'.obj d' = some o' → o.isOwn = true → o'.isOwn = true → d ≠ d' → θ' d = some v → θ' d' = some v' → blk v = some b → blk v' ≠ some b)
    (hfresh : ∀ d, D d → S'.obj d = none → θ' d = none)
    (hbase : ∀ d v, D d → θ' d = some v → base0 v)
    (hobj : Keeps w w' (okOf C w S θ) (okOf C w' S' θ') θ θ' → ∀ d o, D d → S'.obj d = some o → OV C w' (okOf C w' S' θ') θ' d o) :
    Rel C S' θ' a w' := by
  have hokE : ∀ b, okOf C w S θ b → okOf C w' S' θ' b := by
    rintro b ⟨h1, h2, h3, h4⟩
    refine ⟨by omega, h2, h3, ?_⟩
    rintro ⟨d, o, v, ho, hi, hv, hb⟩
    by_cases hD : D d
    · rcases hnew d o v b hD ho hi hv hb with h5 | ⟨d₀, o₀, v₀, _, h6, h7, h8, h9⟩
      · omega
      · exact h4 ⟨d₀, o₀, v₀, h6, h7, h8, h9⟩
    · obtain ⟨e1, e2⟩ := hout d hD
      rw [e1] at ho
      rw [e2] at hv
      exact h4 ⟨d, o, v, ho, hi, hv, hb⟩
  have hkeep : Keeps w w' (okOf C w S θ) (okOf C w' S' θ') θ θ' := by
    refine ⟨hokE, ?_, hnm⟩
    rintro b ⟨h1, h2, h3, h4⟩
    refine hheap b h1 (fun hx => ?_)
    obtain ⟨d, o, v, _, h6, h7, h8, h9⟩ := hX b hx
    exact h4 ⟨d, o, v, h6, h7, h8, h9⟩
  have hfar : ∀ d o v b, ¬ D d → S.obj d = some o → o.isOwn = true → θ d = some v → blk v = some b → w'.heap[b]? = w.heap[b]? := by
    intro d o v b hD ho hi hv hb
    refine hheap b ((h.objs d o ho).lt hi hv hb).1 (fun hx => ?_)
    obtain ⟨d', o', v', hD', h6, h7, h8, h9⟩ := hX b hx
    exact h.sep d d' o o' v v' b ho h6 hi h7 (fun e => hD (e ▸ hD')) hv h8 hb h9
  refine ⟨by rw [htm]; exact h.len, ?_, ?_, ?_, ?_, hos.trans h.os, htape.trans h.tape, houtp.trans h.output, Nat.le_trans h.size hsize, ?_, fun g t hg => CV_mono hkeep _ _ (h.globs g t hg), fun d v hv => ?_⟩
  case refine_6 =>
    by_cases hD : D d
    · exact hbase d v hD hv
    · rw [(hout d hD).2] at hv
      exact h.base d v hv
  · intro i v hv
    have := h.slots i v hv
    have e : S'.slot i = S.slot i := by simp [St.slot, htm]
    rw [e]
    exact CV_mono hkeep _ _ this
  · intro d o ho
    by_cases hD : D d
    · exact hobj hkeep d o hD ho
    · obtain ⟨e1, e2⟩ := hout d hD
      rw [e1] at ho
      exact (h.objs d o ho).mono hkeep (fun hi v b hv hb => hfar d o v b hD ho hi hv hb)
  · intro d hd
    by_cases hD : D d
    · exact hfresh d hD hd
    · obtain ⟨e1, e2⟩ := hout d hD
      rw [e2]
      exact h.fresh d (by rw [← e1]; exact hd)
  · intro d d' o o' v v' b h1 h2 h3 h4 hne h5 h6 h7 h8
    by_cases hD : D d
    · by_cases hD' : D d'
      · exact hsep d d' o o' v v' b hD hD' h1 h2 h3 h4 hne h5 h6 h7 h8
      · obtain ⟨e1, e2⟩ := hout d' hD'
        rw [e1] at h2
        rw [e2] at h6
        rcases hnew d o v b hD h1 h3 h5 h7 with h9 | ⟨d₀, o₀, v₀, hD0, k1, k2, k3, k4⟩
        · have := ((h.objs d' o' h2).lt h4 h6 h8).1
          omega
        · exact h.sep d₀ d' o₀ o' v₀ v' b k1 h2 k2 h4 (fun e => hD' (e ▸ hD0)) k3 h6 k4 h8
    · obtain ⟨e1, e2⟩ := hout d hD
      rw [e1] at h1
      rw [e2] at h5
      by_cases hD' : D d'
      · rcases hnew d' o' v' b hD' h2 h4 h6 h8 with h9 | ⟨d₀, o₀, v₀, hD0, k1, k2, k3, k4⟩
        · have := ((h.objs d o h1).lt h3 h5 h7).1
          omega
        · exact h.sep d d₀ o o₀ v v₀ b h1 k1 h3 k2 (fun e => hD (e ▸ hD0)) h5 k3 h7 k4
      · obtain ⟨e1', e2'⟩ := hout d' hD'
        rw [e1'] at h2
        rw [e2'] at h6
        exact h.sep d d' o o' v v' b h1 h2 h3 h4 hne h5 h6 h7 h8
  · intro b hb hI
    rw [← h.frame b hb hI]
    refine hheap b (Nat.lt_of_lt_of_le hb h.size) (fun hx => ?_)
    obtain ⟨d, o, v, _, h6, h7, h8, h9⟩ := hX b hx
    rcases ((h.objs d o h6).lt h7 h8 h9).2 with k | k
    · omega
    · exact hI k

theorem slot_setSlot_same (S : St) (d : Nat) (v : AV) (h : d < S.tm.length) : (S.setSlot d v).slot d = v := by
  simp [St.slot, St.setSlot, h]
theorem slot_setSlot_other (S : St) (d i : Nat) (v : AV) (h : d ≠ i) : (S.setSlot d v).slot i = S.slot i := by
  simp [St.slot, St.setSlot, List.getD_eq_getElem?_getD, List.getElem?_set_ne h]
theorem obj_setSlot (S : St) (d i : Nat) (v : AV) : (S.setSlot d v).obj i = S.obj i := rfl
theorem obj_setObj_same (S : St) (d : Nat) (o : Ob) : (S.setObj d o).obj d = some o := by
  simp [St.obj, St.setObj, look]
theorem obj_setObj_other (S : St) (d i : Nat) (o : Ob) (h : i ≠ d) : (S.setObj d o).obj i = S.obj i := by
  have : Nat.beq i d = false := by cases hb : Nat.beq i d <;> simp_all
  simp [St.obj, St.setObj, look, this]

theorem okOf_setSlot (d : Nat) (v : AV) : okOf C w (S.setSlot d v) θ = okOf C w S θ := rfl

/-- A slot is filled. -/
theorem Rel.put (h : Rel C S θ a w) {d : Nat} {x : AV} {v : Value} (hv : CV w (okOf C w S θ) θ x v) : Rel C (S.setSlot d x) θ (a.put (some d) v) w := by
  refine ⟨by simpa [St.setSlot, Act.put] using h.len, ?_, h.objs, h.fresh, h.sep, h.os, h.tape, h.output, h.size, h.frame, h.globs, h.base⟩
  intro i u hu
  rw [okOf_setSlot]
  simp only [Act.put, Array.getElem?_setIfInBounds] at hu
  by_cases hi : d = i
  · subst hi
    rw [if_pos rfl] at hu
    split at hu
    · rename_i hlt
      cases hu
      rw [slot_setSlot_same _ _ _ (by rw [← h.len]; exact hlt)]
      exact hv
    · cases hu
  · rw [if_neg hi] at hu
    rw [slot_setSlot_other _ _ _ _ hi]
    exact h.slots i u hu

/-- Nothing of memory has turned. -/
theorem Rel.world (h : Rel C S θ a w) (hh : w'.heap = w.heap) (hos : w'.os = w.os) (htape : w'.tape = w.tape) (houtp : w'.output = w.output) : Rel C S θ a w' :=
  h.turn (fun _ => False) (fun _ => False) rfl (fun _ _ => ⟨rfl, rfl⟩) (fun _ _ h => h) hos htape houtp (by rw [hh]; exact Nat.le_refl _) (fun b _ _ => by rw [hh])
    (fun _ h => h.elim) (fun _ _ _ _ h => h.elim) (fun _ _ _ _ _ _ _ h => h.elim) (fun _ h => h.elim) (fun _ _ h => h.elim) (fun _ _ _ h => h.elim)
end
end Go.Am
