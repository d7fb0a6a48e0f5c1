/-
  AM: what an abstract value says of a value of the model, in a world.
-/
import Derived.Test.YtjhbpadplglnlaaAmCore
namespace Go.Am

mutual
def AV.width : AV → Nat
  | .arr _ n _ => n
  | .agg cs => AV.widths cs
  | _ => 1
def AV.widths : List AV → Nat
  | [] => 0
  | a :: as => a.width + AV.widths as
end

def AV.isAgg : AV → Bool
  | .arr .. => true
  | .agg _ => true
  | _ => false

mutual
def Sh.width : Sh → Nat
  | .arr _ n => n
  | .agg l => Sh.widths l
  | _ => 1
def Sh.widths : List Sh → Nat
  | [] => 0
  | s :: l => s.width + Sh.widths l
end

/-- The i-th part of a struct. -/
def AV.item (x : AV) (i : Nat) : AV := match x with | .agg cs => cs.getD i .undef | _ => .undef
def AV.toInt (x : AV) : Int := match x with | .int _ n => n | _ => 0
def AV.toBool (x : AV) : Bool := match x with | .bool b => b | _ => false
def AV.toStr (x : AV) : List UInt8 := match x with | .str l => l | _ => []
def AV.toInts (x : AV) : List Int := match x with | .fs _ xs => xs | .arr _ _ xs => xs | _ => []
def AV.toElems (x : AV) : List AV := match x with | .fv _ xs => xs | _ => []

mutual
/-- x is of the shape (its slices' elements are so by what the world says of them). -/
def WT : Sh → AV → Prop
  | .int k, x => ∃ n, x = .int k n
  | .bool, x => ∃ b, x = .bool b
  | .str, x => ∃ l, x = .str l
  | .arr k n, x => ∃ xs, x = .arr k n xs
  | .agg l, x => ∃ cs, x = .agg cs ∧ WTs l cs
  | .fs k, x => ∃ xs, x = .fs k xs
  | .fv s, x => ∃ xs, x = .fv s xs
def WTs : List Sh → List AV → Prop
  | [], cs => cs = []
  | s :: l, cs => ∃ c r, cs = c :: r ∧ WT s c ∧ WTs l r
end

mutual
/-- x by its shape's constructors. -/
def eta : Sh → AV → AV
  | .int k, x => .int k x.toInt
  | .bool, x => .bool x.toBool
  | .str, x => .str x.toStr
  | .arr k n, x => .arr k n x.toInts
  | .agg l, x => .agg (etas l 0 x)
  | .fs k, x => .fs k x.toInts
  | .fv s, x => .fv s x.toElems
def etas : List Sh → Nat → AV → List AV
  | [], _, _ => []
  | s :: l, i, x => eta s (x.item i) :: etas l (i + 1) x
end

mutual
theorem eta_of_WT : ∀ (s : Sh) (x : AV), WT s x → eta s x = x
  | .int k, x, h => by obtain ⟨n, rfl⟩ := h; rfl
  | .bool, x, h => by obtain ⟨n, rfl⟩ := h; rfl
  | .str, x, h => by obtain ⟨n, rfl⟩ := h; rfl
  | .arr k n, x, h => by obtain ⟨n, rfl⟩ := h; rfl
  | .agg l, x, h => by
    obtain ⟨cs, rfl, hc⟩ := h
    simp only [eta]
    have h2 := etas_of_WT l [] cs hc
    simp only [List.length_nil, List.nil_append] at h2
    rw [h2]
  | .fs k, x, h => by obtain ⟨n, rfl⟩ := h; rfl
  | .fv s, x, h => by obtain ⟨n, rfl⟩ := h; rfl
theorem etas_of_WT : ∀ (l : List Sh) (p cs : List AV), WTs l cs → etas l p.length (.agg (p ++ cs)) = cs
  | [], p, cs, h => by simp only [WTs] at h; subst h; rfl
  | s :: l, p, cs, h => by
    obtain ⟨c, r, rfl, hc, hr⟩ := h
    have h1 : (AV.agg (p ++ c :: r)).item p.length = c := by simp [AV.item]
    have h2 := etas_of_WT l (p ++ [c]) r hr
    simp only [List.length_append, List.length_cons, List.length_nil, Nat.zero_add, List.append_assoc, List.cons_append, List.nil_append] at h2
    simp only [etas, h1, h2, eta_of_WT s c hc]
end

mutual
theorem WT_width : ∀ (s : Sh) (x : AV), WT s x → x.width = s.width
  | .int k, x, h => by obtain ⟨n, rfl⟩ := h; rfl
  | .bool, x, h => by obtain ⟨n, rfl⟩ := h; rfl
  | .str, x, h => by obtain ⟨n, rfl⟩ := h; rfl
  | .arr k n, x, h => by obtain ⟨n, rfl⟩ := h; rfl
  | .agg l, x, h => by
    obtain ⟨cs, rfl, hc⟩ := h
    simp only [AV.width, Sh.width]
    exact WTs_width l cs hc
  | .fs k, x, h => by obtain ⟨n, rfl⟩ := h; rfl
  | .fv s, x, h => by obtain ⟨n, rfl⟩ := h; rfl
theorem WTs_width : ∀ (l : List Sh) (cs : List AV), WTs l cs → AV.widths cs = Sh.widths l
  | [], cs, h => by simp only [WTs] at h; subst h; rfl
  | s :: l, cs, h => by
    obtain ⟨c, r, rfl, hc, hr⟩ := h
    simp only [AV.widths, Sh.widths, WT_width s c hc, WTs_width l r hr]
end

/-- From address a on lie the cells cs. -/
def cellsAt (w : World) (a : Addr) (cs : List Value) : Prop := ∀ j u, cs[j]? = some u → w.cell? (a.add j) = some u

def ints (k : IntKind) (xs : List Int) : List Value := xs.map (.int k)

mutual
def CV (w : World) (ok : Nat → Prop) (θ : Nat → Option Value) : AV → Value → Prop
  | .undef, _ => True
  | .bool b, v => v = .bool b
  | .int k n, v => v = .int k n
  | .str l, v => v = .string ⟨l.toArray⟩
  | .nils, v => v = .slice none 0 0
  | .nilp, v => v = .pointer none
  | .nili, v => v = .nilIface
  | .arr k n xs, v => xs.length = n ∧ v = .agg (ints k xs).toArray
  | .agg cs, v => ∃ vs : Array Value, v = .agg vs ∧ CVs w ok θ cs vs.toList
  | .fs k xs, v => ∃ A c, v = .slice A xs.length c ∧ xs.length ≤ c ∧ (0 < xs.length → ∃ ad, A = some ad ∧ ok ad.block ∧ cellsAt w ad (ints k xs))
  | .fv s xs, v => ∃ A c cs, v = .slice A xs.length c ∧ xs.length ≤ c ∧ (∀ x ∈ xs, WT s x) ∧ CVs w ok θ xs cs ∧ (0 < xs.length → ∃ ad, A = some ad ∧ ok ad.block ∧ cellsAt w ad cs)
  | .own d, v => θ d = some v ∧ ∃ A n c, v = .slice A n c
  | .win d sz off len, v => ∃ A' c', v = .slice A' len c' ∧ len ≤ c' ∧ (0 < len → ∃ g n c, θ d = some (.slice (some ⟨g, 0, none⟩) n c) ∧ off + len ≤ n ∧ A' = some ⟨g, off * sz, none⟩)
  | .wina d o n off len, v => ∃ A' c', v = .slice A' len c' ∧ len ≤ c' ∧ off + len ≤ n ∧ (0 < len → ∃ g, θ d = some (.pointer (some ⟨g, 0, none⟩)) ∧ A' = some ⟨g, o + off, none⟩)
  | .ref d off, v => ∃ g, θ d = some (.pointer (some ⟨g, 0, none⟩)) ∧ v = .pointer (some ⟨g, off, none⟩)
  | .refa d off n i, v => i < n ∧ ∃ g, θ d = some (.pointer (some ⟨g, 0, none⟩)) ∧ v = .pointer (some ⟨g, off + i, none⟩)
  | .eref d sz i off, v => ∃ g n c, θ d = some (.slice (some ⟨g, 0, none⟩) n c) ∧ i < n ∧ v = .pointer (some ⟨g, i * sz + off, none⟩)
  | .fp t, v => ∃ a u, v = .pointer (some a) ∧ ok a.block ∧ CV w ok θ t u ∧ cellsAt w a u.cells.toList
  | .tup vs, v => ∃ us : Array Value, v = .tuple us ∧ CVt w ok θ vs us.toList
  | .fn f, v => v = .func (.func f) #[] #[]
def CVs (w : World) (ok : Nat → Prop) (θ : Nat → Option Value) : List AV → List Value → Prop
  | [], vs => vs = []
  | a :: as, vs => ∃ v rest, vs = v.cells.toList ++ rest ∧ v.cells.size = a.width ∧ CV w ok θ a v ∧ CVs w ok θ as rest
def CVt (w : World) (ok : Nat → Prop) (θ : Nat → Option Value) : List AV → List Value → Prop
  | [], vs => vs = []
  | a :: as, vs => ∃ v rest, vs = v :: rest ∧ CV w ok θ a v ∧ CVt w ok θ as rest
end
section
variable {w w' : World} {ok ok' : Nat → Prop} {θ θ' : Nat → Option Value}

theorem block_add (a : Addr) (n : Nat) : (a.add n).block = a.block := by unfold Addr.add; split <;> rfl
theorem add_lit (g o j : Nat) : (⟨g, o, none⟩ : Addr).add j = ⟨g, o + j, none⟩ := by unfold Addr.add; split <;> simp_all
theorem add_add' (a : Addr) (i j : Nat) : (a.add i).add j = a.add (i + j) := by
  unfold Addr.add
  by_cases hi : i = 0 <;> by_cases hj : j = 0 <;> simp [hi, hj, Nat.add_assoc]

theorem cellsAt_mono {a : Addr} {cs : List Value} (h : w'.heap[a.block]? = w.heap[a.block]?) (hc : cellsAt w a cs) : cellsAt w' a cs := fun j u hj => by
  rw [World.cell?_of_block (w := w) (by rw [block_add]; exact h)]
  exact hc j u hj

/-- What was there reads as it did. -/
structure Keeps (w w' : World) (ok ok' : Nat → Prop) (θ θ' : Nat → Option Value) : Prop where
  oks : ∀ b, ok b → ok' b
  heap : ∀ b, ok b → w'.heap[b]? = w.heap[b]?
  nm : ∀ d x, θ d = some x → θ' d = some x

mutual
theorem CV_mono (h : Keeps w w' ok ok' θ θ') : ∀ (a : AV) (v : Value), CV w ok θ a v → CV w' ok' θ' a v
  | .undef, v, hv => trivial
  | .bool b, v, hv => hv
  | .int k n, v, hv => hv
  | .str l, v, hv => hv
  | .nils, v, hv => hv
  | .nilp, v, hv => hv
  | .nili, v, hv => hv
  | .arr k n xs, v, hv => hv
  | .agg cs, v, hv => by
    obtain ⟨vs, rfl, hc⟩ := hv
    exact ⟨vs, rfl, CVs_mono h cs _ hc⟩
  | .fs k xs, v, hv => by
    obtain ⟨A, c, rfl, hc, hr⟩ := hv
    refine ⟨A, c, rfl, hc, fun h0 => ?_⟩
    obtain ⟨ad, rfl, ho, hce⟩ := hr h0
    exact ⟨ad, rfl, h.oks _ ho, cellsAt_mono (h.heap _ ho) hce⟩
  | .fv s xs, v, hv => by
    obtain ⟨A, c, cs, rfl, hc, hw, hs, hr⟩ := hv
    refine ⟨A, c, cs, rfl, hc, hw, CVs_mono h xs cs hs, fun h0 => ?_⟩
    obtain ⟨ad, rfl, ho, hce⟩ := hr h0
    exact ⟨ad, rfl, h.oks _ ho, cellsAt_mono (h.heap _ ho) hce⟩
  | .own d, v, hv => ⟨h.nm _ _ hv.1, hv.2⟩
  | .win d sz off len, v, hv => by
    obtain ⟨A', c', rfl, hc, hr⟩ := hv
    refine ⟨A', c', rfl, hc, fun h0 => ?_⟩
    obtain ⟨g, n, c, h1, h2⟩ := hr h0
    exact ⟨g, n, c, h.nm _ _ h1, h2⟩
  | .wina d o n off len, v, hv => by
    obtain ⟨A', c', rfl, hc, hl, hr⟩ := hv
    refine ⟨A', c', rfl, hc, hl, fun h0 => ?_⟩
    obtain ⟨g, h1, h2⟩ := hr h0
    exact ⟨g, h.nm _ _ h1, h2⟩
  | .ref d off, v, hv => by
    obtain ⟨g, h1, h2⟩ := hv
    exact ⟨g, h.nm _ _ h1, h2⟩
  | .refa d off n i, v, hv => by
    obtain ⟨hi, g, h1, h2⟩ := hv
    exact ⟨hi, g, h.nm _ _ h1, h2⟩
  | .eref d sz i off, v, hv => by
    obtain ⟨g, n, c, h1, h2⟩ := hv
    exact ⟨g, n, c, h.nm _ _ h1, h2⟩
  | .fp t, v, hv => by
    obtain ⟨a, u, rfl, ho, hu, hc⟩ := hv
    exact ⟨a, u, rfl, h.oks _ ho, CV_mono h t u hu, cellsAt_mono (h.heap _ ho) hc⟩
  | .tup vs, v, hv => by
    obtain ⟨us, rfl, hc⟩ := hv
    exact ⟨us, rfl, CVt_mono h vs _ hc⟩
  | .fn f, v, hv => hv
theorem CVs_mono (h : Keeps w w' ok ok' θ θ') : ∀ (as : List AV) (vs : List Value), CVs w ok θ as vs → CVs w' ok' θ' as vs
  | [], vs, hv => hv
  | a :: as, vs, hv => by
    obtain ⟨v, rest, rfl, hs, h1, h2⟩ := hv
    exact ⟨v, rest, rfl, hs, CV_mono h a v h1, CVs_mono h as rest h2⟩
theorem CVt_mono (h : Keeps w w' ok ok' θ θ') : ∀ (as : List AV) (vs : List Value), CVt w ok θ as vs → CVt w' ok' θ' as vs
  | [], vs, hv => hv
  | a :: as, vs, hv => by
    obtain ⟨v, rest, rfl, h1, h2⟩ := hv
    exact ⟨v, rest, rfl, CV_mono h a v h1, CVt_mono h as rest h2⟩
end

theorem CVs_length : ∀ {as : List AV} {vs : List Value}, CVs w ok θ as vs → vs.length = AV.widths as
  | [], vs, h => by simp only [CVs] at h; subst h; rfl
  | a :: as, vs, h => by
    obtain ⟨v, rest, rfl, hs, _, h2⟩ := h
    rw [List.length_append, CVs_length h2, Array.length_toList, hs]
    rfl

theorem CVs_append {as bs : List AV} {us vs : List Value} (h : CVs w ok θ as us) (k : CVs w ok θ bs vs) : CVs w ok θ (as ++ bs) (us ++ vs) := by
  induction as generalizing us with
  | nil => simp only [CVs] at h; subst h; simpa using k
  | cons a as ih =>
    obtain ⟨v, rest, rfl, hs, h1, h2⟩ := h
    exact ⟨v, rest ++ vs, by simp, hs, h1, ih h2⟩

theorem CVs_split : ∀ {as bs : List AV} {vs : List Value}, CVs w ok θ (as ++ bs) vs → ∃ us ws, vs = us ++ ws ∧ CVs w ok θ as us ∧ CVs w ok θ bs ws
  | [], bs, vs, h => ⟨[], vs, rfl, rfl, h⟩
  | a :: as, bs, vs, h => by
    obtain ⟨v, rest, rfl, hs, h1, h2⟩ := h
    obtain ⟨us, ws, rfl, h3, h4⟩ := CVs_split (as := as) h2
    exact ⟨v.cells.toList ++ us, ws, by simp, ⟨v, us, rfl, hs, h1, h3⟩, h4⟩

theorem widths_append (as bs : List AV) : AV.widths (as ++ bs) = AV.widths as + AV.widths bs := by
  induction as with
  | nil => simp [AV.widths]
  | cons a as ih => simp [AV.widths, ih, Nat.add_assoc]

/-- The i-th part: its value, and where its cells lie. -/
theorem CVs_get {as : List AV} {vs : List Value} (h : CVs w ok θ as vs) {i : Nat} {a : AV} (hi : as[i]? = some a) :
    ∃ v us ws, vs = us ++ (v.cells.toList ++ ws) ∧ us.length = AV.widths (as.take i) ∧ v.cells.size = a.width ∧ CV w ok θ a v ∧ CVs w ok θ (as.take i) us ∧ CVs w ok θ (as.drop (i + 1)) ws := by
  have hlt : i < as.length := (List.getElem?_eq_some_iff.1 hi).1
  have ha : as[i] = a := (List.getElem?_eq_some_iff.1 hi).2
  have hsp : as = as.take i ++ a :: as.drop (i + 1) := by
    rw [← ha, ← List.drop_eq_getElem_cons hlt, List.take_append_drop]
  rw [hsp] at h
  obtain ⟨us, ws, rfl, h1, v, rest, rfl, hs, h2, h3⟩ := CVs_split h
  exact ⟨v, us, rest, rfl, CVs_length h1, hs, h2, h1, h3⟩

theorem WT_widths {s : Sh} : ∀ {xs : List AV}, (∀ x ∈ xs, WT s x) → AV.widths xs = xs.length * s.width
  | [], _ => by simp [AV.widths]
  | x :: xs, h => by
    have h1 := WT_width s x (h x (by simp))
    have h2 := WT_widths (xs := xs) (fun y hy => h y (by simp [hy]))
    simp only [AV.widths, h1, h2, List.length_cons, Nat.add_mul, Nat.one_mul]
    omega
end
end Go.Am
