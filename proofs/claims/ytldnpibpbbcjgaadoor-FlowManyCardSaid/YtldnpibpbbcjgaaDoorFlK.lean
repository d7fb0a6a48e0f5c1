/-
  The flow's functions: what is said of each, and its run. The second part.
  What the functions' runs say holds of the program's own code. The second part.
  The functions as pure equations. Printed by a program (wip/tool/T3.lean, pr.sh).
-/
import Derived.Test.YtldnpibpbbcjgaaDoorFlA
import Derived.KernelRfl
section
set_option linter.unusedVariables false
namespace Go.Proofs.YtldnpibpbbcjgaaDoor.Am
open Go Go.Am Go.Proofs

/-! Comparing. -/
def cmpI (a b : Int) : Int := if a < b then -1 else if a > b then 1 else 0
def orL : List Int → Int
  | [] => 0
  | x :: r => if x = 0 then orL r else x
def cmpL : List Int → List Int → Int
  | [], [] => 0
  | [], _ :: _ => -1
  | _ :: _, [] => 1
  | a :: l, b :: m => if cmpI a b = 0 then cmpL l m else cmpI a b
def cmpIP (a b : AV) : Int := orL [cmpI (a.item 0).toInt (b.item 0).toInt, cmpL ((a.item 1).toInts.take 16) ((b.item 1).toInts.take 16)]
def cmpT (a b : AV) : Int := orL [cmpI (a.item 0).toInt (b.item 0).toInt, cmpIP (a.item 1) (b.item 1), cmpI (a.item 3).toInt (b.item 3).toInt, cmpIP (a.item 2) (b.item 2), cmpI (a.item 4).toInt (b.item 4).toInt]
def cmpF (a b : AV) : Int := cmpT (a.item 0) (b.item 0)
/-- No two alike. -/
def Apart (xs : List AV) : Prop := ∀ i j : Fin xs.length, cmpF xs[i] xs[j] = 0 → i = j
/-- The list in order. -/
def sortAV (xs : List AV) : List AV := ((List.finRange xs.length).mergeSort fun i j => !(decide (cmpF xs[j] xs[i] < 0))).map fun i => xs[i]
noncomputable def okSort (xs : List AV) : Bool := open Classical in decide (Apart xs ∧ xs.length < 4611686018427387904)
/-- slices.SortFunc of a row of flows. -/
noncomputable def ovDump (S : St) : Bool × St := match S.slot 3 with
  | .own (.top d) => match S.obj (.top d) with
    | some (.rows true e s xs) => (Nat.beq S.tm.length 24 && (Nat.beq e 48 && (shEq s s48 && okSort xs)), ((S.setSlot 21 (.own (.top d))).setSlot 22 (.tup [])).setObj d (.rows true 48 s48 (sortAV xs)))
    | _ => (false, S)
  | _ => (false, S)

/-! 15: (*weir/flow.Table).Dump -/
noncomputable def D15 : FnD := { body := Tryd.f15.body.getD .skip, m := 24, ps := [.val (.pt 2)], fs := [fam1, fam2, fam3, fam4], pv := [], rs := [(2, .obj (.rows 48 s48))], ty := [45], own := some 0, esc := false }
noncomputable def H15 : Hints where
  loops := fun i => match i with
    | 3 => some ⟨[fam1, fam2, fam3, fam4], [(3, .obj (.rows 48 s48)), (10, .keep (.iter 3))], [(10, .ref (.top 10) 0)]⟩
    | _ => none
  joins := fun _ => none
  over := fun i => match i with
    | 6 => some ovDump
    | _ => none
noncomputable def cal15 : FuncId → Option Cal := fun _ => none
noncomputable def run15 (n : Nat) (x0 : Option Nat) (m1 : List AV) (m2 : List AV) (m3 : List AV) (m4 : List AV) : Option (List AV) := D15.run Tryd.prog env (cal15) H15 n [.pt 2 x0, .tup m1, .tup m2, .tup m3, .tup m4]

/-! 16: weir/weirlaw17.goesOut -/
noncomputable def D16 : FnD := { body := Tryd.f16.body.getD .skip, m := 19, ps := [.val s26, .val s48], fs := [], pv := [], rs := [(4, .cell s34 34)], ty := [34], own := none, esc := false }
def H16 : Hints where
  loops := fun _ => none
  joins := fun i => match i with
    | 5 => some ⟨[], [(4, .keep (.box s34)), (5, .keep (.box s34))], [(4, .ref (.top 4) 0), (5, .ref (.top 5) 0)]⟩
    | _ => none
noncomputable def cal16 : FuncId → Option Cal := fun _ => none
noncomputable def run16 (n : Nat) (x0 : AV) (x1 : AV) : Option (List AV) := D16.run Tryd.prog env (cal16) H16 n [eta s26 x0, eta s48 x1]

/-! 4: weir/weirlaw17.FlowPorts -/
noncomputable def D4 : FnD := { body := Tryd.f4.body.getD .skip, m := 158, ps := [.val s26, .val (.fv s36)], fs := [], pv := [fam1, fam2, fam3, fam4], rs := [(4, .val .bool)], ty := [4], own := none, esc := false }
def H4 : Hints where
  loops := fun i => match i with
    | 6 => some ⟨[fam1, fam2, fam3, fam4], [(1, .val (.fv s36)), (2, .keep (.box s26)), (5, .val (.pt 2)), (6, .keep (.box s34)), (7, .val (.int .i64))], [(2, .ref (.top 2) 0), (6, .ref (.top 6) 0)]⟩
    | 13 => some ⟨[fam1, fam2, fam3, fam4], [(1, .val (.fv s36)), (2, .keep (.box s26)), (5, .val (.pt 2)), (6, .keep (.box s34)), (7, .val (.int .i64)), (8, .obj (.rows 48 s48)), (9, .val (.int .i64))], [(2, .ref (.top 2) 0), (6, .ref (.top 6) 0)]⟩
    | 19 => some ⟨[fam1, fam2, fam3, fam4], [(1, .val (.fv s36)), (2, .keep (.box s26)), (5, .val (.pt 2)), (6, .keep (.box s34)), (7, .val (.int .i64)), (8, .obj (.rows 48 s48)), (9, .val (.int .i64)), (10, .keep (.box s48)), (11, .val (.int .i64))], [(2, .ref (.top 2) 0), (6, .ref (.top 6) 0), (10, .ref (.top 10) 0)]⟩
    | _ => none
  joins := fun i => match i with
    | 3 => some ⟨[fam1, fam2, fam3, fam4], [(1, .val (.fv s36)), (2, .keep (.box s26)), (5, .val (.pt 2)), (23, .val .bool)], [(2, .ref (.top 2) 0)]⟩
    | 4 => some ⟨[fam1, fam2, fam3, fam4], [(1, .val (.fv s36)), (2, .keep (.box s26)), (5, .val (.pt 2))], [(2, .ref (.top 2) 0)]⟩
    | 7 => some ⟨[fam1, fam2, fam3, fam4], [(1, .val (.fv s36)), (2, .keep (.box s26)), (5, .val (.pt 2)), (6, .keep (.box s34)), (7, .val (.int .i64))], [(2, .ref (.top 2) 0), (6, .ref (.top 6) 0)]⟩
    | 8 => some ⟨[fam1, fam2, fam3, fam4], [(1, .val (.fv s36)), (2, .keep (.box s26)), (5, .val (.pt 2)), (6, .keep (.box s34)), (7, .val (.int .i64))], [(2, .ref (.top 2) 0), (6, .ref (.top 6) 0)]⟩
    | 11 => some ⟨[fam1, fam2, fam3, fam4], [(1, .val (.fv s36)), (2, .keep (.box s26)), (5, .val (.pt 2)), (6, .keep (.box s34)), (7, .val (.int .i64)), (8, .obj (.rows 48 s48)), (57, .val .bool)], [(2, .ref (.top 2) 0), (6, .ref (.top 6) 0)]⟩
    | 12 => some ⟨[fam1, fam2, fam3, fam4], [(1, .val (.fv s36)), (2, .keep (.box s26)), (5, .val (.pt 2)), (6, .keep (.box s34)), (7, .val (.int .i64)), (8, .obj (.rows 48 s48))], [(2, .ref (.top 2) 0), (6, .ref (.top 6) 0)]⟩
    | 14 => some ⟨[fam1, fam2, fam3, fam4], [(1, .val (.fv s36)), (2, .keep (.box s26)), (5, .val (.pt 2)), (6, .keep (.box s34)), (7, .val (.int .i64)), (8, .obj (.rows 48 s48)), (9, .val (.int .i64))], [(2, .ref (.top 2) 0), (6, .ref (.top 6) 0)]⟩
    | 17 => some ⟨[fam1, fam2, fam3, fam4], [(1, .val (.fv s36)), (2, .keep (.box s26)), (5, .val (.pt 2)), (6, .keep (.box s34)), (7, .val (.int .i64)), (8, .obj (.rows 48 s48)), (9, .val (.int .i64)), (10, .keep (.box s48)), (106, .val .bool)], [(2, .ref (.top 2) 0), (6, .ref (.top 6) 0), (10, .ref (.top 10) 0)]⟩
    | 18 => some ⟨[fam1, fam2, fam3, fam4], [(1, .val (.fv s36)), (2, .keep (.box s26)), (5, .val (.pt 2)), (6, .keep (.box s34)), (7, .val (.int .i64)), (8, .obj (.rows 48 s48)), (9, .val (.int .i64)), (10, .keep (.box s48))], [(2, .ref (.top 2) 0), (6, .ref (.top 6) 0), (10, .ref (.top 10) 0)]⟩
    | 20 => some ⟨[fam1, fam2, fam3, fam4], [(1, .val (.fv s36)), (2, .keep (.box s26)), (5, .val (.pt 2)), (6, .keep (.box s34)), (7, .val (.int .i64)), (8, .obj (.rows 48 s48)), (9, .val (.int .i64)), (10, .keep (.box s48)), (11, .val (.int .i64))], [(2, .ref (.top 2) 0), (6, .ref (.top 6) 0), (10, .ref (.top 10) 0)]⟩
    | 23 => some ⟨[fam1, fam2, fam3, fam4], [(1, .val (.fv s36)), (2, .keep (.box s26)), (5, .val (.pt 2)), (6, .keep (.box s34)), (7, .val (.int .i64)), (8, .obj (.rows 48 s48)), (9, .val (.int .i64)), (10, .keep (.box s48)), (11, .val (.int .i64)), (12, .keep (.box s48)), (129, .val .bool)], [(2, .ref (.top 2) 0), (6, .ref (.top 6) 0), (10, .ref (.top 10) 0), (12, .ref (.top 12) 0)]⟩
    | 24 => some ⟨[fam1, fam2, fam3, fam4], [(1, .val (.fv s36)), (2, .keep (.box s26)), (5, .val (.pt 2)), (6, .keep (.box s34)), (7, .val (.int .i64)), (8, .obj (.rows 48 s48)), (9, .val (.int .i64)), (10, .keep (.box s48)), (11, .val (.int .i64)), (12, .keep (.box s48))], [(2, .ref (.top 2) 0), (6, .ref (.top 6) 0), (10, .ref (.top 10) 0), (12, .ref (.top 12) 0)]⟩
    | 25 => some ⟨[fam1, fam2, fam3, fam4], [(1, .val (.fv s36)), (2, .keep (.box s26)), (5, .val (.pt 2)), (6, .keep (.box s34)), (7, .val (.int .i64)), (8, .obj (.rows 48 s48)), (9, .val (.int .i64)), (10, .keep (.box s48)), (11, .val (.int .i64)), (157, .val .bool)], [(2, .ref (.top 2) 0), (6, .ref (.top 6) 0), (10, .ref (.top 10) 0)]⟩
    | 26 => some ⟨[fam1, fam2, fam3, fam4], [], []⟩
    | _ => none
noncomputable def cal4 (F8 F9 F10 F14 F15 F16 : Fun) : FuncId → Option Cal := fun f => match f with | 8 => some (mkCal D8 F8) | 9 => some (mkCal D9 F9) | 10 => some (calRo D10 F10) | 14 => some (mkCal D14 F14) | 15 => some (mkCal D15 F15) | 16 => some (mkCal D16 F16) | _ => none
noncomputable def run4 (F8 F9 F10 F14 F15 F16 : Fun) (n : Nat) (x0 : AV) (x1 : List AV) : Option (List AV) := D4.run Tryd.prog env (cal4 F8 F9 F10 F14 F15 F16) H4 n [eta s26 x0, .fv s36 x1]

/-! 19: weir/weirlaw17.sameFlows -/
noncomputable def D19 : FnD := { body := Tryd.f19.body.getD .skip, m := 26, ps := [.val (.fv s48), .val (.fv s48)], fs := [], pv := [], rs := [(4, .val .bool)], ty := [4], own := none, esc := false }
def H19 : Hints where
  loops := fun i => match i with
    | 4 => some ⟨[], [(0, .val (.fv s48)), (1, .val (.fv s48)), (5, .val (.int .i64))], []⟩
    | _ => none
  joins := fun i => match i with
    | 8 => some ⟨[], [], []⟩
    | _ => none
noncomputable def cal19 : FuncId → Option Cal := fun _ => none
noncomputable def run19 (n : Nat) (x0 : List AV) (x1 : List AV) : Option (List AV) := D19.run Tryd.prog env (cal19) H19 n [.fv s48 x0, .fv s48 x1]

/-! 5: weir/weirlaw17.FlowEnds -/
noncomputable def D5 : FnD := { body := Tryd.f5.body.getD .skip, m := 101, ps := [.val s26, .val (.fv s36)], fs := [], pv := [fam1, fam2, fam3, fam4], rs := [(4, .val .bool)], ty := [4], own := none, esc := false }
def H5 : Hints where
  loops := fun i => match i with
    | 6 => some ⟨[fam1, fam2, fam3, fam4], [(1, .val (.fv s36)), (5, .val (.pt 2)), (7, .keep (.box s34)), (8, .val (.int .i64))], [(7, .ref (.top 7) 0)]⟩
    | 12 => some ⟨[fam1, fam2, fam3, fam4], [(5, .val (.pt 2)), (9, .obj (.rows 48 s48)), (10, .val (.int .i64))], []⟩
    | 17 => some ⟨[fam1, fam2, fam3, fam4], [(5, .val (.pt 2)), (9, .obj (.rows 48 s48)), (10, .val (.int .i64)), (11, .val (.int .i64)), (12, .obj (.rows 48 s48)), (13, .val (.int .i64))], []⟩
    | _ => none
  joins := fun i => match i with
    | 3 => some ⟨[fam1, fam2, fam3, fam4], [(1, .val (.fv s36)), (5, .val (.pt 2)), (25, .val .bool)], []⟩
    | 4 => some ⟨[fam1, fam2, fam3, fam4], [(1, .val (.fv s36)), (5, .val (.pt 2))], []⟩
    | 8 => some ⟨[fam1, fam2, fam3, fam4], [(1, .val (.fv s36)), (5, .val (.pt 2)), (7, .keep (.box s34)), (8, .val (.int .i64))], [(7, .ref (.top 7) 0)]⟩
    | 9 => some ⟨[fam1, fam2, fam3, fam4], [(5, .val (.pt 2))], []⟩
    | 13 => some ⟨[fam1, fam2, fam3, fam4], [(5, .val (.pt 2)), (9, .obj (.rows 48 s48)), (10, .val (.int .i64))], []⟩
    | 18 => some ⟨[fam1, fam2, fam3, fam4], [(5, .val (.pt 2)), (9, .obj (.rows 48 s48)), (10, .val (.int .i64)), (11, .val (.int .i64)), (12, .obj (.rows 48 s48)), (13, .val (.int .i64))], []⟩
    | 21 => some ⟨[fam1, fam2, fam3, fam4], [(5, .val (.pt 2)), (9, .obj (.rows 48 s48)), (10, .val (.int .i64)), (11, .val (.int .i64)), (12, .obj (.rows 48 s48)), (13, .val (.int .i64))], []⟩
    | 25 => some ⟨[fam1, fam2, fam3, fam4], [(5, .val (.pt 2)), (9, .obj (.rows 48 s48)), (10, .val (.int .i64)), (11, .val (.int .i64)), (12, .obj (.rows 48 s48))], []⟩
    | 26 => some ⟨[fam1, fam2, fam3, fam4], [(5, .val (.pt 2)), (9, .obj (.rows 48 s48)), (10, .val (.int .i64)), (100, .val .bool)], []⟩
    | 27 => some ⟨[fam1, fam2, fam3, fam4], [], []⟩
    | _ => none
noncomputable def cal5 (F8 F9 F11 F14 F15 F17 F18 F19 : Fun) : FuncId → Option Cal := fun f => match f with | 8 => some (mkCal D8 F8) | 9 => some (mkCal D9 F9) | 11 => some (mkCal D11 F11) | 14 => some (mkCal D14 F14) | 15 => some (mkCal D15 F15) | 17 => some (mkCal D17 F17) | 18 => some (mkCal D18 F18) | 19 => some (mkCal D19 F19) | _ => none
noncomputable def run5 (F8 F9 F11 F14 F15 F17 F18 F19 : Fun) (n : Nat) (x0 : AV) (x1 : List AV) : Option (List AV) := D5.run Tryd.prog env (cal5 F8 F9 F11 F14 F15 F17 F18 F19) H5 n [eta s26 x0, .fv s36 x1]

/-! 22: weir/weirlaw17.asks -/
noncomputable def D22 : FnD := { body := Tryd.f22.body.getD .skip, m := 15, ps := [.val (.int .i64)], fs := [], pv := [], rs := [(2, .cell s34 34)], ty := [34], own := none, esc := false }
def H22 : Hints where
  loops := fun _ => none
  joins := fun _ => none
noncomputable def cal22 : FuncId → Option Cal := fun _ => none
noncomputable def run22 (n : Nat) (x0 : Int) : Option (List AV) := D22.run Tryd.prog env (cal22) H22 n [.int .i64 x0]

/-! 6: weir/weirlaw17.FlowMany -/
noncomputable def D6 : FnD := { body := Tryd.f6.body.getD .skip, m := 219, ps := [.val (.int .i64), .val (.int .i64)], fs := [], pv := [fam1, fam2, fam3, fam4, fam6], rs := [(4, .val .bool)], ty := [4], own := none, esc := false }
def H6 : Hints where
  loops := fun i => match i with
    | 10 => some ⟨[fam1, fam2, fam3, fam4, fam6], [(0, .val (.int .i64)), (1, .val (.int .i64)), (5, .keep (.box s26)), (6, .val (.pt 2)), (8, .val (.mp 6)), (9, .val (.int .i64))], [(5, .ref (.top 5) 0)]⟩
    | 27 => some ⟨[fam1, fam2, fam3, fam4, fam6], [(5, .keep (.box s26)), (6, .val (.pt 2)), (13, .val (.int .i64)), (14, .obj (.rows 48 s48)), (15, .val (.int .i64))], [(5, .ref (.top 5) 0)]⟩
    | 32 => some ⟨[fam1, fam2, fam3, fam4, fam6], [(5, .keep (.box s26)), (6, .val (.pt 2)), (13, .val (.int .i64)), (16, .val (.int .i64))], [(5, .ref (.top 5) 0)]⟩
    | _ => none
  joins := fun i => match i with
    | 7 => some ⟨[fam1, fam2, fam3, fam4, fam6], [(0, .val (.int .i64)), (1, .val (.int .i64)), (5, .keep (.box s26)), (6, .val (.pt 2)), (44, .val .bool)], [(5, .ref (.top 5) 0)]⟩
    | 8 => some ⟨[fam1, fam2, fam3, fam4, fam6], [(0, .val (.int .i64)), (1, .val (.int .i64)), (5, .keep (.box s26)), (6, .val (.pt 2))], [(5, .ref (.top 5) 0)]⟩
    | 11 => some ⟨[fam1, fam2, fam3, fam4, fam6], [(0, .val (.int .i64)), (1, .val (.int .i64)), (5, .keep (.box s26)), (6, .val (.pt 2)), (8, .val (.mp 6)), (9, .val (.int .i64))], [(5, .ref (.top 5) 0)]⟩
    | 15 => some ⟨[fam1, fam2, fam3, fam4, fam6], [(0, .val (.int .i64)), (1, .val (.int .i64)), (5, .keep (.box s26)), (6, .val (.pt 2)), (8, .val (.mp 6)), (9, .val (.int .i64)), (73, .val .bool)], [(5, .ref (.top 5) 0)]⟩
    | 17 => some ⟨[fam1, fam2, fam3, fam4, fam6], [(0, .val (.int .i64)), (1, .val (.int .i64)), (5, .keep (.box s26)), (6, .val (.pt 2)), (8, .val (.mp 6)), (9, .val (.int .i64)), (10, .keep (.box s34)), (117, .val .bool)], [(5, .ref (.top 5) 0), (10, .ref (.top 10) 0)]⟩
    | 18 => some ⟨[fam1, fam2, fam3, fam4, fam6], [(0, .val (.int .i64)), (1, .val (.int .i64)), (5, .keep (.box s26)), (6, .val (.pt 2)), (8, .val (.mp 6)), (9, .val (.int .i64)), (10, .keep (.box s34))], [(5, .ref (.top 5) 0), (10, .ref (.top 10) 0)]⟩
    | 21 => some ⟨[fam1, fam2, fam3, fam4, fam6], [(0, .val (.int .i64)), (1, .val (.int .i64)), (5, .keep (.box s26)), (6, .val (.pt 2)), (8, .val (.mp 6)), (9, .val (.int .i64)), (136, .val .bool)], [(5, .ref (.top 5) 0)]⟩
    | 22 => some ⟨[fam1, fam2, fam3, fam4, fam6], [(0, .val (.int .i64)), (1, .val (.int .i64)), (5, .keep (.box s26)), (6, .val (.pt 2))], [(5, .ref (.top 5) 0)]⟩
    | 28 => some ⟨[fam1, fam2, fam3, fam4, fam6], [(5, .keep (.box s26)), (6, .val (.pt 2)), (13, .val (.int .i64)), (14, .obj (.rows 48 s48)), (15, .val (.int .i64))], [(5, .ref (.top 5) 0)]⟩
    | 30 => some ⟨[fam1, fam2, fam3, fam4, fam6], [(5, .keep (.box s26)), (6, .val (.pt 2)), (13, .val (.int .i64)), (14, .obj (.rows 48 s48)), (15, .val (.int .i64)), (176, .val .bool)], [(5, .ref (.top 5) 0)]⟩
    | 31 => some ⟨[fam1, fam2, fam3, fam4, fam6], [(5, .keep (.box s26)), (6, .val (.pt 2)), (13, .val (.int .i64))], [(5, .ref (.top 5) 0)]⟩
    | 33 => some ⟨[fam1, fam2, fam3, fam4, fam6], [(5, .keep (.box s26)), (6, .val (.pt 2)), (13, .val (.int .i64)), (16, .val (.int .i64))], [(5, .ref (.top 5) 0)]⟩
    | 37 => some ⟨[fam1, fam2, fam3, fam4, fam6], [(5, .keep (.box s26)), (6, .val (.pt 2)), (13, .val (.int .i64)), (16, .val (.int .i64)), (17, .val (.int .i64))], [(5, .ref (.top 5) 0)]⟩
    | 38 => some ⟨[fam1, fam2, fam3, fam4, fam6], [(5, .keep (.box s26)), (6, .val (.pt 2)), (13, .val (.int .i64)), (16, .val (.int .i64)), (199, .val .bool)], [(5, .ref (.top 5) 0)]⟩
    | 39 => some ⟨[fam1, fam2, fam3, fam4, fam6], [(6, .val (.pt 2))], []⟩
    | _ => none
noncomputable def cal6 (F9 F10 F11 F12 F13 F15 F18 F20 F21 F22 : Fun) : FuncId → Option Cal := fun f => match f with | 9 => some (mkCal D9 F9) | 10 => some (calRo D10 F10) | 11 => some (mkCal D11 F11) | 12 => some (mkCal D12 F12) | 13 => some (mkCal D13 F13) | 15 => some (mkCal D15 F15) | 18 => some (mkCal D18 F18) | 20 => some (mkCal D20 F20) | 21 => some (mkCal D21 F21) | 22 => some (mkCal D22 F22) | _ => none
noncomputable def run6 (F9 F10 F11 F12 F13 F15 F18 F20 F21 F22 : Fun) (n : Nat) (x0 : Int) (x1 : Int) : Option (List AV) := D6.run Tryd.prog env (cal6 F9 F10 F11 F12 F13 F15 F18 F20 F21 F22) H6 n [.int .i64 x0, .int .i64 x1]

/-! 7: weir/weirlaw17.FlowLong -/
noncomputable def D7 : FnD := { body := Tryd.f7.body.getD .skip, m := 95, ps := [.val (.int .i64), .val (.int .i64)], fs := [], pv := [fam1, fam2, fam3, fam4], rs := [(4, .val .bool)], ty := [4], own := none, esc := false }
def H7 : Hints where
  loops := fun i => match i with
    | 14 => some ⟨[fam1, fam2, fam3, fam4], [(0, .val (.int .i64)), (1, .val (.int .i64)), (6, .val (.pt 2)), (11, .val (.int .i64))], []⟩
    | _ => none
  joins := fun i => match i with
    | 6 => some ⟨[fam1, fam2, fam3, fam4], [(0, .val (.int .i64)), (1, .val (.int .i64)), (6, .val (.pt 2)), (38, .val .bool)], []⟩
    | 7 => some ⟨[fam1, fam2, fam3, fam4], [(0, .val (.int .i64)), (1, .val (.int .i64)), (6, .val (.pt 2))], []⟩
    | 12 => some ⟨[fam1, fam2, fam3, fam4], [(0, .val (.int .i64)), (1, .val (.int .i64)), (6, .val (.pt 2)), (64, .val .bool)], []⟩
    | 13 => some ⟨[fam1, fam2, fam3, fam4], [(0, .val (.int .i64)), (1, .val (.int .i64)), (6, .val (.pt 2))], []⟩
    | 15 => some ⟨[fam1, fam2, fam3, fam4], [(0, .val (.int .i64)), (1, .val (.int .i64)), (6, .val (.pt 2)), (11, .val (.int .i64))], []⟩
    | 19 => some ⟨[fam1, fam2, fam3, fam4], [(0, .val (.int .i64)), (1, .val (.int .i64)), (6, .val (.pt 2)), (11, .val (.int .i64)), (12, .val (.int .i64))], []⟩
    | 21 => some ⟨[fam1, fam2, fam3, fam4], [(0, .val (.int .i64)), (1, .val (.int .i64)), (6, .val (.pt 2)), (11, .val (.int .i64)), (12, .val (.int .i64))], []⟩
    | 23 => some ⟨[fam1, fam2, fam3, fam4], [(6, .val (.pt 2))], []⟩
    | _ => none
noncomputable def cal7 (F9 F10 F11 F15 F17 F18 F20 F21 : Fun) : FuncId → Option Cal := fun f => match f with | 9 => some (mkCal D9 F9) | 10 => some (calRo D10 F10) | 11 => some (mkCal D11 F11) | 15 => some (mkCal D15 F15) | 17 => some (mkCal D17 F17) | 18 => some (mkCal D18 F18) | 20 => some (mkCal D20 F20) | 21 => some (mkCal D21 F21) | _ => none
noncomputable def run7 (F9 F10 F11 F15 F17 F18 F20 F21 : Fun) (n : Nat) (x0 : Int) (x1 : Int) : Option (List AV) := D7.run Tryd.prog env (cal7 F9 F10 F11 F15 F17 F18 F20 F21) H7 n [.int .i64 x0, .int .i64 x1]

/-! 33: cmp.Or[int] -/
noncomputable def D33 : FnD := { body := Tryd.f33.body.getD .skip, m := 18, ps := [.val (.fs .i64)], fs := [], pv := [], rs := [(2, .val (.int .i64))], ty := [3], own := none, esc := false }
def H33 : Hints where
  loops := fun i => match i with
    | 3 => some ⟨[], [(3, .val (.int .i64)), (6, .val (.fs .i64)), (7, .val (.int .i64)), (8, .val (.int .i64))], []⟩
    | _ => none
  joins := fun i => match i with
    | 8 => some ⟨[], [(3, .val (.int .i64))], []⟩
    | _ => none
noncomputable def cal33 : FuncId → Option Cal := fun _ => none
noncomputable def run33 (n : Nat) (x0 : List Int) : Option (List AV) := D33.run Tryd.prog env (cal33) H33 n [.fs .i64 x0]

/-! 46: cmp.isNaN[int] -/
noncomputable def D46 : FnD := { body := Tryd.f46.body.getD .skip, m := 6, ps := [.val (.int .i64)], fs := [], pv := [], rs := [(2, .val .bool)], ty := [4], own := none, esc := false }
def H46 : Hints where
  loops := fun _ => none
  joins := fun _ => none
noncomputable def cal46 : FuncId → Option Cal := fun _ => none
noncomputable def run46 (n : Nat) (x0 : Int) : Option (List AV) := D46.run Tryd.prog env (cal46) H46 n [.int .i64 x0]

/-! 34: cmp.Compare[int] -/
noncomputable def D34 : FnD := { body := Tryd.f34.body.getD .skip, m := 20, ps := [.val (.int .i64), .val (.int .i64)], fs := [], pv := [], rs := [(4, .val (.int .i64))], ty := [3], own := none, esc := false }
def H34 : Hints where
  loops := fun _ => none
  joins := fun _ => none
noncomputable def cal34 (F46 : Fun) : FuncId → Option Cal := fun f => match f with | 46 => some (mkCal D46 F46) | _ => none
noncomputable def run34 (F46 : Fun) (n : Nat) (x0 : Int) (x1 : Int) : Option (List AV) := D34.run Tryd.prog env (cal34 F46) H34 n [.int .i64 x0, .int .i64 x1]

/-! 72: cmp.isNaN[byte] -/
noncomputable def D72 : FnD := { body := Tryd.f72.body.getD .skip, m := 6, ps := [.val (.int .u8)], fs := [], pv := [], rs := [(2, .val .bool)], ty := [4], own := none, esc := false }
def H72 : Hints where
  loops := fun _ => none
  joins := fun _ => none
noncomputable def cal72 : FuncId → Option Cal := fun _ => none
noncomputable def run72 (n : Nat) (x0 : Int) : Option (List AV) := D72.run Tryd.prog env (cal72) H72 n [.int .u8 x0]

/-! 62: cmp.Compare[byte] -/
noncomputable def D62 : FnD := { body := Tryd.f62.body.getD .skip, m := 20, ps := [.val (.int .u8), .val (.int .u8)], fs := [], pv := [], rs := [(4, .val (.int .i64))], ty := [3], own := none, esc := false }
def H62 : Hints where
  loops := fun _ => none
  joins := fun _ => none
noncomputable def cal62 (F72 : Fun) : FuncId → Option Cal := fun f => match f with | 72 => some (mkCal D72 F72) | _ => none
noncomputable def run62 (F72 : Fun) (n : Nat) (x0 : Int) (x1 : Int) : Option (List AV) := D62.run Tryd.prog env (cal62 F72) H62 n [.int .u8 x0, .int .u8 x1]

/-! 47: slices.Compare[[]byte,byte] -/
noncomputable def D47 : FnD := { body := Tryd.f47.body.getD .skip, m := 36, ps := [.val (.fs .u8), .val (.fs .u8)], fs := [], pv := [], rs := [(4, .val (.int .i64))], ty := [3], own := none, esc := false }
def H47 : Hints where
  loops := fun i => match i with
    | 2 => some ⟨[], [(0, .val (.fs .u8)), (1, .val (.fs .u8)), (9, .val (.fs .u8)), (10, .val (.int .i64)), (11, .val (.int .i64))], []⟩
    | _ => none
  joins := fun i => match i with
    | 11 => some ⟨[], [(0, .val (.fs .u8)), (1, .val (.fs .u8))], []⟩
    | _ => none
noncomputable def cal47 (F62 : Fun) : FuncId → Option Cal := fun f => match f with | 62 => some (mkCal D62 F62) | _ => none
noncomputable def run47 (F62 : Fun) (n : Nat) (x0 : List Int) (x1 : List Int) : Option (List AV) := D47.run Tryd.prog env (cal47 F62) H47 n [.fs .u8 x0, .fs .u8 x1]

/-! 35: weir/flow.byAddr -/
noncomputable def D35 : FnD := { body := Tryd.f35.body.getD .skip, m := 17, ps := [.val s24, .val s24], fs := [], pv := [], rs := [(4, .val (.int .i64))], ty := [3], own := none, esc := false }
def H35 : Hints where
  loops := fun _ => none
  joins := fun _ => none
noncomputable def cal35 (F33 F34 F47 : Fun) : FuncId → Option Cal := fun f => match f with | 33 => some (mkCal D33 F33) | 34 => some (mkCal D34 F34) | 47 => some (mkCal D47 F47) | _ => none
noncomputable def run35 (F33 F34 F47 : Fun) (n : Nat) (x0 : AV) (x1 : AV) : Option (List AV) := D35.run Tryd.prog env (cal35 F33 F34 F47) H35 n [eta s24 x0, eta s24 x1]

/-! 32: (*weir/flow.Table).Dump$1 -/
noncomputable def D32 : FnD := { body := Tryd.f32.body.getD .skip, m := 38, ps := [.val s48, .val s48], fs := [], pv := [], rs := [(4, .val (.int .i64))], ty := [3], own := none, esc := false }
def H32 : Hints where
  loops := fun _ => none
  joins := fun _ => none
noncomputable def cal32 (F33 F34 F35 : Fun) : FuncId → Option Cal := fun f => match f with | 33 => some (mkCal D33 F33) | 34 => some (mkCal D34 F34) | 35 => some (mkCal D35 F35) | _ => none
noncomputable def run32 (F33 F34 F35 : Fun) (n : Nat) (x0 : AV) (x1 : AV) : Option (List AV) := D32.run Tryd.prog env (cal32 F33 F34 F35) H32 n [eta s48 x0, eta s48 x1]

end Go.Proofs.YtldnpibpbbcjgaaDoor.Am
end

section
set_option linter.unusedVariables false
namespace Go.Proofs.YtldnpibpbbcjgaaDoor.Am
open Go Go.Am Go.Proofs

theorem good15 : D15.good Tryd.prog = true := by kernel_rfl
theorem snd15 (hov : ∀ C : Ctx, C.E = env → OvOk C Tryd.prog H15 D15.body)  : SoundCal Tryd.prog env 15 (mkCal D15 (D15.run Tryd.prog env cal15 H15)) :=
  FnD.soundOv (fun f c hf => by cases hf) mix Tryd.func15 rfl (by decide) rfl rfl good15 hov
theorem good16 : D16.good Tryd.prog = true := by kernel_rfl
theorem snd16  : SoundCal Tryd.prog env 16 (mkCal D16 (D16.run Tryd.prog env cal16 H16)) :=
  FnD.sound (fun f c hf => by cases hf) mix Tryd.func16 rfl (by decide) rfl rfl good16
theorem good4 : D4.good Tryd.prog = true := by kernel_rfl
theorem snd4 (F8 F9 F10 F14 F15 F16 : Fun) (h8 : SoundCal Tryd.prog env 8 (mkCal D8 F8)) (h9 : SoundCal Tryd.prog env 9 (mkCal D9 F9)) (h10 : SoundCal Tryd.prog env 10 (calRo D10 F10)) (h14 : SoundCal Tryd.prog env 14 (mkCal D14 F14)) (h15 : SoundCal Tryd.prog env 15 (mkCal D15 F15)) (h16 : SoundCal Tryd.prog env 16 (mkCal D16 F16)) : SoundCal Tryd.prog env 4 (mkCal D4 (D4.run Tryd.prog env (cal4 F8 F9 F10 F14 F15 F16) H4)) :=
  FnD.sound (fun f c hf => by
    unfold cal4 at hf
    split at hf
    · cases hf; exact h8
    · cases hf; exact h9
    · cases hf; exact h10
    · cases hf; exact h14
    · cases hf; exact h15
    · cases hf; exact h16
    · cases hf) mix Tryd.func4 rfl (by decide) rfl rfl good4
theorem good19 : D19.good Tryd.prog = true := by kernel_rfl
theorem snd19  : SoundCal Tryd.prog env 19 (mkCal D19 (D19.run Tryd.prog env cal19 H19)) :=
  FnD.sound (fun f c hf => by cases hf) mix Tryd.func19 rfl (by decide) rfl rfl good19
theorem good5 : D5.good Tryd.prog = true := by kernel_rfl
theorem snd5 (F8 F9 F11 F14 F15 F17 F18 F19 : Fun) (h8 : SoundCal Tryd.prog env 8 (mkCal D8 F8)) (h9 : SoundCal Tryd.prog env 9 (mkCal D9 F9)) (h11 : SoundCal Tryd.prog env 11 (mkCal D11 F11)) (h14 : SoundCal Tryd.prog env 14 (mkCal D14 F14)) (h15 : SoundCal Tryd.prog env 15 (mkCal D15 F15)) (h17 : SoundCal Tryd.prog env 17 (mkCal D17 F17)) (h18 : SoundCal Tryd.prog env 18 (mkCal D18 F18)) (h19 : SoundCal Tryd.prog env 19 (mkCal D19 F19)) : SoundCal Tryd.prog env 5 (mkCal D5 (D5.run Tryd.prog env (cal5 F8 F9 F11 F14 F15 F17 F18 F19) H5)) :=
  FnD.sound (fun f c hf => by
    unfold cal5 at hf
    split at hf
    · cases hf; exact h8
    · cases hf; exact h9
    · cases hf; exact h11
    · cases hf; exact h14
    · cases hf; exact h15
    · cases hf; exact h17
    · cases hf; exact h18
    · cases hf; exact h19
    · cases hf) mix Tryd.func5 rfl (by decide) rfl rfl good5
theorem good22 : D22.good Tryd.prog = true := by kernel_rfl
theorem snd22  : SoundCal Tryd.prog env 22 (mkCal D22 (D22.run Tryd.prog env cal22 H22)) :=
  FnD.sound (fun f c hf => by cases hf) mix Tryd.func22 rfl (by decide) rfl rfl good22
theorem good6 : D6.good Tryd.prog = true := by kernel_rfl
theorem snd6 (F9 F10 F11 F12 F13 F15 F18 F20 F21 F22 : Fun) (h9 : SoundCal Tryd.prog env 9 (mkCal D9 F9)) (h10 : SoundCal Tryd.prog env 10 (calRo D10 F10)) (h11 : SoundCal Tryd.prog env 11 (mkCal D11 F11)) (h12 : SoundCal Tryd.prog env 12 (mkCal D12 F12)) (h13 : SoundCal Tryd.prog env 13 (mkCal D13 F13)) (h15 : SoundCal Tryd.prog env 15 (mkCal D15 F15)) (h18 : SoundCal Tryd.prog env 18 (mkCal D18 F18)) (h20 : SoundCal Tryd.prog env 20 (mkCal D20 F20)) (h21 : SoundCal Tryd.prog env 21 (mkCal D21 F21)) (h22 : SoundCal Tryd.prog env 22 (mkCal D22 F22)) : SoundCal Tryd.prog env 6 (mkCal D6 (D6.run Tryd.prog env (cal6 F9 F10 F11 F12 F13 F15 F18 F20 F21 F22) H6)) :=
  FnD.sound (fun f c hf => by
    unfold cal6 at hf
    split at hf
    · cases hf; exact h9
    · cases hf; exact h10
    · cases hf; exact h11
    · cases hf; exact h12
    · cases hf; exact h13
    · cases hf; exact h15
    · cases hf; exact h18
    · cases hf; exact h20
    · cases hf; exact h21
    · cases hf; exact h22
    · cases hf) mix Tryd.func6 rfl (by decide) rfl rfl good6
theorem good7 : D7.good Tryd.prog = true := by kernel_rfl
theorem snd7 (F9 F10 F11 F15 F17 F18 F20 F21 : Fun) (h9 : SoundCal Tryd.prog env 9 (mkCal D9 F9)) (h10 : SoundCal Tryd.prog env 10 (calRo D10 F10)) (h11 : SoundCal Tryd.prog env 11 (mkCal D11 F11)) (h15 : SoundCal Tryd.prog env 15 (mkCal D15 F15)) (h17 : SoundCal Tryd.prog env 17 (mkCal D17 F17)) (h18 : SoundCal Tryd.prog env 18 (mkCal D18 F18)) (h20 : SoundCal Tryd.prog env 20 (mkCal D20 F20)) (h21 : SoundCal Tryd.prog env 21 (mkCal D21 F21)) : SoundCal Tryd.prog env 7 (mkCal D7 (D7.run Tryd.prog env (cal7 F9 F10 F11 F15 F17 F18 F20 F21) H7)) :=
  FnD.sound (fun f c hf => by
    unfold cal7 at hf
    split at hf
    · cases hf; exact h9
    · cases hf; exact h10
    · cases hf; exact h11
    · cases hf; exact h15
    · cases hf; exact h17
    · cases hf; exact h18
    · cases hf; exact h20
    · cases hf; exact h21
    · cases hf) mix Tryd.func7 rfl (by decide) rfl rfl good7
theorem good33 : D33.good Tryd.prog = true := by kernel_rfl
theorem snd33  : SoundCal Tryd.prog env 33 (mkCal D33 (D33.run Tryd.prog env cal33 H33)) :=
  FnD.sound (fun f c hf => by cases hf) mix Tryd.func33 rfl (by decide) rfl rfl good33
theorem good46 : D46.good Tryd.prog = true := by kernel_rfl
theorem snd46  : SoundCal Tryd.prog env 46 (mkCal D46 (D46.run Tryd.prog env cal46 H46)) :=
  FnD.sound (fun f c hf => by cases hf) mix Tryd.func46 rfl (by decide) rfl rfl good46
theorem good34 : D34.good Tryd.prog = true := by kernel_rfl
theorem snd34 (F46 : Fun) (h46 : SoundCal Tryd.prog env 46 (mkCal D46 F46)) : SoundCal Tryd.prog env 34 (mkCal D34 (D34.run Tryd.prog env (cal34 F46) H34)) :=
  FnD.sound (fun f c hf => by
    unfold cal34 at hf
    split at hf
    · cases hf; exact h46
    · cases hf) mix Tryd.func34 rfl (by decide) rfl rfl good34
theorem good72 : D72.good Tryd.prog = true := by kernel_rfl
theorem snd72  : SoundCal Tryd.prog env 72 (mkCal D72 (D72.run Tryd.prog env cal72 H72)) :=
  FnD.sound (fun f c hf => by cases hf) mix Tryd.func72 rfl (by decide) rfl rfl good72
theorem good62 : D62.good Tryd.prog = true := by kernel_rfl
theorem snd62 (F72 : Fun) (h72 : SoundCal Tryd.prog env 72 (mkCal D72 F72)) : SoundCal Tryd.prog env 62 (mkCal D62 (D62.run Tryd.prog env (cal62 F72) H62)) :=
  FnD.sound (fun f c hf => by
    unfold cal62 at hf
    split at hf
    · cases hf; exact h72
    · cases hf) mix Tryd.func62 rfl (by decide) rfl rfl good62
theorem good47 : D47.good Tryd.prog = true := by kernel_rfl
theorem snd47 (F62 : Fun) (h62 : SoundCal Tryd.prog env 62 (mkCal D62 F62)) : SoundCal Tryd.prog env 47 (mkCal D47 (D47.run Tryd.prog env (cal47 F62) H47)) :=
  FnD.sound (fun f c hf => by
    unfold cal47 at hf
    split at hf
    · cases hf; exact h62
    · cases hf) mix Tryd.func47 rfl (by decide) rfl rfl good47
theorem good35 : D35.good Tryd.prog = true := by kernel_rfl
theorem snd35 (F33 F34 F47 : Fun) (h33 : SoundCal Tryd.prog env 33 (mkCal D33 F33)) (h34 : SoundCal Tryd.prog env 34 (mkCal D34 F34)) (h47 : SoundCal Tryd.prog env 47 (mkCal D47 F47)) : SoundCal Tryd.prog env 35 (mkCal D35 (D35.run Tryd.prog env (cal35 F33 F34 F47) H35)) :=
  FnD.sound (fun f c hf => by
    unfold cal35 at hf
    split at hf
    · cases hf; exact h33
    · cases hf; exact h34
    · cases hf; exact h47
    · cases hf) mix Tryd.func35 rfl (by decide) rfl rfl good35
theorem good32 : D32.good Tryd.prog = true := by kernel_rfl
theorem snd32 (F33 F34 F35 : Fun) (h33 : SoundCal Tryd.prog env 33 (mkCal D33 F33)) (h34 : SoundCal Tryd.prog env 34 (mkCal D34 F34)) (h35 : SoundCal Tryd.prog env 35 (mkCal D35 F35)) : SoundCal Tryd.prog env 32 (mkCal D32 (D32.run Tryd.prog env (cal32 F33 F34 F35) H32)) :=
  FnD.sound (fun f c hf => by
    unfold cal32 at hf
    split at hf
    · cases hf; exact h33
    · cases hf; exact h34
    · cases hf; exact h35
    · cases hf) mix Tryd.func32 rfl (by decide) rfl rfl good32
end Go.Proofs.YtldnpibpbbcjgaaDoor.Am
end

section
set_option linter.unusedVariables false
set_option maxRecDepth 20000
namespace Go.Proofs.YtldnpibpbbcjgaaDoor.Am
open Go Go.Am Go.Proofs

theorem eq15 (n : Nat) (x0 : Option Nat) (m1 : List AV) (m2 : List AV) (m3 : List AV) (m4 : List AV) : run15 n x0 m1 m2 m3 m4 =
  brO (Option.isSome x0)
   (brO (Option.isSome (AV.toPt (AV.item (getE m2 (Option.getD x0 0)) 1)))
    (iter (fun d0 k1 =>
     let v3 : AV := (getE (AV.toElems (getE d0 2)) (Int.toNat (AV.toInt (getE (AV.toElems (getE d0 5)) 0))))
     let v4 : (List AV) := (AV.ments v3)
     let v5 : Int := (AV.toInt (getE (AV.toElems (getE d0 5)) 1))
     let v6 : Int := (AV.toInt (getE (AV.toElems (getE d0 5)) 3))
     brO ((List.all v4 (fun e => (decide ((bornOf e) < v5)))) && (decide (v5 ≤ v6)))
      (let v7 : (List Int) := (AV.toInts (getE (AV.toElems (getE d0 5)) 2))
      let v8 : (List AV) := (mleft v7 v4)
      brO (List.isEmpty v8)
       (brO (okSort (AV.toElems (getE d0 4)))
        (some [(.fv s48 (sortAV (AV.toElems (getE d0 4)))), (.tup (AV.toElems (getE d0 0))), (.tup (AV.toElems (getE d0 1))), (.tup (AV.toElems (getE d0 2))), (.tup (AV.toElems (getE d0 3)))])
        (none))
       (allO (List.length v8) fun i2 =>
       let v9 : (List Int) := (HAppend.hAppend v7 [(bornOf (getE v8 i2))])
       let v10 : Int := (AV.mclk v3)
       brO ((!(List.isEmpty v9)) && ((v10 == v10) && (match Go.Am.mfindB (List.getLastD v9 0) v4 with | Option.some val => Bool.true | Option.none => Bool.false)))
        (brO (Option.isSome (AV.toPt (AV.item (Option.getD (mfindB (List.getLastD v9 0) v4) .undef) 2)))
         (brO (Nat.ble (((List.length (AV.toElems (getE d0 4))) + 1) * 96) 140737488355328)
          ((k1 [(.tup (AV.toElems (getE d0 0))), (.tup (AV.toElems (getE d0 1))), (.tup (AV.toElems (getE d0 2))), (.tup (AV.toElems (getE d0 3))), (.fv s48 (HAppend.hAppend (AV.toElems (getE d0 4)) [(eta s48 (getE (AV.toElems (getE d0 0)) (Option.getD (AV.toPt (AV.item (Option.getD (mfindB (List.getLastD v9 0) v4) .undef) 2)) 0)))])), (.tup [(.int .i64 (Int.ofNat (Int.toNat (AV.toInt (getE (AV.toElems (getE d0 5)) 0))))), (.int .i64 v5), (.fs .i64 v9), (.int .i64 v10)])]))
          (none))
         (none))
        (none)))
      (none)) n [(.tup m1), (.tup m2), (.tup m3), (.tup m4), (.fv s48 []), (.tup [(.int .i64 (Int.ofNat (Option.getD (AV.toPt (AV.item (getE m2 (Option.getD x0 0)) 1)) 0))), (.int .i64 (AV.mclk (getE m3 (Option.getD (AV.toPt (AV.item (getE m2 (Option.getD x0 0)) 1)) 0)))), (.fs .i64 []), (.int .i64 (AV.mclk (getE m3 (Option.getD (AV.toPt (AV.item (getE m2 (Option.getD x0 0)) 1)) 0))))])])
    (none))
   (none) := by kernel_rfl

theorem eq16 (n : Nat) (x0 : AV) (x1 : AV) : run16 n x0 x1 =
  jn
   (let v1 : AV := (AV.item (AV.item x1 0) 1)
   brO ((AV.toInt (AV.item v1 0)) == 4)
    (inl (some [z34, (.agg [(.int .i64 (AV.toInt (AV.item (AV.item x1 0) 0))), (eta s24 (AV.item x0 1)), (eta s24 (AV.item (AV.item x1 0) 2)), (.int .i64 (AV.toInt (AV.item x1 1))), (.int .i64 (AV.toInt (AV.item (AV.item x1 0) 4)))])]))
    (inl (some [z34, (.agg [(.int .i64 (AV.toInt (AV.item (AV.item x1 0) 0))), (eta s24 v1), (eta s24 (AV.item (AV.item x1 0) 2)), (.int .i64 (AV.toInt (AV.item x1 1))), (.int .i64 (AV.toInt (AV.item (AV.item x1 0) 4)))])]))) fun d0 =>
  some [(eta s34 (getE d0 1))] := by kernel_rfl

theorem eq19 (n : Nat) (x0 : List AV) (x1 : List AV) : run19 n x0 x1 =
  brO ((Int.ofNat (List.length x0)) != (Int.ofNat (List.length x1)))
   (some [(.bool false)])
   (jn
    (iter (fun d0 k1 =>
     brO (decide ((AV.toInt (getE d0 2)) < (Int.ofNat (List.length (AV.toElems (getE d0 0))))))
      (brO (inR (AV.toInt (getE d0 2)) (List.length (AV.toElems (getE d0 0))))
       (brO (inR (AV.toInt (getE d0 2)) (List.length (AV.toElems (getE d0 1))))
        (brO (!(keq (eta s48 (getE (AV.toElems (getE d0 0)) (Int.toNat (AV.toInt (getE d0 2))))) (eta s48 (getE (AV.toElems (getE d0 1)) (Int.toNat (AV.toInt (getE d0 2)))))))
         (inr (some [(.bool false)]))
         ((k1 [(.fv s48 (AV.toElems (getE d0 0))), (.fv s48 (AV.toElems (getE d0 1))), (.int .i64 (IntKind.wrap .i64 ((AV.toInt (getE d0 2)) + 1)))])))
        (none))
       (none))
      (inl (some []))) n [(.fv s48 x0), (.fv s48 x1), (.int .i64 0)]) fun d2 =>
   some [(.bool true)]) := by kernel_rfl

theorem eq22 (n : Nat) (x0 : Int) : run22 n x0 =
  some [(.agg [(.int .i64 17), (.agg [(.int .i64 4), (.arr .u8 16 [10, 0, (IntKind.wrap .u8 (Int.fdiv x0 (Int.ofNat (2 ^ (Min.min (Int.toNat 8) (IntKind.bits .i64)))))), (IntKind.wrap .u8 x0), 0, 0, 0, 0, 0, 0, 0, 0, 0, 0, 0, 0])]), (.agg [(.int .i64 4), (.arr .u8 16 [198, 51, 100, 7, 0, 0, 0, 0, 0, 0, 0, 0, 0, 0, 0, 0])]), (.int .i64 (IntKind.wrap .i64 (40000 - x0))), (.int .i64 53)])] := by kernel_rfl

theorem eq32 (F33 : Fun) (F34 : Fun) (F35 : Fun) (n : Nat) (x0 : AV) (x1 : AV) : run32 F33 F34 F35 n x0 x1 =
  ((F34 n [(.int .i64 (AV.toInt (AV.item (AV.item x0 0) 0))), (.int .i64 (AV.toInt (AV.item (AV.item x1 0) 0)))])).bind fun r0 =>
  brO (Nat.beq (List.length r0) 1)
   (((F35 n [(eta s24 (AV.item (AV.item x0 0) 1)), (eta s24 (AV.item (AV.item x1 0) 1))])).bind fun r1 =>
   brO (Nat.beq (List.length r1) 1)
    (((F34 n [(.int .i64 (AV.toInt (AV.item (AV.item x0 0) 3))), (.int .i64 (AV.toInt (AV.item (AV.item x1 0) 3)))])).bind fun r2 =>
    brO (Nat.beq (List.length r2) 1)
     (((F35 n [(eta s24 (AV.item (AV.item x0 0) 2)), (eta s24 (AV.item (AV.item x1 0) 2))])).bind fun r3 =>
     brO (Nat.beq (List.length r3) 1)
      (((F34 n [(.int .i64 (AV.toInt (AV.item (AV.item x0 0) 4))), (.int .i64 (AV.toInt (AV.item (AV.item x1 0) 4)))])).bind fun r4 =>
      brO (Nat.beq (List.length r4) 1)
       (((F33 n [(.fs .i64 [(AV.toInt (getE r0 0)), (AV.toInt (getE r1 0)), (AV.toInt (getE r2 0)), (AV.toInt (getE r3 0)), (AV.toInt (getE r4 0))])])).bind fun r5 =>
       brO (Nat.beq (List.length r5) 1)
        (some [(.int .i64 (AV.toInt (getE r5 0)))])
        (none))
       (none))
      (none))
     (none))
    (none))
   (none) := by kernel_rfl

theorem eq33 (n : Nat) (x0 : List Int) : run33 n x0 =
  jn
   (iter (fun d0 k1 =>
    brO (decide ((AV.toInt (getE d0 3)) < (AV.toInt (getE d0 2))))
     (brO (inR (AV.toInt (getE d0 3)) (List.length (AV.toInts (getE d0 1))))
      (let v3 : Int := (getI (AV.toInts (getE d0 1)) (Int.toNat (AV.toInt (getE d0 3))))
      brO (v3 != (AV.toInt (getE d0 0)))
       (inr (some [(.int .i64 v3)]))
       ((k1 [(.int .i64 (AV.toInt (getE d0 0))), (.fs .i64 (AV.toInts (getE d0 1))), (.int .i64 (AV.toInt (getE d0 2))), (.int .i64 (IntKind.wrap .i64 ((AV.toInt (getE d0 3)) + 1)))])))
      (none))
     (inl (some [(.int .i64 (AV.toInt (getE d0 0)))]))) n [(.int .i64 0), (.fs .i64 x0), (.int .i64 (Int.ofNat (List.length x0))), (.int .i64 0)]) fun d2 =>
  some [(.int .i64 (AV.toInt (getE d2 0)))] := by kernel_rfl

theorem eq34 (F46 : Fun) (n : Nat) (x0 : Int) (x1 : Int) : run34 F46 n x0 x1 =
  ((F46 n [(.int .i64 x0)])).bind fun r0 =>
  brO (Nat.beq (List.length r0) 1)
   (((F46 n [(.int .i64 x1)])).bind fun r1 =>
   brO (Nat.beq (List.length r1) 1)
    (brO (AV.toBool (getE r0 0))
     (brO (AV.toBool (getE r1 0))
      (some [(.int .i64 0)])
      (some [(.int .i64 (-1))]))
     (brO (AV.toBool (getE r1 0))
      (some [(.int .i64 1)])
      (brO (decide (x0 < x1))
       (some [(.int .i64 (-1))])
       (brO (decide (x0 > x1))
        (some [(.int .i64 1)])
        (some [(.int .i64 0)])))))
    (none))
   (none) := by kernel_rfl

theorem eq35 (F33 : Fun) (F34 : Fun) (F47 : Fun) (n : Nat) (x0 : AV) (x1 : AV) : run35 F33 F34 F47 n x0 x1 =
  ((F34 n [(.int .i64 (AV.toInt (AV.item x0 0))), (.int .i64 (AV.toInt (AV.item x1 0)))])).bind fun r0 =>
  brO (Nat.beq (List.length r0) 1)
   (((F47 n [(.fs .u8 (List.take 16 (List.drop 0 (AV.toInts (AV.item x0 1))))), (.fs .u8 (List.take 16 (List.drop 0 (AV.toInts (AV.item x1 1)))))])).bind fun r1 =>
   brO (Nat.beq (List.length r1) 1)
    (((F33 n [(.fs .i64 [(AV.toInt (getE r0 0)), (AV.toInt (getE r1 0))])])).bind fun r2 =>
    brO (Nat.beq (List.length r2) 1)
     (some [(.int .i64 (AV.toInt (getE r2 0)))])
     (none))
    (none))
   (none) := by kernel_rfl

theorem eq46 (n : Nat) (x0 : Int) : run46 n x0 =
  some [(.bool (x0 != x0))] := by kernel_rfl

theorem eq47 (F62 : Fun) (n : Nat) (x0 : List Int) (x1 : List Int) : run47 F62 n x0 x1 =
  jn
   (iter (fun d0 k1 =>
    brO (decide ((AV.toInt (getE d0 4)) < (AV.toInt (getE d0 3))))
     (brO (inR (AV.toInt (getE d0 4)) (List.length (AV.toInts (getE d0 2))))
      (brO (decide ((AV.toInt (getE d0 4)) ≥ (Int.ofNat (List.length (AV.toInts (getE d0 1))))))
       (inr (some [(.int .i64 1)]))
       (brO (inR (AV.toInt (getE d0 4)) (List.length (AV.toInts (getE d0 1))))
        (((F62 n [(.int .u8 (getI (AV.toInts (getE d0 2)) (Int.toNat (AV.toInt (getE d0 4))))), (.int .u8 (getI (AV.toInts (getE d0 1)) (Int.toNat (AV.toInt (getE d0 4)))))])).bind fun r2 =>
        brO (Nat.beq (List.length r2) 1)
         (brO ((AV.toInt (getE r2 0)) != 0)
          (inr (some [(.int .i64 (AV.toInt (getE r2 0)))]))
          ((k1 [(.fs .u8 (AV.toInts (getE d0 0))), (.fs .u8 (AV.toInts (getE d0 1))), (.fs .u8 (AV.toInts (getE d0 2))), (.int .i64 (AV.toInt (getE d0 3))), (.int .i64 (IntKind.wrap .i64 ((AV.toInt (getE d0 4)) + 1)))])))
         (none))
        (none)))
      (none))
     (inl (some [(.fs .u8 (AV.toInts (getE d0 0))), (.fs .u8 (AV.toInts (getE d0 1)))]))) n [(.fs .u8 x0), (.fs .u8 x1), (.fs .u8 x0), (.int .i64 (Int.ofNat (List.length x0))), (.int .i64 0)]) fun d3 =>
  brO (decide ((Int.ofNat (List.length (AV.toInts (getE d3 0)))) < (Int.ofNat (List.length (AV.toInts (getE d3 1))))))
   (some [(.int .i64 (-1))])
   (some [(.int .i64 0)]) := by kernel_rfl

theorem eq62 (F72 : Fun) (n : Nat) (x0 : Int) (x1 : Int) : run62 F72 n x0 x1 =
  ((F72 n [(.int .u8 x0)])).bind fun r0 =>
  brO (Nat.beq (List.length r0) 1)
   (((F72 n [(.int .u8 x1)])).bind fun r1 =>
   brO (Nat.beq (List.length r1) 1)
    (brO (AV.toBool (getE r0 0))
     (brO (AV.toBool (getE r1 0))
      (some [(.int .i64 0)])
      (some [(.int .i64 (-1))]))
     (brO (AV.toBool (getE r1 0))
      (some [(.int .i64 1)])
      (brO (decide (x0 < x1))
       (some [(.int .i64 (-1))])
       (brO (decide (x0 > x1))
        (some [(.int .i64 1)])
        (some [(.int .i64 0)])))))
    (none))
   (none) := by kernel_rfl

theorem eq72 (n : Nat) (x0 : Int) : run72 n x0 =
  some [(.bool (x0 != x0))] := by kernel_rfl

end Go.Proofs.YtldnpibpbbcjgaaDoor.Am
end
