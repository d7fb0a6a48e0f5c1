/-
  The flow's functions: what is said of each, and its run.
  What the functions' runs say holds of the program's own code.
-/
import Derived.Test.YtldnpibpbbcjgaaDoorProg
import Derived.Test.YtldnpibpbbcjgaaDoorAmF
section
set_option linter.unusedVariables false
namespace Go.Proofs.YtldnpibpbbcjgaaDoor.Am
open Go Go.Am Go.Proofs

abbrev Fun := Nat → List AV → Option (List AV)

def s24 : Sh := .agg [(.int .i64), (.arr .u8 16)]
def s26 : Sh := .agg [(.int .i64), s24, (.int .i64), (.int .i64), (.int .i64), (.int .i64), (.int .i64), (.int .i64), (.int .i64)]
def s34 : Sh := .agg [(.int .i64), s24, s24, (.int .i64), (.int .i64)]
def s36 : Sh := .agg [(.int .i64), (.int .i64), s34, (.int .i64), (.int .i64)]
def s48 : Sh := .agg [s34, (.int .i64), (.int .i64), (.int .i64)]
def s59 : Sh := .agg [s26, (.fv s48)]
def s65 : Sh := .agg [s26, (.mp 3), (.mp 4)]
def s91 : Sh := .agg []
def s112 : Sh := .agg [(.int .i64), (.arr .u8 16), (.int .i64), (.int .i64)]
def s116 : Sh := .agg [s24, (.int .i64)]
def s144 : Sh := .agg [.str, (.nl .i64), (.int .i64), (.int .i64), (.int .i64), (.int .i64)]
def fam1 : FamD := ⟨1, 48, s48, none⟩
def fam2 : FamD := ⟨2, 65, s65, none⟩
def fam3 : FamD := ⟨3, 62, (.pt 1), some s34⟩
def fam4 : FamD := ⟨4, 63, s34, some s34⟩
def fam5 : FamD := ⟨5, 90, s91, some (.int .i64)⟩
def fam6 : FamD := ⟨6, 55, .bool, some (.int .i64)⟩
def fam7 : FamD := ⟨7, 144, s144, none⟩
def outL : List AV := [.arr .i64 6 [0, 0, 0, 1, 0, 0], .arr .i64 6 [0, 0, 0, 1, 0, 0], .arr .i64 6 [0, 0, 0, 2, 4, 3], .arr .i64 6 [0, 0, 0, 0, 4, 3], .arr .i64 6 [0, 0, 0, 0, 4, 4], .arr .i64 6 [0, 0, 0, 0, 6, 5], .arr .i64 6 [0, 0, 0, 1, 6, 6], .arr .i64 6 [0, 0, 0, 0, 0, 0]]
def inL : List AV := [.arr .i64 6 [0, 0, 0, 0, 0, 0], .arr .i64 6 [0, 0, 2, 0, 0, 0], .arr .i64 6 [0, 0, 2, 0, 5, 2], .arr .i64 6 [0, 0, 0, 0, 5, 3], .arr .i64 6 [0, 0, 0, 0, 6, 4], .arr .i64 6 [0, 0, 0, 0, 5, 5], .arr .i64 6 [0, 0, 0, 0, 6, 6], .arr .i64 6 [0, 0, 0, 0, 0, 0]]
def netsL : List AV := [.agg [.int .i64 4, .arr .u8 16 [0, 0, 0, 0, 0, 0, 0, 0, 0, 0, 0, 0, 0, 0, 0, 0], .int .i64 32, .int .i64 1], .agg [.int .i64 6, .arr .u8 16 [0, 0, 0, 0, 0, 0, 0, 0, 0, 0, 0, 0, 0, 0, 0, 0], .int .i64 128, .int .i64 1], .agg [.int .i64 4, .arr .u8 16 [127, 0, 0, 0, 0, 0, 0, 0, 0, 0, 0, 0, 0, 0, 0, 0], .int .i64 8, .int .i64 2], .agg [.int .i64 6, .arr .u8 16 [0, 0, 0, 0, 0, 0, 0, 0, 0, 0, 0, 0, 0, 0, 0, 1], .int .i64 128, .int .i64 2], .agg [.int .i64 4, .arr .u8 16 [224, 0, 0, 0, 0, 0, 0, 0, 0, 0, 0, 0, 0, 0, 0, 0], .int .i64 4, .int .i64 3], .agg [.int .i64 6, .arr .u8 16 [255, 0, 0, 0, 0, 0, 0, 0, 0, 0, 0, 0, 0, 0, 0, 0], .int .i64 8, .int .i64 3], .agg [.int .i64 4, .arr .u8 16 [169, 254, 0, 0, 0, 0, 0, 0, 0, 0, 0, 0, 0, 0, 0, 0], .int .i64 16, .int .i64 4], .agg [.int .i64 6, .arr .u8 16 [254, 128, 0, 0, 0, 0, 0, 0, 0, 0, 0, 0, 0, 0, 0, 0], .int .i64 10, .int .i64 4], .agg [.int .i64 4, .arr .u8 16 [255, 255, 255, 255, 0, 0, 0, 0, 0, 0, 0, 0, 0, 0, 0, 0], .int .i64 32, .int .i64 5], .agg [.int .i64 4, .arr .u8 16 [0, 0, 0, 0, 0, 0, 0, 0, 0, 0, 0, 0, 0, 0, 0, 0], .int .i64 8, .int .i64 6], .agg [.int .i64 4, .arr .u8 16 [240, 0, 0, 0, 0, 0, 0, 0, 0, 0, 0, 0, 0, 0, 0, 0], .int .i64 4, .int .i64 6], .agg [.int .i64 6, .arr .u8 16 [0, 0, 0, 0, 0, 0, 0, 0, 0, 0, 0, 0, 0, 0, 0, 0], .int .i64 8, .int .i64 6]]
def glob : Nat → Option AV := fun g => match g with | 0 => some (.agg outL) | 1 => some (.agg inL) | 2 => some (.agg netsL) | _ => none
def z24 : AV := .agg [.int .i64 0, .arr .u8 16 [0, 0, 0, 0, 0, 0, 0, 0, 0, 0, 0, 0, 0, 0, 0, 0]]
def z34 : AV := .agg [.int .i64 0, z24, z24, .int .i64 0, .int .i64 0]
def env : Env := ⟨glob, fun t => match t with | 48 => some 1 | 65 => some 2 | 144 => some 7 | _ => none, fun t => match t with | 62 => some 3 | 63 => some 4 | 90 => some 5 | 55 => some 6 | _ => none, fun t d => match t, d with | 48, 45 => true | 65, 62 => true | 144, 13 => true | _, _ => false⟩

/-! 20: weir/weirlaw17.config0 -/
noncomputable def D20 : FnD := { body := Tryd.f20.body.getD .skip, m := 4, ps := [], fs := [], pv := [], rs := [(0, .cell s26 26)], ty := [26], own := none, esc := false }
def H20 : Hints where
  loops := fun _ => none
  joins := fun _ => none
noncomputable def cal20 : FuncId → Option Cal := fun _ => none
noncomputable def run20 (n : Nat) : Option (List AV) := D20.run Tryd.prog env (cal20) H20 n []

/-! 64: weir/addr.size -/
noncomputable def D64 : FnD := { body := Tryd.f64.body.getD .skip, m := 17, ps := [.val s24], fs := [], pv := [], rs := [(2, .val (.int .i64))], ty := [3], own := none, esc := false }
def H64 : Hints where
  loops := fun _ => none
  joins := fun i => match i with
    | 4 => some ⟨[], [(16, .val .bool)], []⟩
    | 5 => some ⟨[], [], []⟩
    | _ => none
noncomputable def cal64 : FuncId → Option Cal := fun _ => none
noncomputable def run64 (n : Nat) (x0 : AV) : Option (List AV) := D64.run Tryd.prog env (cal64) H64 n [eta s24 x0]

/-! 49: weir/addr.Valid -/
noncomputable def D49 : FnD := { body := Tryd.f49.body.getD .skip, m := 6, ps := [.val s24], fs := [], pv := [], rs := [(2, .val .bool)], ty := [4], own := none, esc := false }
def H49 : Hints where
  loops := fun _ => none
  joins := fun _ => none
noncomputable def cal49 (F64 : Fun) : FuncId → Option Cal := fun f => match f with | 64 => some (mkCal D64 F64) | _ => none
noncomputable def run49 (F64 : Fun) (n : Nat) (x0 : AV) : Option (List AV) := D49.run Tryd.prog env (cal49 F64) H49 n [eta s24 x0]

/-! 63: weir/addr.masked -/
noncomputable def D63 : FnD := { body := Tryd.f63.body.getD .skip, m := 29, ps := [.val (.arr .u8 16), .val (.int .i64)], fs := [], pv := [], rs := [(4, .cell (.arr .u8 16) 22)], ty := [22], own := none, esc := false }
def H63 : Hints where
  loops := fun i => match i with
    | 3 => some ⟨[], [(1, .val (.int .i64)), (2, .keep (.box (.arr .u8 16))), (4, .keep (.box (.arr .u8 16))), (5, .keep (.box (.arr .u8 16))), (8, .val (.int .i64))], [(2, .ref (.top 2) 0), (4, .ref (.top 4) 0), (5, .ref (.top 5) 0)]⟩
    | _ => none
  joins := fun i => match i with
    | 8 => some ⟨[], [(4, .keep (.box (.arr .u8 16))), (5, .keep (.box (.arr .u8 16)))], [(4, .ref (.top 4) 0), (5, .ref (.top 5) 0)]⟩
    | _ => none
noncomputable def cal63 : FuncId → Option Cal := fun _ => none
noncomputable def run63 (n : Nat) (x0 : List Int) (x1 : Int) : Option (List AV) := D63.run Tryd.prog env (cal63) H63 n [.arr .u8 16 x0, .int .i64 x1]

/-! 48: weir/addr.Class -/
noncomputable def D48 : FnD := { body := Tryd.f48.body.getD .skip, m := 30, ps := [.val s24], fs := [], pv := [], rs := [(2, .val (.int .i64))], ty := [3], own := none, esc := false }
def H48 : Hints where
  loops := fun i => match i with
    | 4 => some ⟨[], [(1, .keep (.box s24)), (8, .val (.agg (List.replicate 12 s112))), (9, .val (.int .i64))], [(1, .ref (.top 1) 0)]⟩
    | _ => none
  joins := fun i => match i with
    | 7 => some ⟨[], [(1, .keep (.box s24)), (4, .keep (.box s112)), (8, .val (.agg (List.replicate 12 s112))), (9, .val (.int .i64)), (26, .val .bool)], [(1, .ref (.top 1) 0), (4, .ref (.top 4) 0)]⟩
    | 8 => some ⟨[], [(1, .keep (.box s24)), (8, .val (.agg (List.replicate 12 s112))), (9, .val (.int .i64))], [(1, .ref (.top 1) 0)]⟩
    | 9 => some ⟨[], [], []⟩
    | _ => none
noncomputable def cal48 (F49 F63 : Fun) : FuncId → Option Cal := fun f => match f with | 49 => some (mkCal D49 F49) | 63 => some (mkCal D63 F63) | _ => none
noncomputable def run48 (F49 F63 : Fun) (n : Nat) (x0 : AV) : Option (List AV) := D48.run Tryd.prog env (cal48 F49 F63) H48 n [eta s24 x0]

/-! 38: weir/flow.isOutside -/
noncomputable def D38 : FnD := { body := Tryd.f38.body.getD .skip, m := 21, ps := [.val s24], fs := [], pv := [], rs := [(2, .val .bool)], ty := [4], own := none, esc := false }
def H38 : Hints where
  loops := fun _ => none
  joins := fun _ => none
noncomputable def cal38 (F48 F49 : Fun) : FuncId → Option Cal := fun f => match f with | 48 => some (mkCal D48 F48) | 49 => some (mkCal D49 F49) | _ => none
noncomputable def run38 (F48 F49 : Fun) (n : Nat) (x0 : AV) : Option (List AV) := D38.run Tryd.prog env (cal38 F48 F49) H38 n [eta s24 x0]

/-! 21: weir/flow.New -/
noncomputable def D21 : FnD := { body := Tryd.f21.body.getD .skip, m := 63, ps := [.val s26], fs := [fam1, fam2, fam3, fam4], pv := [], rs := [(2, .val (.pt 2)), (3, .val (.int .i64))], ty := [28, 38], own := none, esc := false }
def H21 : Hints where
  loops := fun i => match i with
    | 4 => some ⟨[fam1, fam2, fam3, fam4], [(1, .keep (.box s26)), (47, .val (.arr .i64 5)), (48, .val (.int .i64))], [(1, .ref (.top 1) 0)]⟩
    | _ => none
  joins := fun i => match i with
    | 2 => some ⟨[fam1, fam2, fam3, fam4], [(1, .keep (.box s26)), (36, .val .bool)], [(1, .ref (.top 1) 0)]⟩
    | 3 => some ⟨[fam1, fam2, fam3, fam4], [(1, .keep (.box s26))], [(1, .ref (.top 1) 0)]⟩
    | 7 => some ⟨[fam1, fam2, fam3, fam4], [(1, .keep (.box s26)), (47, .val (.arr .i64 5)), (48, .val (.int .i64)), (56, .val .bool)], [(1, .ref (.top 1) 0)]⟩
    | 8 => some ⟨[fam1, fam2, fam3, fam4], [(1, .keep (.box s26)), (47, .val (.arr .i64 5)), (48, .val (.int .i64))], [(1, .ref (.top 1) 0)]⟩
    | 9 => some ⟨[fam1, fam2, fam3, fam4], [(1, .keep (.box s26))], [(1, .ref (.top 1) 0)]⟩
    | _ => none
noncomputable def cal21 (F38 : Fun) : FuncId → Option Cal := fun f => match f with | 38 => some (mkCal D38 F38) | _ => none
noncomputable def run21 (F38 : Fun) (n : Nat) (x0 : AV) (m1 : List AV) (m2 : List AV) (m3 : List AV) (m4 : List AV) : Option (List AV) := D21.run Tryd.prog env (cal21 F38) H21 n [eta s26 x0, .tup m1, .tup m2, .tup m3, .tup m4]

/-! 50: weir/weirref4.Valid -/
noncomputable def D50 : FnD := { body := Tryd.f50.body.getD .skip, m := 19, ps := [.val s24], fs := [], pv := [], rs := [(2, .val .bool)], ty := [4], own := none, esc := false }
def H50 : Hints where
  loops := fun i => match i with
    | 4 => some ⟨[], [(1, .keep (.box s24)), (3, .val (.int .i64))], [(1, .ref (.top 1) 0)]⟩
    | _ => none
  joins := fun i => match i with
    | 8 => some ⟨[], [], []⟩
    | _ => none
noncomputable def cal50 : FuncId → Option Cal := fun _ => none
noncomputable def run50 (n : Nat) (x0 : AV) : Option (List AV) := D50.run Tryd.prog env (cal50) H50 n [eta s24 x0]

/-! 81: weir/weirref4.has -/
noncomputable def D81 : FnD := { body := Tryd.f81.body.getD .skip, m := 17, ps := [.val .str, .val (.int .u8)], fs := [], pv := [], rs := [(4, .val .bool)], ty := [4], own := none, esc := false }
def H81 : Hints where
  loops := fun i => match i with
    | 2 => some ⟨[], [(0, .val .str), (1, .val (.int .u8)), (5, .val (.int .i64))], []⟩
    | _ => none
  joins := fun i => match i with
    | 6 => some ⟨[], [], []⟩
    | _ => none
noncomputable def cal81 : FuncId → Option Cal := fun _ => none
noncomputable def run81 (n : Nat) (x0 : List UInt8) (x1 : Int) : Option (List AV) := D81.run Tryd.prog env (cal81) H81 n [.str x0, .int .u8 x1]

/-! 84: weir/weirref4.two -/
noncomputable def D84 : FnD := { body := Tryd.f84.body.getD .skip, m := 23, ps := [.val .str, .val (.int .i64)], fs := [], pv := [], rs := [(4, .val .bool)], ty := [4], own := none, esc := false }
def H84 : Hints where
  loops := fun _ => none
  joins := fun _ => none
noncomputable def cal84 : FuncId → Option Cal := fun _ => none
noncomputable def run84 (n : Nat) (x0 : List UInt8) (x1 : Int) : Option (List AV) := D84.run Tryd.prog env (cal84) H84 n [.str x0, .int .i64 x1]

/-! 75: weir/weirref4.here -/
noncomputable def D75 : FnD := { body := Tryd.f75.body.getD .skip, m := 13, ps := [.val .str, .val (.int .i64)], fs := [], pv := [], rs := [(4, .val (.int .i64)), (5, .val (.int .i64))], ty := [3, 3], own := none, esc := false }
def H75 : Hints where
  loops := fun _ => none
  joins := fun _ => none
noncomputable def cal75 : FuncId → Option Cal := fun _ => none
noncomputable def run75 (n : Nat) (x0 : List UInt8) (x1 : Int) : Option (List AV) := D75.run Tryd.prog env (cal75) H75 n [.str x0, .int .i64 x1]

/-! 74: weir/weirref4.digit -/
noncomputable def D74 : FnD := { body := Tryd.f74.body.getD .skip, m := 9, ps := [.val (.int .u8)], fs := [], pv := [], rs := [(2, .val .bool)], ty := [4], own := none, esc := false }
def H74 : Hints where
  loops := fun _ => none
  joins := fun _ => none
noncomputable def cal74 : FuncId → Option Cal := fun _ => none
noncomputable def run74 (n : Nat) (x0 : Int) : Option (List AV) := D74.run Tryd.prog env (cal74) H74 n [.int .u8 x0]

/-! 76: weir/weirref4.decimal -/
noncomputable def D76 : FnD := { body := Tryd.f76.body.getD .skip, m := 45, ps := [.val .str, .val (.int .i64), .val (.int .i64), .val (.int .i64)], fs := [], pv := [], rs := [(8, .val (.int .i64))], ty := [3], own := none, esc := false }
def H76 : Hints where
  loops := fun i => match i with
    | 5 => some ⟨[], [(0, .val .str), (2, .val (.int .i64)), (3, .val (.int .i64)), (9, .val (.int .i64)), (10, .val (.int .i64))], []⟩
    | _ => none
  joins := fun i => match i with
    | 2 => some ⟨[], [(0, .val .str), (1, .val (.int .i64)), (2, .val (.int .i64)), (3, .val (.int .i64)), (26, .val .bool)], []⟩
    | 3 => some ⟨[], [(0, .val .str), (1, .val (.int .i64)), (2, .val (.int .i64)), (3, .val (.int .i64))], []⟩
    | 8 => some ⟨[], [(3, .val (.int .i64)), (9, .val (.int .i64))], []⟩
    | _ => none
noncomputable def cal76 : FuncId → Option Cal := fun _ => none
noncomputable def run76 (n : Nat) (x0 : List UInt8) (x1 : Int) (x2 : Int) (x3 : Int) : Option (List AV) := D76.run Tryd.prog env (cal76) H76 n [.str x0, .int .i64 x1, .int .i64 x2, .int .i64 x3]

/-! 83: weir/weirref4.dotted -/
noncomputable def D83 : FnD := { body := Tryd.f83.body.getD .skip, m := 83, ps := [.val .str, .val (.int .i64)], fs := [], pv := [], rs := [(4, .obj (.row 5 .u8)), (5, .val (.int .i64)), (6, .val (.int .i64))], ty := [97, 3, 3], own := some 0, esc := false }
def H83 : Hints where
  loops := fun i => match i with
    | 2 => some ⟨[], [(0, .val .str), (1, .val (.int .i64)), (7, .obj (.row 5 .u8))], []⟩
    | 4 => some ⟨[], [(0, .val .str), (1, .val (.int .i64)), (7, .obj (.row 5 .u8)), (8, .val (.int .i64))], []⟩
    | _ => none
  joins := fun i => match i with
    | 5 => some ⟨[], [(0, .val .str), (1, .val (.int .i64)), (7, .obj (.row 5 .u8)), (8, .val (.int .i64))], []⟩
    | 6 => some ⟨[], [(0, .val .str), (1, .val (.int .i64)), (7, .obj (.row 5 .u8)), (8, .val (.int .i64))], []⟩
    | 16 => some ⟨[], [(0, .val .str), (1, .val (.int .i64)), (7, .obj (.row 5 .u8)), (66, .val .bool)], []⟩
    | 18 => some ⟨[], [(0, .val .str), (1, .val (.int .i64)), (7, .obj (.row 5 .u8))], []⟩
    | 19 => some ⟨[], [(0, .val .str), (1, .val (.int .i64)), (7, .obj (.row 5 .u8))], []⟩
    | _ => none
noncomputable def cal83 (F74 F75 F76 : Fun) : FuncId → Option Cal := fun f => match f with | 74 => some (mkCal D74 F74) | 75 => some (mkCal D75 F75) | 76 => some (mkCal D76 F76) | _ => none
noncomputable def run83 (F74 F75 F76 : Fun) (n : Nat) (x0 : List UInt8) (x1 : Int) : Option (List AV) := D83.run Tryd.prog env (cal83 F74 F75 F76) H83 n [.str x0, .int .i64 x1]

/-! 87: (*weir/weirref4.six).fail -/
noncomputable def D87 : FnD := { body := Tryd.f87.body.getD .skip, m := 19, ps := [.val (.pt 7), .val (.int .i64), .val (.int .i64)], fs := [fam7], pv := [], rs := [], ty := [], own := none, esc := true }
def H87 : Hints where
  loops := fun _ => none
  joins := fun _ => none
noncomputable def cal87 : FuncId → Option Cal := fun _ => none
noncomputable def run87 (n : Nat) (x0 : Option Nat) (x1 : Int) (x2 : Int) (m7 : List AV) : Option (List AV) := D87.run Tryd.prog env (cal87) H87 n [.pt 7 x0, .int .i64 x1, .int .i64 x2, .tup m7]

/-! 88: weir/weirref4.worth -/
noncomputable def D88 : FnD := { body := Tryd.f88.body.getD .skip, m := 28, ps := [.val (.int .u8)], fs := [], pv := [], rs := [(2, .val (.int .i64))], ty := [3], own := none, esc := false }
def H88 : Hints where
  loops := fun _ => none
  joins := fun i => match i with
    | 4 => some ⟨[], [(0, .val (.int .u8)), (13, .val .bool)], []⟩
    | 5 => some ⟨[], [(0, .val (.int .u8))], []⟩
    | 6 => some ⟨[], [(0, .val (.int .u8)), (23, .val .bool)], []⟩
    | 7 => some ⟨[], [], []⟩
    | _ => none
noncomputable def cal88 (F74 : Fun) : FuncId → Option Cal := fun f => match f with | 74 => some (mkCal D74 F74) | _ => none
noncomputable def run88 (F74 : Fun) (n : Nat) (x0 : Int) : Option (List AV) := D88.run Tryd.prog env (cal88 F74) H88 n [.int .u8 x0]

/-! 89: (*weir/weirref4.six).room -/
noncomputable def D89 : FnD := { body := Tryd.f89.body.getD .skip, m := 8, ps := [.val (.pt 7)], fs := [fam7], pv := [], rs := [(2, .val (.int .i64))], ty := [3], own := none, esc := true }
def H89 : Hints where
  loops := fun _ => none
  joins := fun _ => none
noncomputable def cal89 : FuncId → Option Cal := fun _ => none
noncomputable def run89 (n : Nat) (x0 : Option Nat) (m7 : List AV) : Option (List AV) := D89.run Tryd.prog env (cal89) H89 n [.pt 7 x0, .tup m7]

/-! 85: (*weir/weirref4.six).group -/
noncomputable def D85 : FnD := { body := Tryd.f85.body.getD .skip, m := 205, ps := [.val (.pt 7)], fs := [fam7], pv := [], rs := [(2, .val .bool)], ty := [4], own := none, esc := true }
def H85 : Hints where
  loops := fun i => match i with
    | 3 => some ⟨[fam7], [(0, .val (.pt 7)), (3, .val (.int .i64)), (4, .val (.int .i64))], []⟩
    | _ => none
  joins := fun i => match i with
    | 4 => some ⟨[fam7], [(0, .val (.pt 7)), (3, .val (.int .i64)), (4, .val (.int .i64))], []⟩
    | 6 => some ⟨[fam7], [(0, .val (.pt 7)), (3, .val (.int .i64)), (4, .val (.int .i64))], []⟩
    | 7 => some ⟨[fam7], [(0, .val (.pt 7)), (3, .val (.int .i64)), (4, .val (.int .i64))], []⟩
    | 12 => some ⟨[fam7], [(0, .val (.pt 7)), (3, .val (.int .i64)), (4, .val (.int .i64)), (7, .val .bool)], []⟩
    | 15 => some ⟨[fam7], [(0, .val (.pt 7)), (3, .val (.int .i64)), (4, .val (.int .i64)), (7, .val .bool), (8, .val (.int .i64))], []⟩
    | _ => none
noncomputable def cal85 (F75 F83 F87 F88 F89 : Fun) : FuncId → Option Cal := fun f => match f with | 75 => some (mkCal D75 F75) | 83 => some (mkCal D83 F83) | 87 => some (mkCal D87 F87) | 88 => some (mkCal D88 F88) | 89 => some (calRo D89 F89) | _ => none
noncomputable def run85 (F75 F83 F87 F88 F89 : Fun) (n : Nat) (x0 : Option Nat) (m7 : List AV) : Option (List AV) := D85.run Tryd.prog env (cal85 F75 F83 F87 F88 F89) H85 n [.pt 7 x0, .tup m7]

/-! 86: (*weir/weirref4.six).between -/
noncomputable def D86 : FnD := { body := Tryd.f86.body.getD .skip, m := 88, ps := [.val (.pt 7)], fs := [fam7], pv := [], rs := [(2, .val .bool)], ty := [4], own := none, esc := true }
def H86 : Hints where
  loops := fun _ => none
  joins := fun i => match i with
    | 4 => some ⟨[fam7], [(0, .val (.pt 7)), (3, .val .bool), (19, .val .bool)], []⟩
    | 11 => some ⟨[fam7], [], []⟩
    | _ => none
noncomputable def cal86 (F84 F87 : Fun) : FuncId → Option Cal := fun f => match f with | 84 => some (mkCal D84 F84) | 87 => some (mkCal D87 F87) | _ => none
noncomputable def run86 (F84 F87 : Fun) (n : Nat) (x0 : Option Nat) (m7 : List AV) : Option (List AV) := D86.run Tryd.prog env (cal86 F84 F87) H86 n [.pt 7 x0, .tup m7]

/-! 82: weir/weirref4.sixes -/
noncomputable def D82 : FnD := { body := Tryd.f82.body.getD .skip, m := 143, ps := [.val .str], fs := [], pv := [fam7], rs := [(2, .cell (.arr .u8 16) 22), (3, .val (.int .i64)), (4, .val (.int .i64))], ty := [22, 3, 3], own := none, esc := false }
def H82 : Hints where
  loops := fun i => match i with
    | 9 => some ⟨[fam7], [(0, .val .str), (2, .keep (.box (.arr .u8 16))), (5, .keep (.box (.arr .u8 16))), (6, .val (.pt 7)), (7, .val .bool)], [(2, .ref (.top 2) 0), (5, .ref (.top 5) 0)]⟩
    | 18 => some ⟨[fam7], [(2, .keep (.box (.arr .u8 16))), (5, .keep (.box (.arr .u8 16))), (6, .val (.pt 7)), (9, .val (.int .i64))], [(2, .ref (.top 2) 0), (5, .ref (.top 5) 0)]⟩
    | _ => none
  joins := fun i => match i with
    | 9 => some ⟨[fam7], [(0, .val .str), (2, .keep (.box (.arr .u8 16))), (5, .keep (.box (.arr .u8 16))), (6, .val (.pt 7)), (7, .val .bool)], [(2, .ref (.top 2) 0), (5, .ref (.top 5) 0)]⟩
    | 10 => some ⟨[fam7], [(0, .val .str), (2, .keep (.box (.arr .u8 16))), (5, .keep (.box (.arr .u8 16))), (6, .val (.pt 7))], [(2, .ref (.top 2) 0), (5, .ref (.top 5) 0)]⟩
    | 12 => some ⟨[fam7], [(0, .val .str), (2, .keep (.box (.arr .u8 16))), (5, .keep (.box (.arr .u8 16))), (6, .val (.pt 7)), (7, .val .bool), (45, .val .bool)], [(2, .ref (.top 2) 0), (5, .ref (.top 5) 0)]⟩
    | 13 => some ⟨[fam7], [(0, .val .str), (2, .keep (.box (.arr .u8 16))), (5, .keep (.box (.arr .u8 16))), (6, .val (.pt 7))], [(2, .ref (.top 2) 0), (5, .ref (.top 5) 0)]⟩
    | 14 => some ⟨[fam7], [(0, .val .str), (2, .keep (.box (.arr .u8 16))), (5, .keep (.box (.arr .u8 16))), (6, .val (.pt 7)), (67, .val .bool)], [(2, .ref (.top 2) 0), (5, .ref (.top 5) 0)]⟩
    | 15 => some ⟨[fam7], [(2, .keep (.box (.arr .u8 16))), (5, .keep (.box (.arr .u8 16))), (6, .val (.pt 7))], [(2, .ref (.top 2) 0), (5, .ref (.top 5) 0)]⟩
    | 19 => some ⟨[fam7], [(2, .keep (.box (.arr .u8 16))), (5, .keep (.box (.arr .u8 16))), (6, .val (.pt 7)), (9, .val (.int .i64))], [(2, .ref (.top 2) 0), (5, .ref (.top 5) 0)]⟩
    | 22 => some ⟨[fam7], [(2, .keep (.box (.arr .u8 16))), (5, .keep (.box (.arr .u8 16))), (6, .val (.pt 7)), (9, .val (.int .i64)), (10, .val (.int .i64)), (108, .val .bool)], [(2, .ref (.top 2) 0), (5, .ref (.top 5) 0)]⟩
    | 23 => some ⟨[fam7], [(2, .keep (.box (.arr .u8 16))), (5, .keep (.box (.arr .u8 16))), (6, .val (.pt 7)), (9, .val (.int .i64)), (10, .val (.int .i64))], [(2, .ref (.top 2) 0), (5, .ref (.top 5) 0)]⟩
    | 25 => some ⟨[fam7], [(2, .keep (.box (.arr .u8 16))), (5, .keep (.box (.arr .u8 16)))], [(2, .ref (.top 2) 0), (5, .ref (.top 5) 0)]⟩
    | _ => none
noncomputable def cal82 (F84 F85 F86 F87 : Fun) : FuncId → Option Cal := fun f => match f with | 84 => some (mkCal D84 F84) | 85 => some (mkCal D85 F85) | 86 => some (mkCal D86 F86) | 87 => some (mkCal D87 F87) | _ => none
noncomputable def run82 (F84 F85 F86 F87 : Fun) (n : Nat) (x0 : List UInt8) : Option (List AV) := D82.run Tryd.prog env (cal82 F84 F85 F86 F87) H82 n [.str x0]

/-! 73: weir/weirref4.ParseIP -/
noncomputable def D73 : FnD := { body := Tryd.f73.body.getD .skip, m := 56, ps := [.val .str], fs := [], pv := [], rs := [(2, .cell s24 24), (3, .val (.int .i64)), (4, .val (.int .i64))], ty := [24, 3, 3], own := none, esc := false }
def H73 : Hints where
  loops := fun i => match i with
    | 13 => some ⟨[], [(2, .keep (.box s24)), (8, .obj (.row 5 .u8)), (11, .keep (.box s24)), (12, .val (.int .i64))], [(2, .ref (.top 2) 0), (11, .ref (.top 11) 0)]⟩
    | _ => none
  joins := fun i => match i with
    | 16 => some ⟨[], [(2, .keep (.box s24)), (11, .keep (.box s24))], [(2, .ref (.top 2) 0), (11, .ref (.top 11) 0)]⟩
    | _ => none
noncomputable def cal73 (F81 F82 F83 : Fun) : FuncId → Option Cal := fun f => match f with | 81 => some (mkCal D81 F81) | 82 => some (mkCal D82 F82) | 83 => some (mkCal D83 F83) | _ => none
noncomputable def run73 (F81 F82 F83 : Fun) (n : Nat) (x0 : List UInt8) : Option (List AV) := D73.run Tryd.prog env (cal73 F81 F82 F83) H73 n [.str x0]

/-! 77: weir/weirref4.width -/
noncomputable def D77 : FnD := { body := Tryd.f77.body.getD .skip, m := 6, ps := [.val s24], fs := [], pv := [], rs := [(2, .val (.int .i64))], ty := [3], own := none, esc := false }
def H77 : Hints where
  loops := fun _ => none
  joins := fun _ => none
noncomputable def cal77 : FuncId → Option Cal := fun _ => none
noncomputable def run77 (n : Nat) (x0 : AV) : Option (List AV) := D77.run Tryd.prog env (cal77) H77 n [eta s24 x0]

/-! 79: weir/weirref4.bit -/
noncomputable def D79 : FnD := { body := Tryd.f79.body.getD .skip, m := 23, ps := [.val s24, .val (.int .i64)], fs := [], pv := [], rs := [(4, .val (.int .i64))], ty := [3], own := none, esc := false }
def H79 : Hints where
  loops := fun i => match i with
    | 3 => some ⟨[], [(5, .val (.int .i64)), (6, .val (.int .i64))], []⟩
    | _ => none
  joins := fun i => match i with
    | 6 => some ⟨[], [(5, .val (.int .i64))], []⟩
    | _ => none
noncomputable def cal79 : FuncId → Option Cal := fun _ => none
noncomputable def run79 (n : Nat) (x0 : AV) (x1 : Int) : Option (List AV) := D79.run Tryd.prog env (cal79) H79 n [eta s24 x0, .int .i64 x1]

/-! 78: weir/weirref4.ValidPrefix -/
noncomputable def D78 : FnD := { body := Tryd.f78.body.getD .skip, m := 35, ps := [.val s116], fs := [], pv := [], rs := [(2, .val (.int .i64))], ty := [3], own := none, esc := false }
def H78 : Hints where
  loops := fun i => match i with
    | 8 => some ⟨[], [(1, .keep (.box s116)), (4, .val (.int .i64)), (5, .val (.int .i64))], [(1, .ref (.top 1) 0)]⟩
    | _ => none
  joins := fun i => match i with
    | 6 => some ⟨[], [(1, .keep (.box s116)), (4, .val (.int .i64)), (22, .val .bool)], [(1, .ref (.top 1) 0)]⟩
    | 7 => some ⟨[], [(1, .keep (.box s116)), (4, .val (.int .i64))], [(1, .ref (.top 1) 0)]⟩
    | 12 => some ⟨[], [], []⟩
    | _ => none
noncomputable def cal78 (F50 F77 F79 : Fun) : FuncId → Option Cal := fun f => match f with | 50 => some (mkCal D50 F50) | 77 => some (mkCal D77 F77) | 79 => some (mkCal D79 F79) | _ => none
noncomputable def run78 (F50 F77 F79 : Fun) (n : Nat) (x0 : AV) : Option (List AV) := D78.run Tryd.prog env (cal78 F50 F77 F79) H78 n [eta s116 x0]

/-! 65: weir/weirref4.ParsePrefix -/
noncomputable def D65 : FnD := { body := Tryd.f65.body.getD .skip, m := 103, ps := [.val .str], fs := [], pv := [], rs := [(2, .cell s116 116), (3, .val (.int .i64)), (4, .val (.int .i64))], ty := [116, 3, 3], own := none, esc := false }
def H65 : Hints where
  loops := fun i => match i with
    | 4 => some ⟨[], [(0, .val .str), (2, .keep (.box s116)), (5, .val (.int .i64))], [(2, .ref (.top 2) 0)]⟩
    | 12 => some ⟨[], [(0, .val .str), (2, .keep (.box s116)), (5, .val (.int .i64)), (6, .keep (.box s24)), (9, .val (.int .i64))], [(2, .ref (.top 2) 0), (6, .ref (.top 6) 0)]⟩
    | _ => none
  joins := fun i => match i with
    | 5 => some ⟨[], [(0, .val .str), (2, .keep (.box s116)), (5, .val (.int .i64))], [(2, .ref (.top 2) 0)]⟩
    | 6 => some ⟨[], [(0, .val .str), (2, .keep (.box s116)), (5, .val (.int .i64))], [(2, .ref (.top 2) 0)]⟩
    | 13 => some ⟨[], [(0, .val .str), (2, .keep (.box s116)), (5, .val (.int .i64)), (6, .keep (.box s24)), (9, .val (.int .i64))], [(2, .ref (.top 2) 0), (6, .ref (.top 6) 0)]⟩
    | 14 => some ⟨[], [(0, .val .str), (2, .keep (.box s116)), (5, .val (.int .i64)), (6, .keep (.box s24)), (9, .val (.int .i64))], [(2, .ref (.top 2) 0), (6, .ref (.top 6) 0)]⟩
    | _ => none
noncomputable def cal65 (F73 F74 F75 F76 F77 F78 : Fun) : FuncId → Option Cal := fun f => match f with | 73 => some (mkCal D73 F73) | 74 => some (mkCal D74 F74) | 75 => some (mkCal D75 F75) | 76 => some (mkCal D76 F76) | 77 => some (mkCal D77 F77) | 78 => some (mkCal D78 F78) | _ => none
noncomputable def run65 (F73 F74 F75 F76 F77 F78 : Fun) (n : Nat) (x0 : List UInt8) : Option (List AV) := D65.run Tryd.prog env (cal65 F73 F74 F75 F76 F77 F78) H65 n [.str x0]

/-! 66: weir/weirref4.Contains -/
noncomputable def D66 : FnD := { body := Tryd.f66.body.getD .skip, m := 40, ps := [.val s116, .val s24], fs := [], pv := [], rs := [(4, .val .bool)], ty := [4], own := none, esc := false }
def H66 : Hints where
  loops := fun i => match i with
    | 6 => some ⟨[], [(2, .keep (.box s116)), (3, .keep (.box s24)), (7, .val (.int .i64))], [(2, .ref (.top 2) 0), (3, .ref (.top 3) 0)]⟩
    | _ => none
  joins := fun i => match i with
    | 4 => some ⟨[], [(2, .keep (.box s116)), (3, .keep (.box s24)), (25, .val .bool)], [(2, .ref (.top 2) 0), (3, .ref (.top 3) 0)]⟩
    | 5 => some ⟨[], [(2, .keep (.box s116)), (3, .keep (.box s24))], [(2, .ref (.top 2) 0), (3, .ref (.top 3) 0)]⟩
    | 10 => some ⟨[], [], []⟩
    | _ => none
noncomputable def cal66 (F50 F78 F79 : Fun) : FuncId → Option Cal := fun f => match f with | 50 => some (mkCal D50 F50) | 78 => some (mkCal D78 F78) | 79 => some (mkCal D79 F79) | _ => none
noncomputable def run66 (F50 F78 F79 : Fun) (n : Nat) (x0 : AV) (x1 : AV) : Option (List AV) := D66.run Tryd.prog env (cal66 F50 F78 F79) H66 n [eta s116 x0, eta s24 x1]

/-! 51: weir/weirref4.of -/
noncomputable def D51 : FnD := { body := Tryd.f51.body.getD .skip, m := 17, ps := [.val .str, .val s24], fs := [], pv := [], rs := [(4, .val .bool)], ty := [4], own := none, esc := false }
def H51 : Hints where
  loops := fun _ => none
  joins := fun _ => none
noncomputable def cal51 (F65 F66 : Fun) : FuncId → Option Cal := fun f => match f with | 65 => some (mkCal D65 F65) | 66 => some (mkCal D66 F66) | _ => none
noncomputable def run51 (F65 F66 : Fun) (n : Nat) (x0 : List UInt8) (x1 : AV) : Option (List AV) := D51.run Tryd.prog env (cal51 F65 F66) H51 n [.str x0, eta s24 x1]

/-! 39: weir/weirref4.Class -/
noncomputable def D39 : FnD := { body := Tryd.f39.body.getD .skip, m := 51, ps := [.val s24], fs := [], pv := [], rs := [(2, .val (.int .i64))], ty := [3], own := none, esc := false }
def H39 : Hints where
  loops := fun _ => none
  joins := fun i => match i with
    | 5 => some ⟨[], [(1, .keep (.box s24)), (9, .val .bool)], [(1, .ref (.top 1) 0)]⟩
    | 7 => some ⟨[], [(1, .keep (.box s24)), (16, .val .bool)], [(1, .ref (.top 1) 0)]⟩
    | 9 => some ⟨[], [(1, .keep (.box s24)), (23, .val .bool)], [(1, .ref (.top 1) 0)]⟩
    | 11 => some ⟨[], [(1, .keep (.box s24)), (30, .val .bool)], [(1, .ref (.top 1) 0)]⟩
    | 15 => some ⟨[], [(40, .val .bool)], []⟩
    | 16 => some ⟨[], [], []⟩
    | _ => none
noncomputable def cal39 (F50 F51 : Fun) : FuncId → Option Cal := fun f => match f with | 50 => some (mkCal D50 F50) | 51 => some (mkCal D51 F51) | _ => none
noncomputable def run39 (F50 F51 : Fun) (n : Nat) (x0 : AV) : Option (List AV) := D39.run Tryd.prog env (cal39 F50 F51) H39 n [eta s24 x0]

/-! 40: weir/weirref17.age -/
noncomputable def D40 : FnD := { body := Tryd.f40.body.getD .skip, m := 9, ps := [.val (.int .i64)], fs := [], pv := [], rs := [(2, .val .bool)], ty := [4], own := none, esc := false }
def H40 : Hints where
  loops := fun _ => none
  joins := fun _ => none
noncomputable def cal40 : FuncId → Option Cal := fun _ => none
noncomputable def run40 (n : Nat) (x0 : Int) : Option (List AV) := D40.run Tryd.prog env (cal40) H40 n [.int .i64 x0]

/-! 23: weir/weirref17.New -/
noncomputable def D23 : FnD := { body := Tryd.f23.body.getD .skip, m := 79, ps := [.val s26], fs := [], pv := [], rs := [(2, .cell s59 59), (3, .val (.int .i64))], ty := [59, 3], own := none, esc := true }
def H23 : Hints where
  loops := fun _ => none
  joins := fun i => match i with
    | 3 => some ⟨[], [(1, .keep (.box s26)), (2, .keep (.box s59)), (46, .val .bool)], [(1, .ref (.top 1) 0), (2, .ref (.top 2) 0)]⟩
    | 4 => some ⟨[], [(1, .keep (.box s26)), (2, .keep (.box s59))], [(1, .ref (.top 1) 0), (2, .ref (.top 2) 0)]⟩
    | 5 => some ⟨[], [(1, .keep (.box s26)), (2, .keep (.box s59)), (75, .val .bool)], [(1, .ref (.top 1) 0), (2, .ref (.top 2) 0)]⟩
    | 6 => some ⟨[], [(1, .keep (.box s26)), (2, .keep (.box s59))], [(1, .ref (.top 1) 0), (2, .ref (.top 2) 0)]⟩
    | _ => none
noncomputable def cal23 (F39 F40 : Fun) : FuncId → Option Cal := fun f => match f with | 39 => some (mkCal D39 F39) | 40 => some (mkCal D40 F40) | _ => none
noncomputable def run23 (F39 F40 : Fun) (n : Nat) (x0 : AV) : Option (List AV) := D23.run Tryd.prog env (cal23 F39 F40) H23 n [eta s26 x0]

/-! 8: weir/weirlaw17.table -/
noncomputable def D8 : FnD := { body := Tryd.f8.body.getD .skip, m := 23, ps := [.val s26], fs := [fam1, fam2, fam3, fam4], pv := [], rs := [(2, .val (.pt 2)), (3, .cell s26 26)], ty := [28, 26], own := none, esc := false }
def H8 : Hints where
  loops := fun _ => none
  joins := fun i => match i with
    | 4 => some ⟨[fam1, fam2, fam3, fam4], [(1, .keep (.box s26)), (3, .keep (.box s26))], [(1, .ref (.top 1) 0), (3, .ref (.top 3) 0)]⟩
    | _ => none
noncomputable def cal8 (F20 F21 F23 : Fun) : FuncId → Option Cal := fun f => match f with | 20 => some (mkCal D20 F20) | 21 => some (mkCal D21 F21) | 23 => some (mkCal D23 F23) | _ => none
noncomputable def run8 (F20 F21 F23 : Fun) (n : Nat) (x0 : AV) (m1 : List AV) (m2 : List AV) (m3 : List AV) (m4 : List AV) : Option (List AV) := D8.run Tryd.prog env (cal8 F20 F21 F23) H8 n [eta s26 x0, .tup m1, .tup m2, .tup m3, .tup m4]

/-! 10: (*weir/flow.Table).Len -/
noncomputable def D10 : FnD := { body := Tryd.f10.body.getD .skip, m := 8, ps := [.val (.pt 2)], fs := [fam1, fam2, fam3, fam4], pv := [], rs := [(2, .val (.int .i64))], ty := [3], own := none, esc := false }
def H10 : Hints where
  loops := fun _ => none
  joins := fun _ => none
noncomputable def cal10 : FuncId → Option Cal := fun _ => none
noncomputable def run10 (n : Nat) (x0 : Option Nat) (m1 : List AV) (m2 : List AV) (m3 : List AV) (m4 : List AV) : Option (List AV) := D10.run Tryd.prog env (cal10) H10 n [.pt 2 x0, .tup m1, .tup m2, .tup m3, .tup m4]

/-! 13: weir/packet.Reverse -/
noncomputable def D13 : FnD := { body := Tryd.f13.body.getD .skip, m := 16, ps := [.val s34], fs := [], pv := [], rs := [(2, .cell s34 34)], ty := [34], own := none, esc := false }
def H13 : Hints where
  loops := fun _ => none
  joins := fun _ => none
noncomputable def cal13 : FuncId → Option Cal := fun _ => none
noncomputable def run13 (n : Nat) (x0 : AV) : Option (List AV) := D13.run Tryd.prog env (cal13) H13 n [eta s34 x0]

/-! 28: weir/flow.isEcho -/
noncomputable def D28 : FnD := { body := Tryd.f28.body.getD .skip, m := 23, ps := [.val s34], fs := [], pv := [], rs := [(2, .val .bool)], ty := [4], own := none, esc := false }
def H28 : Hints where
  loops := fun _ => none
  joins := fun _ => none
noncomputable def cal28 : FuncId → Option Cal := fun _ => none
noncomputable def run28 (n : Nat) (x0 : AV) : Option (List AV) := D28.run Tryd.prog env (cal28) H28 n [eta s34 x0]

/-! 41: weir/flow.isTuple -/
noncomputable def D41 : FnD := { body := Tryd.f41.body.getD .skip, m := 40, ps := [.val s34], fs := [], pv := [], rs := [(2, .val .bool)], ty := [4], own := none, esc := false }
def H41 : Hints where
  loops := fun _ => none
  joins := fun _ => none
noncomputable def cal41 (F49 : Fun) : FuncId → Option Cal := fun f => match f with | 49 => some (mkCal D49 F49) | _ => none
noncomputable def run41 (F49 : Fun) (n : Nat) (x0 : AV) : Option (List AV) := D41.run Tryd.prog env (cal41 F49) H41 n [eta s34 x0]

/-! 24: weir/flow.judge -/
noncomputable def D24 : FnD := { body := Tryd.f24.body.getD .skip, m := 19, ps := [.val s34], fs := [], pv := [], rs := [(2, .val (.int .i64))], ty := [38], own := none, esc := false }
def H24 : Hints where
  loops := fun _ => none
  joins := fun i => match i with
    | 4 => some ⟨[], [(18, .val .bool)], []⟩
    | 5 => some ⟨[], [], []⟩
    | _ => none
noncomputable def cal24 (F28 F41 : Fun) : FuncId → Option Cal := fun f => match f with | 28 => some (mkCal D28 F28) | 41 => some (mkCal D41 F41) | _ => none
noncomputable def run24 (F28 F41 : Fun) (n : Nat) (x0 : AV) : Option (List AV) := D24.run Tryd.prog env (cal24 F28 F41) H24 n [eta s34 x0]

/-! 25: (*weir/flow.Table).outside -/
noncomputable def D25 : FnD := { body := Tryd.f25.body.getD .skip, m := 22, ps := [.val (.pt 2), .val s48], fs := [fam1, fam2, fam3, fam4], pv := [], rs := [(4, .cell s34 34)], ty := [34], own := none, esc := false }
def H25 : Hints where
  loops := fun _ => none
  joins := fun i => match i with
    | 4 => some ⟨[fam1, fam2, fam3, fam4], [(3, .keep (.box s48)), (4, .keep (.box s34)), (5, .keep (.box s34))], [(3, .ref (.top 3) 0), (4, .ref (.top 4) 0), (5, .ref (.top 5) 0)]⟩
    | _ => none
noncomputable def cal25 : FuncId → Option Cal := fun _ => none
noncomputable def run25 (n : Nat) (x0 : Option Nat) (x1 : AV) (m1 : List AV) (m2 : List AV) (m3 : List AV) (m4 : List AV) : Option (List AV) := D25.run Tryd.prog env (cal25) H25 n [.pt 2 x0, eta s48 x1, .tup m1, .tup m2, .tup m3, .tup m4]

/-! 42: weir/flow.segment$1 -/
noncomputable def D42 : FnD := { body := Tryd.f42.body.getD .skip, m := 8, ps := [.val (.int .i64), .io (.int .i64)], fs := [], pv := [], rs := [(3, .val .bool)], ty := [4], own := none, esc := false }
def H42 : Hints where
  loops := fun _ => none
  joins := fun _ => none
noncomputable def cal42 : FuncId → Option Cal := fun _ => none
noncomputable def run42 (n : Nat) (x0 : Int) (x1 : Int) : Option (List AV) := D42.run Tryd.prog env (cal42) H42 n [.int .i64 x0, .int .i64 x1]

/-! 27: weir/flow.segment -/
noncomputable def D27 : FnD := { body := Tryd.f27.body.getD .skip, m := 28, ps := [.val (.int .i64)], fs := [], pv := [], rs := [(2, .val (.int .i64))], ty := [3], own := none, esc := false }
def H27 : Hints where
  loops := fun _ => none
  joins := fun i => match i with
    | 5 => some ⟨[], [(1, .keep (.box (.int .i64))), (8, .val .bool)], [(3, .clo 42 [.ref (.top 1) 0])]⟩
    | 7 => some ⟨[], [(1, .keep (.box (.int .i64))), (15, .val .bool)], [(3, .clo 42 [.ref (.top 1) 0])]⟩
    | 12 => some ⟨[], [], []⟩
    | _ => none
noncomputable def cal27 (F42 : Fun) : FuncId → Option Cal := fun f => match f with | 42 => some (mkCal D42 F42) | _ => none
noncomputable def run27 (F42 : Fun) (n : Nat) (x0 : Int) : Option (List AV) := D27.run Tryd.prog env (cal27 F42) H27 n [.int .i64 x0]

/-! 30: (*weir/flow.Table).time -/
noncomputable def D30 : FnD := { body := Tryd.f30.body.getD .skip, m := 45, ps := [.val (.pt 2), .val s48], fs := [fam1, fam2, fam3, fam4], pv := [], rs := [(4, .val (.int .i64))], ty := [3], own := none, esc := false }
def H30 : Hints where
  loops := fun _ => none
  joins := fun i => match i with
    | 4 => some ⟨[fam1, fam2, fam3, fam4], [(0, .val (.pt 2)), (3, .keep (.box s48)), (6, .val (.int .i64)), (7, .val .bool)], [(3, .ref (.top 3) 0)]⟩
    | 10 => some ⟨[fam1, fam2, fam3, fam4], [(0, .val (.pt 2)), (3, .keep (.box s48)), (22, .val .bool)], [(3, .ref (.top 3) 0)]⟩
    | 11 => some ⟨[fam1, fam2, fam3, fam4], [(0, .val (.pt 2)), (3, .keep (.box s48))], [(3, .ref (.top 3) 0)]⟩
    | _ => none
noncomputable def cal30 : FuncId → Option Cal := fun _ => none
noncomputable def run30 (n : Nat) (x0 : Option Nat) (x1 : AV) (m1 : List AV) (m2 : List AV) (m3 : List AV) (m4 : List AV) : Option (List AV) := D30.run Tryd.prog env (cal30) H30 n [.pt 2 x0, eta s48 x1, .tup m1, .tup m2, .tup m3, .tup m4]

/-! 37: (*weir/flow.Table).end -/
noncomputable def D37 : FnD := { body := Tryd.f37.body.getD .skip, m := 18, ps := [.val (.pt 2), .val s48], fs := [fam1, fam2, fam3, fam4], pv := [], rs := [], ty := [], own := none, esc := false }
def H37 : Hints where
  loops := fun _ => none
  joins := fun _ => none
noncomputable def cal37 (F13 F25 : Fun) : FuncId → Option Cal := fun f => match f with | 13 => some (mkCal D13 F13) | 25 => some (calRo D25 F25) | _ => none
noncomputable def run37 (F13 F25 : Fun) (n : Nat) (x0 : Option Nat) (x1 : AV) (m1 : List AV) (m2 : List AV) (m3 : List AV) (m4 : List AV) : Option (List AV) := D37.run Tryd.prog env (cal37 F13 F25) H37 n [.pt 2 x0, eta s48 x1, .tup m1, .tup m2, .tup m3, .tup m4]

/-! 26: (*weir/flow.Table).goes -/
noncomputable def D26 : FnD := { body := Tryd.f26.body.getD .skip, m := 57, ps := [.val (.pt 2), .val (.pt 1), .val (.int .i64), .val .bool], fs := [fam1, fam2, fam3, fam4], pv := [], rs := [(8, .val .bool)], ty := [4], own := none, esc := false }
def H26 : Hints where
  loops := fun _ => none
  joins := fun i => match i with
    | 9 => some ⟨[fam1, fam2, fam3, fam4], [(0, .val (.pt 2)), (1, .val (.pt 1)), (10, .val (.int .i64))], []⟩
    | 12 => some ⟨[fam1, fam2, fam3, fam4], [(0, .val (.pt 2)), (1, .val (.pt 1))], []⟩
    | _ => none
noncomputable def cal26 (F27 F30 F37 : Fun) : FuncId → Option Cal := fun f => match f with | 27 => some (mkCal D27 F27) | 30 => some (calRo D30 F30) | 37 => some (mkCal D37 F37) | _ => none
noncomputable def run26 (F27 F30 F37 : Fun) (n : Nat) (x0 : Option Nat) (x1 : Option Nat) (x2 : Int) (x3 : Bool) (m1 : List AV) (m2 : List AV) (m3 : List AV) (m4 : List AV) : Option (List AV) := D26.run Tryd.prog env (cal26 F27 F30 F37) H26 n [.pt 2 x0, .pt 1 x1, .int .i64 x2, .bool x3, .tup m1, .tup m2, .tup m3, .tup m4]

/-! 43: (*weir/flow.Table).free -/
noncomputable def D43 : FnD := { body := Tryd.f43.body.getD .skip, m := 42, ps := [.val (.pt 2), .val (.int .i64), .val (.int .i64)], fs := [fam1, fam2, fam3, fam4], pv := [], rs := [(6, .val .bool)], ty := [4], own := none, esc := false }
def H43 : Hints where
  loops := fun i => match i with
    | 2 => some ⟨[fam1, fam2, fam3, fam4], [(1, .val (.int .i64)), (2, .val (.int .i64)), (13, .keep (.iter 3))], [(13, .ref (.top 13) 0)]⟩
    | _ => none
  joins := fun i => match i with
    | 5 => some ⟨[fam1, fam2, fam3, fam4], [(1, .val (.int .i64)), (2, .val (.int .i64)), (13, .keep (.iter 3)), (41, .val .bool)], [(13, .ref (.top 13) 0)]⟩
    | 6 => some ⟨[fam1, fam2, fam3, fam4], [], []⟩
    | _ => none
noncomputable def cal43 : FuncId → Option Cal := fun _ => none
noncomputable def run43 (n : Nat) (x0 : Option Nat) (x1 : Int) (x2 : Int) (m1 : List AV) (m2 : List AV) (m3 : List AV) (m4 : List AV) : Option (List AV) := D43.run Tryd.prog env (cal43) H43 n [.pt 2 x0, .int .i64 x1, .int .i64 x2, .tup m1, .tup m2, .tup m3, .tup m4]

/-! 29: (*weir/flow.Table).port -/
noncomputable def D29 : FnD := { body := Tryd.f29.body.getD .skip, m := 102, ps := [.val (.pt 2), .val s34], fs := [fam1, fam2, fam3, fam4], pv := [fam5], rs := [(4, .val (.int .i64)), (5, .val .bool)], ty := [3, 4], own := none, esc := false }
def H29 : Hints where
  loops := fun i => match i with
    | 5 => some ⟨[fam1, fam2, fam3, fam4, fam5], [(0, .val (.pt 2)), (3, .keep (.box s34)), (6, .val (.mp 5)), (51, .keep (.iter 3))], [(3, .ref (.top 3) 0), (51, .ref (.top 51) 0)]⟩
    | 10 => some ⟨[fam1, fam2, fam3, fam4, fam5], [(0, .val (.pt 2)), (6, .val (.mp 5)), (9, .val (.int .i64))], []⟩
    | _ => none
  joins := fun i => match i with
    | 2 => some ⟨[fam1, fam2, fam3, fam4, fam5], [(0, .val (.pt 2)), (3, .keep (.box s34)), (43, .val .bool)], [(3, .ref (.top 3) 0)]⟩
    | 3 => some ⟨[fam1, fam2, fam3, fam4, fam5], [(0, .val (.pt 2)), (3, .keep (.box s34))], [(3, .ref (.top 3) 0)]⟩
    | 8 => some ⟨[fam1, fam2, fam3, fam4, fam5], [(0, .val (.pt 2)), (3, .keep (.box s34)), (6, .val (.mp 5)), (8, .val (.pt 1)), (51, .keep (.iter 3)), (72, .val .bool)], [(3, .ref (.top 3) 0), (51, .ref (.top 51) 0)]⟩
    | _ => none
noncomputable def cal29 (F43 : Fun) : FuncId → Option Cal := fun f => match f with | 43 => some (mkCal D43 F43) | _ => none
noncomputable def run29 (F43 : Fun) (n : Nat) (x0 : Option Nat) (x1 : AV) (m1 : List AV) (m2 : List AV) (m3 : List AV) (m4 : List AV) : Option (List AV) := D29.run Tryd.prog env (cal29 F43) H29 n [.pt 2 x0, eta s34 x1, .tup m1, .tup m2, .tup m3, .tup m4]

/-! 11: (*weir/flow.Table).Out -/
noncomputable def D11 : FnD := { body := Tryd.f11.body.getD .skip, m := 132, ps := [.val (.pt 2), .val s34, .val (.int .i64)], fs := [fam1, fam2, fam3, fam4], pv := [], rs := [(6, .cell s34 34), (7, .val (.int .i64))], ty := [34, 38], own := none, esc := false }
def H11 : Hints where
  loops := fun _ => none
  joins := fun i => match i with
    | 13 => some ⟨[fam1, fam2, fam3, fam4], [(0, .val (.pt 2)), (4, .keep (.box s34)), (6, .keep (.box s34)), (12, .val (.pt 1))], [(4, .ref (.top 4) 0), (6, .ref (.top 6) 0)]⟩
    | 14 => some ⟨[fam1, fam2, fam3, fam4], [(0, .val (.pt 2)), (4, .keep (.box s34)), (6, .keep (.box s34)), (12, .val (.pt 1)), (75, .val .bool)], [(4, .ref (.top 4) 0), (6, .ref (.top 6) 0)]⟩
    | 15 => some ⟨[fam1, fam2, fam3, fam4], [(0, .val (.pt 2)), (4, .keep (.box s34)), (6, .keep (.box s34)), (12, .val (.pt 1))], [(4, .ref (.top 4) 0), (6, .ref (.top 6) 0)]⟩
    | _ => none
noncomputable def cal11 (F13 F24 F25 F26 F27 F28 F29 F30 : Fun) : FuncId → Option Cal := fun f => match f with | 13 => some (mkCal D13 F13) | 24 => some (mkCal D24 F24) | 25 => some (calRo D25 F25) | 26 => some (mkCal D26 F26) | 27 => some (mkCal D27 F27) | 28 => some (mkCal D28 F28) | 29 => some (mkCal D29 F29) | 30 => some (calRo D30 F30) | _ => none
noncomputable def run11 (F13 F24 F25 F26 F27 F28 F29 F30 : Fun) (n : Nat) (x0 : Option Nat) (x1 : AV) (x2 : Int) (m1 : List AV) (m2 : List AV) (m3 : List AV) (m4 : List AV) : Option (List AV) := D11.run Tryd.prog env (cal11 F13 F24 F25 F26 F27 F28 F29 F30) H11 n [.pt 2 x0, eta s34 x1, .int .i64 x2, .tup m1, .tup m2, .tup m3, .tup m4]

/-! 12: (*weir/flow.Table).In -/
noncomputable def D12 : FnD := { body := Tryd.f12.body.getD .skip, m := 42, ps := [.val (.pt 2), .val s34, .val (.int .i64)], fs := [fam1, fam2, fam3, fam4], pv := [], rs := [(6, .cell s34 34), (7, .val (.int .i64))], ty := [34, 38], own := none, esc := false }
def H12 : Hints where
  loops := fun _ => none
  joins := fun _ => none
noncomputable def cal12 (F13 F24 F26 : Fun) : FuncId → Option Cal := fun f => match f with | 13 => some (mkCal D13 F13) | 24 => some (mkCal D24 F24) | 26 => some (mkCal D26 F26) | _ => none
noncomputable def run12 (F13 F24 F26 : Fun) (n : Nat) (x0 : Option Nat) (x1 : AV) (x2 : Int) (m1 : List AV) (m2 : List AV) (m3 : List AV) (m4 : List AV) : Option (List AV) := D12.run Tryd.prog env (cal12 F13 F24 F26) H12 n [.pt 2 x0, eta s34 x1, .int .i64 x2, .tup m1, .tup m2, .tup m3, .tup m4]

/-! 36: weir/weirlaw17.in4 -/
noncomputable def D36 : FnD := { body := Tryd.f36.body.getD .skip, m := 6, ps := [.val (.int .u8)], fs := [], pv := [], rs := [(2, .cell s24 24)], ty := [24], own := none, esc := false }
def H36 : Hints where
  loops := fun _ => none
  joins := fun _ => none
noncomputable def cal36 : FuncId → Option Cal := fun _ => none
noncomputable def run36 (n : Nat) (x0 : Int) : Option (List AV) := D36.run Tryd.prog env (cal36) H36 n [.int .u8 x0]

/-! 17: weir/weirlaw17.ask0 -/
noncomputable def D17 : FnD := { body := Tryd.f17.body.getD .skip, m := 5, ps := [], fs := [], pv := [], rs := [(0, .cell s34 34)], ty := [34], own := none, esc := false }
def H17 : Hints where
  loops := fun _ => none
  joins := fun _ => none
noncomputable def cal17 (F36 : Fun) : FuncId → Option Cal := fun f => match f with | 36 => some (mkCal D36 F36) | _ => none
noncomputable def run17 (F36 : Fun) (n : Nat) : Option (List AV) := D17.run Tryd.prog env (cal17 F36) H17 n []

/-! 9: weir/weirlaw17.begun -/
noncomputable def D9 : FnD := { body := Tryd.f9.body.getD .skip, m := 52, ps := [], fs := [], pv := [fam1, fam2, fam3, fam4], rs := [(0, .val .bool)], ty := [4], own := none, esc := false }
def H9 : Hints where
  loops := fun _ => none
  joins := fun i => match i with
    | 3 => some ⟨[fam1, fam2, fam3, fam4], [(1, .val (.pt 2)), (16, .val .bool)], []⟩
    | 4 => some ⟨[fam1, fam2, fam3, fam4], [(1, .val (.pt 2))], []⟩
    | _ => none
noncomputable def cal9 (F10 F11 F12 F13 F17 F20 F21 : Fun) : FuncId → Option Cal := fun f => match f with | 10 => some (calRo D10 F10) | 11 => some (mkCal D11 F11) | 12 => some (mkCal D12 F12) | 13 => some (mkCal D13 F13) | 17 => some (mkCal D17 F17) | 20 => some (mkCal D20 F20) | 21 => some (mkCal D21 F21) | _ => none
noncomputable def run9 (F10 F11 F12 F13 F17 F20 F21 : Fun) (n : Nat) : Option (List AV) := D9.run Tryd.prog env (cal9 F10 F11 F12 F13 F17 F20 F21) H9 n []

/-! 18: (*weir/flow.Table).Tick -/
noncomputable def D18 : FnD := { body := Tryd.f18.body.getD .skip, m := 35, ps := [.val (.pt 2)], fs := [fam1, fam2, fam3, fam4], pv := [], rs := [(2, .val (.int .i64))], ty := [3], own := none, esc := false }
def H18 : Hints where
  loops := fun i => match i with
    | 3 => some ⟨[fam1, fam2, fam3, fam4], [(0, .val (.pt 2)), (3, .val (.int .i64)), (10, .keep (.iter 3))], [(10, .ref (.top 10) 0)]⟩
    | _ => none
  joins := fun i => match i with
    | 9 => some ⟨[fam1, fam2, fam3, fam4], [(3, .val (.int .i64))], []⟩
    | _ => none
noncomputable def cal18 (F37 : Fun) : FuncId → Option Cal := fun f => match f with | 37 => some (mkCal D37 F37) | _ => none
noncomputable def run18 (F37 : Fun) (n : Nat) (x0 : Option Nat) (m1 : List AV) (m2 : List AV) (m3 : List AV) (m4 : List AV) : Option (List AV) := D18.run Tryd.prog env (cal18 F37) H18 n [.pt 2 x0, .tup m1, .tup m2, .tup m3, .tup m4]

/-! 14: weir/weirlaw17.runs -/
noncomputable def D14 : FnD := { body := Tryd.f14.body.getD .skip, m := 58, ps := [.val (.pt 2), .val s36, .val s34], fs := [fam1, fam2, fam3, fam4], pv := [], rs := [(6, .cell s34 34), (7, .val .bool)], ty := [34, 4], own := none, esc := false }
def H14 : Hints where
  loops := fun i => match i with
    | 12 => some ⟨[fam1, fam2, fam3, fam4], [(0, .val (.pt 2)), (4, .keep (.box s36)), (5, .keep (.box s34)), (6, .keep (.box s34)), (10, .val (.int .i64))], [(4, .ref (.top 4) 0), (5, .ref (.top 5) 0), (6, .ref (.top 6) 0)]⟩
    | _ => none
  joins := fun i => match i with
    | 14 => some ⟨[fam1, fam2, fam3, fam4], [(0, .val (.pt 2)), (4, .keep (.box s36)), (5, .keep (.box s34)), (6, .keep (.box s34)), (10, .val (.int .i64))], [(4, .ref (.top 4) 0), (5, .ref (.top 5) 0), (6, .ref (.top 6) 0)]⟩
    | 15 => some ⟨[fam1, fam2, fam3, fam4], [(5, .keep (.box s34)), (6, .keep (.box s34))], [(5, .ref (.top 5) 0), (6, .ref (.top 6) 0)]⟩
    | _ => none
noncomputable def cal14 (F11 F12 F13 F18 : Fun) : FuncId → Option Cal := fun f => match f with | 11 => some (mkCal D11 F11) | 12 => some (mkCal D12 F12) | 13 => some (mkCal D13 F13) | 18 => some (mkCal D18 F18) | _ => none
noncomputable def run14 (F11 F12 F13 F18 : Fun) (n : Nat) (x0 : Option Nat) (x1 : AV) (x2 : AV) (m1 : List AV) (m2 : List AV) (m3 : List AV) (m4 : List AV) : Option (List AV) := D14.run Tryd.prog env (cal14 F11 F12 F13 F18) H14 n [.pt 2 x0, eta s36 x1, eta s34 x2, .tup m1, .tup m2, .tup m3, .tup m4]

/-! 3: weir/weirlaw17.FlowBack -/
noncomputable def D3 : FnD := { body := Tryd.f3.body.getD .skip, m := 181, ps := [.val s26, .val (.fv s36)], fs := [], pv := [fam1, fam2, fam3, fam4], rs := [(4, .val .bool)], ty := [4], own := none, esc := false }
def H3 : Hints where
  loops := fun i => match i with
    | 7 => some ⟨[fam1, fam2, fam3, fam4], [(1, .val (.fv s36)), (5, .val (.pt 2)), (7, .obj (.rows 34 s34)), (8, .keep (.box s34)), (9, .val (.int .i64))], [(8, .ref (.top 8) 0)]⟩
    | 33 => some ⟨[fam1, fam2, fam3, fam4], [(1, .val (.fv s36)), (5, .val (.pt 2)), (7, .obj (.rows 34 s34)), (8, .keep (.box s34)), (9, .val (.int .i64)), (16, .keep (.box s34)), (18, .val .bool), (19, .val (.int .i64))], [(8, .ref (.top 8) 0), (16, .ref (.top 16) 0)]⟩
    | _ => none
  joins := fun i => match i with
    | 3 => some ⟨[fam1, fam2, fam3, fam4], [(1, .val (.fv s36)), (5, .val (.pt 2)), (30, .val .bool)], []⟩
    | 4 => some ⟨[fam1, fam2, fam3, fam4], [(1, .val (.fv s36)), (5, .val (.pt 2))], []⟩
    | 8 => some ⟨[fam1, fam2, fam3, fam4], [(1, .val (.fv s36)), (5, .val (.pt 2)), (7, .obj (.rows 34 s34)), (8, .keep (.box s34)), (9, .val (.int .i64))], [(8, .ref (.top 8) 0)]⟩
    | 9 => some ⟨[fam1, fam2, fam3, fam4], [(1, .val (.fv s36)), (5, .val (.pt 2)), (7, .obj (.rows 34 s34)), (8, .keep (.box s34)), (9, .val (.int .i64))], [(8, .ref (.top 8) 0)]⟩
    | 16 => some ⟨[fam1, fam2, fam3, fam4], [(1, .val (.fv s36)), (5, .val (.pt 2)), (7, .obj (.rows 34 s34)), (8, .keep (.box s34)), (9, .val (.int .i64)), (70, .val .bool)], [(8, .ref (.top 8) 0)]⟩
    | 20 => some ⟨[fam1, fam2, fam3, fam4], [(1, .val (.fv s36)), (5, .val (.pt 2)), (7, .obj (.rows 34 s34)), (8, .keep (.box s34)), (9, .val (.int .i64)), (10, .keep (.box s36)), (12, .keep (.box s34))], [(8, .ref (.top 8) 0), (10, .ref (.top 10) 0), (12, .ref (.top 12) 0)]⟩
    | 22 => some ⟨[fam1, fam2, fam3, fam4], [(1, .val (.fv s36)), (5, .val (.pt 2)), (7, .obj (.rows 34 s34)), (8, .keep (.box s34)), (9, .val (.int .i64)), (114, .val .bool)], [(8, .ref (.top 8) 0)]⟩
    | 25 => some ⟨[fam1, fam2, fam3, fam4], [(1, .val (.fv s36)), (5, .val (.pt 2)), (7, .obj (.rows 34 s34)), (8, .keep (.box s34)), (9, .val (.int .i64)), (10, .keep (.box s36)), (11, .val (.int .i64)), (48, .val (.int .i64)), (115, .val .bool)], [(8, .ref (.top 8) 0), (10, .ref (.top 10) 0)]⟩
    | 28 => some ⟨[fam1, fam2, fam3, fam4], [(1, .val (.fv s36)), (5, .val (.pt 2)), (7, .obj (.rows 34 s34)), (8, .keep (.box s34)), (9, .val (.int .i64)), (10, .keep (.box s36)), (11, .val (.int .i64)), (15, .keep (.box s34))], [(8, .ref (.top 8) 0), (10, .ref (.top 10) 0), (15, .ref (.top 15) 0)]⟩
    | 30 => some ⟨[fam1, fam2, fam3, fam4], [(1, .val (.fv s36)), (5, .val (.pt 2)), (7, .obj (.rows 34 s34)), (8, .keep (.box s34)), (9, .val (.int .i64)), (16, .keep (.box s34)), (17, .val (.int .i64)), (151, .val .bool)], [(8, .ref (.top 8) 0), (16, .ref (.top 16) 0)]⟩
    | 31 => some ⟨[fam1, fam2, fam3, fam4], [(1, .val (.fv s36)), (5, .val (.pt 2)), (7, .obj (.rows 34 s34)), (8, .keep (.box s34)), (9, .val (.int .i64)), (16, .keep (.box s34)), (17, .val (.int .i64))], [(8, .ref (.top 8) 0), (16, .ref (.top 16) 0)]⟩
    | 34 => some ⟨[fam1, fam2, fam3, fam4], [(1, .val (.fv s36)), (5, .val (.pt 2)), (7, .obj (.rows 34 s34)), (8, .keep (.box s34)), (9, .val (.int .i64)), (16, .keep (.box s34)), (18, .val .bool), (19, .val (.int .i64))], [(8, .ref (.top 8) 0), (16, .ref (.top 16) 0)]⟩
    | 36 => some ⟨[fam1, fam2, fam3, fam4], [(1, .val (.fv s36)), (5, .val (.pt 2)), (7, .obj (.rows 34 s34)), (8, .keep (.box s34)), (9, .val (.int .i64)), (18, .val .bool)], [(8, .ref (.top 8) 0)]⟩
    | 40 => some ⟨[fam1, fam2, fam3, fam4], [], []⟩
    | _ => none
noncomputable def cal3 (F8 F9 F10 F11 F12 F13 F14 : Fun) : FuncId → Option Cal := fun f => match f with | 8 => some (mkCal D8 F8) | 9 => some (mkCal D9 F9) | 10 => some (calRo D10 F10) | 11 => some (mkCal D11 F11) | 12 => some (mkCal D12 F12) | 13 => some (mkCal D13 F13) | 14 => some (mkCal D14 F14) | _ => none
noncomputable def run3 (F8 F9 F10 F11 F12 F13 F14 : Fun) (n : Nat) (x0 : AV) (x1 : List AV) : Option (List AV) := D3.run Tryd.prog env (cal3 F8 F9 F10 F11 F12 F13 F14) H3 n [eta s26 x0, .fv s36 x1]

end Go.Proofs.YtldnpibpbbcjgaaDoor.Am
end

section
set_option linter.unusedVariables false
namespace Go.Proofs.YtldnpibpbbcjgaaDoor.Am
open Go Go.Am Go.Proofs

theorem mix : Tryd.prog.follows .mixedOrders = true := by rfl

theorem good20 : D20.good Tryd.prog = true := by kernel_rfl
theorem snd20  : SoundCal Tryd.prog env 20 (mkCal D20 (D20.run Tryd.prog env cal20 H20)) :=
  FnD.sound (fun f c hf => by cases hf) mix Tryd.func20 rfl (by decide) rfl rfl good20
theorem good64 : D64.good Tryd.prog = true := by kernel_rfl
theorem snd64  : SoundCal Tryd.prog env 64 (mkCal D64 (D64.run Tryd.prog env cal64 H64)) :=
  FnD.sound (fun f c hf => by cases hf) mix Tryd.func64 rfl (by decide) rfl rfl good64
theorem good49 : D49.good Tryd.prog = true := by kernel_rfl
theorem snd49 (F64 : Fun) (h64 : SoundCal Tryd.prog env 64 (mkCal D64 F64)) : SoundCal Tryd.prog env 49 (mkCal D49 (D49.run Tryd.prog env (cal49 F64) H49)) :=
  FnD.sound (fun f c hf => by
    unfold cal49 at hf
    split at hf
    · cases hf; exact h64
    · cases hf) mix Tryd.func49 rfl (by decide) rfl rfl good49
theorem good63 : D63.good Tryd.prog = true := by kernel_rfl
theorem snd63  : SoundCal Tryd.prog env 63 (mkCal D63 (D63.run Tryd.prog env cal63 H63)) :=
  FnD.sound (fun f c hf => by cases hf) mix Tryd.func63 rfl (by decide) rfl rfl good63
theorem good48 : D48.good Tryd.prog = true := by kernel_rfl
theorem snd48 (F49 F63 : Fun) (h49 : SoundCal Tryd.prog env 49 (mkCal D49 F49)) (h63 : SoundCal Tryd.prog env 63 (mkCal D63 F63)) : SoundCal Tryd.prog env 48 (mkCal D48 (D48.run Tryd.prog env (cal48 F49 F63) H48)) :=
  FnD.sound (fun f c hf => by
    unfold cal48 at hf
    split at hf
    · cases hf; exact h49
    · cases hf; exact h63
    · cases hf) mix Tryd.func48 rfl (by decide) rfl rfl good48
theorem good38 : D38.good Tryd.prog = true := by kernel_rfl
theorem snd38 (F48 F49 : Fun) (h48 : SoundCal Tryd.prog env 48 (mkCal D48 F48)) (h49 : SoundCal Tryd.prog env 49 (mkCal D49 F49)) : SoundCal Tryd.prog env 38 (mkCal D38 (D38.run Tryd.prog env (cal38 F48 F49) H38)) :=
  FnD.sound (fun f c hf => by
    unfold cal38 at hf
    split at hf
    · cases hf; exact h48
    · cases hf; exact h49
    · cases hf) mix Tryd.func38 rfl (by decide) rfl rfl good38
theorem good21 : D21.good Tryd.prog = true := by kernel_rfl
theorem snd21 (F38 : Fun) (h38 : SoundCal Tryd.prog env 38 (mkCal D38 F38)) : SoundCal Tryd.prog env 21 (mkCal D21 (D21.run Tryd.prog env (cal21 F38) H21)) :=
  FnD.sound (fun f c hf => by
    unfold cal21 at hf
    split at hf
    · cases hf; exact h38
    · cases hf) mix Tryd.func21 rfl (by decide) rfl rfl good21
theorem good50 : D50.good Tryd.prog = true := by kernel_rfl
theorem snd50  : SoundCal Tryd.prog env 50 (mkCal D50 (D50.run Tryd.prog env cal50 H50)) :=
  FnD.sound (fun f c hf => by cases hf) mix Tryd.func50 rfl (by decide) rfl rfl good50
theorem good81 : D81.good Tryd.prog = true := by kernel_rfl
theorem snd81  : SoundCal Tryd.prog env 81 (mkCal D81 (D81.run Tryd.prog env cal81 H81)) :=
  FnD.sound (fun f c hf => by cases hf) mix Tryd.func81 rfl (by decide) rfl rfl good81
theorem good84 : D84.good Tryd.prog = true := by kernel_rfl
theorem snd84  : SoundCal Tryd.prog env 84 (mkCal D84 (D84.run Tryd.prog env cal84 H84)) :=
  FnD.sound (fun f c hf => by cases hf) mix Tryd.func84 rfl (by decide) rfl rfl good84
theorem good75 : D75.good Tryd.prog = true := by kernel_rfl
theorem snd75  : SoundCal Tryd.prog env 75 (mkCal D75 (D75.run Tryd.prog env cal75 H75)) :=
  FnD.sound (fun f c hf => by cases hf) mix Tryd.func75 rfl (by decide) rfl rfl good75
theorem good74 : D74.good Tryd.prog = true := by kernel_rfl
theorem snd74  : SoundCal Tryd.prog env 74 (mkCal D74 (D74.run Tryd.prog env cal74 H74)) :=
  FnD.sound (fun f c hf => by cases hf) mix Tryd.func74 rfl (by decide) rfl rfl good74
theorem good76 : D76.good Tryd.prog = true := by kernel_rfl
theorem snd76  : SoundCal Tryd.prog env 76 (mkCal D76 (D76.run Tryd.prog env cal76 H76)) :=
  FnD.sound (fun f c hf => by cases hf) mix Tryd.func76 rfl (by decide) rfl rfl good76
theorem good83 : D83.good Tryd.prog = true := by kernel_rfl
theorem snd83 (F74 F75 F76 : Fun) (h74 : SoundCal Tryd.prog env 74 (mkCal D74 F74)) (h75 : SoundCal Tryd.prog env 75 (mkCal D75 F75)) (h76 : SoundCal Tryd.prog env 76 (mkCal D76 F76)) : SoundCal Tryd.prog env 83 (mkCal D83 (D83.run Tryd.prog env (cal83 F74 F75 F76) H83)) :=
  FnD.sound (fun f c hf => by
    unfold cal83 at hf
    split at hf
    · cases hf; exact h74
    · cases hf; exact h75
    · cases hf; exact h76
    · cases hf) mix Tryd.func83 rfl (by decide) rfl rfl good83
theorem good87 : D87.good Tryd.prog = true := by kernel_rfl
theorem snd87  : SoundCal Tryd.prog env 87 (mkCal D87 (D87.run Tryd.prog env cal87 H87)) :=
  FnD.sound (fun f c hf => by cases hf) mix Tryd.func87 rfl (by decide) rfl rfl good87
theorem good88 : D88.good Tryd.prog = true := by kernel_rfl
theorem snd88 (F74 : Fun) (h74 : SoundCal Tryd.prog env 74 (mkCal D74 F74)) : SoundCal Tryd.prog env 88 (mkCal D88 (D88.run Tryd.prog env (cal88 F74) H88)) :=
  FnD.sound (fun f c hf => by
    unfold cal88 at hf
    split at hf
    · cases hf; exact h74
    · cases hf) mix Tryd.func88 rfl (by decide) rfl rfl good88
theorem good89 : D89.good Tryd.prog = true := by kernel_rfl
theorem snd89  : SoundCal Tryd.prog env 89 (mkCal D89 (D89.run Tryd.prog env cal89 H89)) :=
  FnD.sound (fun f c hf => by cases hf) mix Tryd.func89 rfl (by decide) rfl rfl good89
theorem good85 : D85.good Tryd.prog = true := by kernel_rfl
theorem snd85 (F75 F83 F87 F88 F89 : Fun) (h75 : SoundCal Tryd.prog env 75 (mkCal D75 F75)) (h83 : SoundCal Tryd.prog env 83 (mkCal D83 F83)) (h87 : SoundCal Tryd.prog env 87 (mkCal D87 F87)) (h88 : SoundCal Tryd.prog env 88 (mkCal D88 F88)) (h89 : SoundCal Tryd.prog env 89 (calRo D89 F89)) : SoundCal Tryd.prog env 85 (mkCal D85 (D85.run Tryd.prog env (cal85 F75 F83 F87 F88 F89) H85)) :=
  FnD.sound (fun f c hf => by
    unfold cal85 at hf
    split at hf
    · cases hf; exact h75
    · cases hf; exact h83
    · cases hf; exact h87
    · cases hf; exact h88
    · cases hf; exact h89
    · cases hf) mix Tryd.func85 rfl (by decide) rfl rfl good85
theorem good86 : D86.good Tryd.prog = true := by kernel_rfl
theorem snd86 (F84 F87 : Fun) (h84 : SoundCal Tryd.prog env 84 (mkCal D84 F84)) (h87 : SoundCal Tryd.prog env 87 (mkCal D87 F87)) : SoundCal Tryd.prog env 86 (mkCal D86 (D86.run Tryd.prog env (cal86 F84 F87) H86)) :=
  FnD.sound (fun f c hf => by
    unfold cal86 at hf
    split at hf
    · cases hf; exact h84
    · cases hf; exact h87
    · cases hf) mix Tryd.func86 rfl (by decide) rfl rfl good86
theorem good82 : D82.good Tryd.prog = true := by kernel_rfl
theorem snd82 (F84 F85 F86 F87 : Fun) (h84 : SoundCal Tryd.prog env 84 (mkCal D84 F84)) (h85 : SoundCal Tryd.prog env 85 (mkCal D85 F85)) (h86 : SoundCal Tryd.prog env 86 (mkCal D86 F86)) (h87 : SoundCal Tryd.prog env 87 (mkCal D87 F87)) : SoundCal Tryd.prog env 82 (mkCal D82 (D82.run Tryd.prog env (cal82 F84 F85 F86 F87) H82)) :=
  FnD.sound (fun f c hf => by
    unfold cal82 at hf
    split at hf
    · cases hf; exact h84
    · cases hf; exact h85
    · cases hf; exact h86
    · cases hf; exact h87
    · cases hf) mix Tryd.func82 rfl (by decide) rfl rfl good82
theorem good73 : D73.good Tryd.prog = true := by kernel_rfl
theorem snd73 (F81 F82 F83 : Fun) (h81 : SoundCal Tryd.prog env 81 (mkCal D81 F81)) (h82 : SoundCal Tryd.prog env 82 (mkCal D82 F82)) (h83 : SoundCal Tryd.prog env 83 (mkCal D83 F83)) : SoundCal Tryd.prog env 73 (mkCal D73 (D73.run Tryd.prog env (cal73 F81 F82 F83) H73)) :=
  FnD.sound (fun f c hf => by
    unfold cal73 at hf
    split at hf
    · cases hf; exact h81
    · cases hf; exact h82
    · cases hf; exact h83
    · cases hf) mix Tryd.func73 rfl (by decide) rfl rfl good73
theorem good77 : D77.good Tryd.prog = true := by kernel_rfl
theorem snd77  : SoundCal Tryd.prog env 77 (mkCal D77 (D77.run Tryd.prog env cal77 H77)) :=
  FnD.sound (fun f c hf => by cases hf) mix Tryd.func77 rfl (by decide) rfl rfl good77
theorem good79 : D79.good Tryd.prog = true := by kernel_rfl
theorem snd79  : SoundCal Tryd.prog env 79 (mkCal D79 (D79.run Tryd.prog env cal79 H79)) :=
  FnD.sound (fun f c hf => by cases hf) mix Tryd.func79 rfl (by decide) rfl rfl good79
theorem good78 : D78.good Tryd.prog = true := by kernel_rfl
theorem snd78 (F50 F77 F79 : Fun) (h50 : SoundCal Tryd.prog env 50 (mkCal D50 F50)) (h77 : SoundCal Tryd.prog env 77 (mkCal D77 F77)) (h79 : SoundCal Tryd.prog env 79 (mkCal D79 F79)) : SoundCal Tryd.prog env 78 (mkCal D78 (D78.run Tryd.prog env (cal78 F50 F77 F79) H78)) :=
  FnD.sound (fun f c hf => by
    unfold cal78 at hf
    split at hf
    · cases hf; exact h50
    · cases hf; exact h77
    · cases hf; exact h79
    · cases hf) mix Tryd.func78 rfl (by decide) rfl rfl good78
theorem good65 : D65.good Tryd.prog = true := by kernel_rfl
theorem snd65 (F73 F74 F75 F76 F77 F78 : Fun) (h73 : SoundCal Tryd.prog env 73 (mkCal D73 F73)) (h74 : SoundCal Tryd.prog env 74 (mkCal D74 F74)) (h75 : SoundCal Tryd.prog env 75 (mkCal D75 F75)) (h76 : SoundCal Tryd.prog env 76 (mkCal D76 F76)) (h77 : SoundCal Tryd.prog env 77 (mkCal D77 F77)) (h78 : SoundCal Tryd.prog env 78 (mkCal D78 F78)) : SoundCal Tryd.prog env 65 (mkCal D65 (D65.run Tryd.prog env (cal65 F73 F74 F75 F76 F77 F78) H65)) :=
  FnD.sound (fun f c hf => by
    unfold cal65 at hf
    split at hf
    · cases hf; exact h73
    · cases hf; exact h74
    · cases hf; exact h75
    · cases hf; exact h76
    · cases hf; exact h77
    · cases hf; exact h78
    · cases hf) mix Tryd.func65 rfl (by decide) rfl rfl good65
theorem good66 : D66.good Tryd.prog = true := by kernel_rfl
theorem snd66 (F50 F78 F79 : Fun) (h50 : SoundCal Tryd.prog env 50 (mkCal D50 F50)) (h78 : SoundCal Tryd.prog env 78 (mkCal D78 F78)) (h79 : SoundCal Tryd.prog env 79 (mkCal D79 F79)) : SoundCal Tryd.prog env 66 (mkCal D66 (D66.run Tryd.prog env (cal66 F50 F78 F79) H66)) :=
  FnD.sound (fun f c hf => by
    unfold cal66 at hf
    split at hf
    · cases hf; exact h50
    · cases hf; exact h78
    · cases hf; exact h79
    · cases hf) mix Tryd.func66 rfl (by decide) rfl rfl good66
theorem good51 : D51.good Tryd.prog = true := by kernel_rfl
theorem snd51 (F65 F66 : Fun) (h65 : SoundCal Tryd.prog env 65 (mkCal D65 F65)) (h66 : SoundCal Tryd.prog env 66 (mkCal D66 F66)) : SoundCal Tryd.prog env 51 (mkCal D51 (D51.run Tryd.prog env (cal51 F65 F66) H51)) :=
  FnD.sound (fun f c hf => by
    unfold cal51 at hf
    split at hf
    · cases hf; exact h65
    · cases hf; exact h66
    · cases hf) mix Tryd.func51 rfl (by decide) rfl rfl good51
theorem good39 : D39.good Tryd.prog = true := by kernel_rfl
theorem snd39 (F50 F51 : Fun) (h50 : SoundCal Tryd.prog env 50 (mkCal D50 F50)) (h51 : SoundCal Tryd.prog env 51 (mkCal D51 F51)) : SoundCal Tryd.prog env 39 (mkCal D39 (D39.run Tryd.prog env (cal39 F50 F51) H39)) :=
  FnD.sound (fun f c hf => by
    unfold cal39 at hf
    split at hf
    · cases hf; exact h50
    · cases hf; exact h51
    · cases hf) mix Tryd.func39 rfl (by decide) rfl rfl good39
theorem good40 : D40.good Tryd.prog = true := by kernel_rfl
theorem snd40  : SoundCal Tryd.prog env 40 (mkCal D40 (D40.run Tryd.prog env cal40 H40)) :=
  FnD.sound (fun f c hf => by cases hf) mix Tryd.func40 rfl (by decide) rfl rfl good40
theorem good23 : D23.good Tryd.prog = true := by kernel_rfl
theorem snd23 (F39 F40 : Fun) (h39 : SoundCal Tryd.prog env 39 (mkCal D39 F39)) (h40 : SoundCal Tryd.prog env 40 (mkCal D40 F40)) : SoundCal Tryd.prog env 23 (mkCal D23 (D23.run Tryd.prog env (cal23 F39 F40) H23)) :=
  FnD.sound (fun f c hf => by
    unfold cal23 at hf
    split at hf
    · cases hf; exact h39
    · cases hf; exact h40
    · cases hf) mix Tryd.func23 rfl (by decide) rfl rfl good23
theorem good8 : D8.good Tryd.prog = true := by kernel_rfl
theorem snd8 (F20 F21 F23 : Fun) (h20 : SoundCal Tryd.prog env 20 (mkCal D20 F20)) (h21 : SoundCal Tryd.prog env 21 (mkCal D21 F21)) (h23 : SoundCal Tryd.prog env 23 (mkCal D23 F23)) : SoundCal Tryd.prog env 8 (mkCal D8 (D8.run Tryd.prog env (cal8 F20 F21 F23) H8)) :=
  FnD.sound (fun f c hf => by
    unfold cal8 at hf
    split at hf
    · cases hf; exact h20
    · cases hf; exact h21
    · cases hf; exact h23
    · cases hf) mix Tryd.func8 rfl (by decide) rfl rfl good8
theorem good10 : D10.good Tryd.prog = true := by kernel_rfl
theorem snd10  : SoundCal Tryd.prog env 10 (mkCal D10 (D10.run Tryd.prog env cal10 H10)) :=
  FnD.sound (fun f c hf => by cases hf) mix Tryd.func10 rfl (by decide) rfl rfl good10
theorem good13 : D13.good Tryd.prog = true := by kernel_rfl
theorem snd13  : SoundCal Tryd.prog env 13 (mkCal D13 (D13.run Tryd.prog env cal13 H13)) :=
  FnD.sound (fun f c hf => by cases hf) mix Tryd.func13 rfl (by decide) rfl rfl good13
theorem good28 : D28.good Tryd.prog = true := by kernel_rfl
theorem snd28  : SoundCal Tryd.prog env 28 (mkCal D28 (D28.run Tryd.prog env cal28 H28)) :=
  FnD.sound (fun f c hf => by cases hf) mix Tryd.func28 rfl (by decide) rfl rfl good28
theorem good41 : D41.good Tryd.prog = true := by kernel_rfl
theorem snd41 (F49 : Fun) (h49 : SoundCal Tryd.prog env 49 (mkCal D49 F49)) : SoundCal Tryd.prog env 41 (mkCal D41 (D41.run Tryd.prog env (cal41 F49) H41)) :=
  FnD.sound (fun f c hf => by
    unfold cal41 at hf
    split at hf
    · cases hf; exact h49
    · cases hf) mix Tryd.func41 rfl (by decide) rfl rfl good41
theorem good24 : D24.good Tryd.prog = true := by kernel_rfl
theorem snd24 (F28 F41 : Fun) (h28 : SoundCal Tryd.prog env 28 (mkCal D28 F28)) (h41 : SoundCal Tryd.prog env 41 (mkCal D41 F41)) : SoundCal Tryd.prog env 24 (mkCal D24 (D24.run Tryd.prog env (cal24 F28 F41) H24)) :=
  FnD.sound (fun f c hf => by
    unfold cal24 at hf
    split at hf
    · cases hf; exact h28
    · cases hf; exact h41
    · cases hf) mix Tryd.func24 rfl (by decide) rfl rfl good24
theorem good25 : D25.good Tryd.prog = true := by kernel_rfl
theorem snd25  : SoundCal Tryd.prog env 25 (mkCal D25 (D25.run Tryd.prog env cal25 H25)) :=
  FnD.sound (fun f c hf => by cases hf) mix Tryd.func25 rfl (by decide) rfl rfl good25
theorem good42 : D42.good Tryd.prog = true := by kernel_rfl
theorem snd42  : SoundCal Tryd.prog env 42 (mkCal D42 (D42.run Tryd.prog env cal42 H42)) :=
  FnD.sound (fun f c hf => by cases hf) mix Tryd.func42 rfl (by decide) rfl rfl good42
theorem good27 : D27.good Tryd.prog = true := by kernel_rfl
theorem snd27 (F42 : Fun) (h42 : SoundCal Tryd.prog env 42 (mkCal D42 F42)) : SoundCal Tryd.prog env 27 (mkCal D27 (D27.run Tryd.prog env (cal27 F42) H27)) :=
  FnD.sound (fun f c hf => by
    unfold cal27 at hf
    split at hf
    · cases hf; exact h42
    · cases hf) mix Tryd.func27 rfl (by decide) rfl rfl good27
theorem good30 : D30.good Tryd.prog = true := by kernel_rfl
theorem snd30  : SoundCal Tryd.prog env 30 (mkCal D30 (D30.run Tryd.prog env cal30 H30)) :=
  FnD.sound (fun f c hf => by cases hf) mix Tryd.func30 rfl (by decide) rfl rfl good30
theorem good37 : D37.good Tryd.prog = true := by kernel_rfl
theorem snd37 (F13 F25 : Fun) (h13 : SoundCal Tryd.prog env 13 (mkCal D13 F13)) (h25 : SoundCal Tryd.prog env 25 (calRo D25 F25)) : SoundCal Tryd.prog env 37 (mkCal D37 (D37.run Tryd.prog env (cal37 F13 F25) H37)) :=
  FnD.sound (fun f c hf => by
    unfold cal37 at hf
    split at hf
    · cases hf; exact h13
    · cases hf; exact h25
    · cases hf) mix Tryd.func37 rfl (by decide) rfl rfl good37
theorem good26 : D26.good Tryd.prog = true := by kernel_rfl
theorem snd26 (F27 F30 F37 : Fun) (h27 : SoundCal Tryd.prog env 27 (mkCal D27 F27)) (h30 : SoundCal Tryd.prog env 30 (calRo D30 F30)) (h37 : SoundCal Tryd.prog env 37 (mkCal D37 F37)) : SoundCal Tryd.prog env 26 (mkCal D26 (D26.run Tryd.prog env (cal26 F27 F30 F37) H26)) :=
  FnD.sound (fun f c hf => by
    unfold cal26 at hf
    split at hf
    · cases hf; exact h27
    · cases hf; exact h30
    · cases hf; exact h37
    · cases hf) mix Tryd.func26 rfl (by decide) rfl rfl good26
theorem good43 : D43.good Tryd.prog = true := by kernel_rfl
theorem snd43  : SoundCal Tryd.prog env 43 (mkCal D43 (D43.run Tryd.prog env cal43 H43)) :=
  FnD.sound (fun f c hf => by cases hf) mix Tryd.func43 rfl (by decide) rfl rfl good43
theorem good29 : D29.good Tryd.prog = true := by kernel_rfl
theorem snd29 (F43 : Fun) (h43 : SoundCal Tryd.prog env 43 (mkCal D43 F43)) : SoundCal Tryd.prog env 29 (mkCal D29 (D29.run Tryd.prog env (cal29 F43) H29)) :=
  FnD.sound (fun f c hf => by
    unfold cal29 at hf
    split at hf
    · cases hf; exact h43
    · cases hf) mix Tryd.func29 rfl (by decide) rfl rfl good29
theorem good11 : D11.good Tryd.prog = true := by kernel_rfl
theorem snd11 (F13 F24 F25 F26 F27 F28 F29 F30 : Fun) (h13 : SoundCal Tryd.prog env 13 (mkCal D13 F13)) (h24 : SoundCal Tryd.prog env 24 (mkCal D24 F24)) (h25 : SoundCal Tryd.prog env 25 (calRo D25 F25)) (h26 : SoundCal Tryd.prog env 26 (mkCal D26 F26)) (h27 : SoundCal Tryd.prog env 27 (mkCal D27 F27)) (h28 : SoundCal Tryd.prog env 28 (mkCal D28 F28)) (h29 : SoundCal Tryd.prog env 29 (mkCal D29 F29)) (h30 : SoundCal Tryd.prog env 30 (calRo D30 F30)) : SoundCal Tryd.prog env 11 (mkCal D11 (D11.run Tryd.prog env (cal11 F13 F24 F25 F26 F27 F28 F29 F30) H11)) :=
  FnD.sound (fun f c hf => by
    unfold cal11 at hf
    split at hf
    · cases hf; exact h13
    · cases hf; exact h24
    · cases hf; exact h25
    · cases hf; exact h26
    · cases hf; exact h27
    · cases hf; exact h28
    · cases hf; exact h29
    · cases hf; exact h30
    · cases hf) mix Tryd.func11 rfl (by decide) rfl rfl good11
theorem good12 : D12.good Tryd.prog = true := by kernel_rfl
theorem snd12 (F13 F24 F26 : Fun) (h13 : SoundCal Tryd.prog env 13 (mkCal D13 F13)) (h24 : SoundCal Tryd.prog env 24 (mkCal D24 F24)) (h26 : SoundCal Tryd.prog env 26 (mkCal D26 F26)) : SoundCal Tryd.prog env 12 (mkCal D12 (D12.run Tryd.prog env (cal12 F13 F24 F26) H12)) :=
  FnD.sound (fun f c hf => by
    unfold cal12 at hf
    split at hf
    · cases hf; exact h13
    · cases hf; exact h24
    · cases hf; exact h26
    · cases hf) mix Tryd.func12 rfl (by decide) rfl rfl good12
theorem good36 : D36.good Tryd.prog = true := by kernel_rfl
theorem snd36  : SoundCal Tryd.prog env 36 (mkCal D36 (D36.run Tryd.prog env cal36 H36)) :=
  FnD.sound (fun f c hf => by cases hf) mix Tryd.func36 rfl (by decide) rfl rfl good36
theorem good17 : D17.good Tryd.prog = true := by kernel_rfl
theorem snd17 (F36 : Fun) (h36 : SoundCal Tryd.prog env 36 (mkCal D36 F36)) : SoundCal Tryd.prog env 17 (mkCal D17 (D17.run Tryd.prog env (cal17 F36) H17)) :=
  FnD.sound (fun f c hf => by
    unfold cal17 at hf
    split at hf
    · cases hf; exact h36
    · cases hf) mix Tryd.func17 rfl (by decide) rfl rfl good17
theorem good9 : D9.good Tryd.prog = true := by kernel_rfl
theorem snd9 (F10 F11 F12 F13 F17 F20 F21 : Fun) (h10 : SoundCal Tryd.prog env 10 (calRo D10 F10)) (h11 : SoundCal Tryd.prog env 11 (mkCal D11 F11)) (h12 : SoundCal Tryd.prog env 12 (mkCal D12 F12)) (h13 : SoundCal Tryd.prog env 13 (mkCal D13 F13)) (h17 : SoundCal Tryd.prog env 17 (mkCal D17 F17)) (h20 : SoundCal Tryd.prog env 20 (mkCal D20 F20)) (h21 : SoundCal Tryd.prog env 21 (mkCal D21 F21)) : SoundCal Tryd.prog env 9 (mkCal D9 (D9.run Tryd.prog env (cal9 F10 F11 F12 F13 F17 F20 F21) H9)) :=
  FnD.sound (fun f c hf => by
    unfold cal9 at hf
    split at hf
    · cases hf; exact h10
    · cases hf; exact h11
    · cases hf; exact h12
    · cases hf; exact h13
    · cases hf; exact h17
    · cases hf; exact h20
    · cases hf; exact h21
    · cases hf) mix Tryd.func9 rfl (by decide) rfl rfl good9
theorem good18 : D18.good Tryd.prog = true := by kernel_rfl
theorem snd18 (F37 : Fun) (h37 : SoundCal Tryd.prog env 37 (mkCal D37 F37)) : SoundCal Tryd.prog env 18 (mkCal D18 (D18.run Tryd.prog env (cal18 F37) H18)) :=
  FnD.sound (fun f c hf => by
    unfold cal18 at hf
    split at hf
    · cases hf; exact h37
    · cases hf) mix Tryd.func18 rfl (by decide) rfl rfl good18
theorem good14 : D14.good Tryd.prog = true := by kernel_rfl
theorem snd14 (F11 F12 F13 F18 : Fun) (h11 : SoundCal Tryd.prog env 11 (mkCal D11 F11)) (h12 : SoundCal Tryd.prog env 12 (mkCal D12 F12)) (h13 : SoundCal Tryd.prog env 13 (mkCal D13 F13)) (h18 : SoundCal Tryd.prog env 18 (mkCal D18 F18)) : SoundCal Tryd.prog env 14 (mkCal D14 (D14.run Tryd.prog env (cal14 F11 F12 F13 F18) H14)) :=
  FnD.sound (fun f c hf => by
    unfold cal14 at hf
    split at hf
    · cases hf; exact h11
    · cases hf; exact h12
    · cases hf; exact h13
    · cases hf; exact h18
    · cases hf) mix Tryd.func14 rfl (by decide) rfl rfl good14
theorem good3 : D3.good Tryd.prog = true := by kernel_rfl
theorem snd3 (F8 F9 F10 F11 F12 F13 F14 : Fun) (h8 : SoundCal Tryd.prog env 8 (mkCal D8 F8)) (h9 : SoundCal Tryd.prog env 9 (mkCal D9 F9)) (h10 : SoundCal Tryd.prog env 10 (calRo D10 F10)) (h11 : SoundCal Tryd.prog env 11 (mkCal D11 F11)) (h12 : SoundCal Tryd.prog env 12 (mkCal D12 F12)) (h13 : SoundCal Tryd.prog env 13 (mkCal D13 F13)) (h14 : SoundCal Tryd.prog env 14 (mkCal D14 F14)) : SoundCal Tryd.prog env 3 (mkCal D3 (D3.run Tryd.prog env (cal3 F8 F9 F10 F11 F12 F13 F14) H3)) :=
  FnD.sound (fun f c hf => by
    unfold cal3 at hf
    split at hf
    · cases hf; exact h8
    · cases hf; exact h9
    · cases hf; exact h10
    · cases hf; exact h11
    · cases hf; exact h12
    · cases hf; exact h13
    · cases hf; exact h14
    · cases hf) mix Tryd.func3 rfl (by decide) rfl rfl good3
end Go.Proofs.YtldnpibpbbcjgaaDoor.Am
end
