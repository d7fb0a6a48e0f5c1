/-
  The desk's functions: what is said of each (templates), and its run.
-/
import Derived.Test.YtjhbpadplglnlaaRows
import Derived.Test.YtjhbpadplglnlaaAmFun
namespace Go.Proofs.Ytjhbpadplglnlaa.Am
open Go Go.Am Go.Proofs


/-- One round of a loop, the rest of them left open. -/
noncomputable def stepR (m : Nat) (step : List AV → (Ex → St → Option (Nat × List AV)) → Option (Nat × List AV)) (T : Tpl) (exits : Exits) (k : List AV → Option (Nat × List AV)) (d : List AV) : Option (Nat × List AV) :=
  step d fun e S => match e with
    | .nrm => match abst m T S with
      | some d' => k d'
      | none => none
    | e => arrive m e S 0 exits

/-- The n-th loop's body. -/
noncomputable def loops : Code → List Code
  | .seq a b => loops a ++ loops b
  | .block _ b => loops b
  | .loop b => b :: loops b
  | .cond _ a b => loops a ++ loops b
  | .scope b => loops b
  | _ => []

def noJ : Nat → Option Exits := fun _ => none
def glob0 : Nat → Option AV := fun _ => none
abbrev Fun := Nat → List AV → Option (List AV)
abbrev Knt := List AV → Option (Nat × List AV)

def capS : Sh := .agg [.int .i64, .int .i64, .bool, .fs .u8]
def intK : Tk := .val (.int .i64)
def capsK : Tk := .rows 37 capS

/-! slices.Clone -/
noncomputable def D15 : FnD := { body := Try.f15.body.getD .skip, m := 8, rs := [(2, .row 5 .u8)], ty := [22], own := some 0, esc := false }

/-! desk.ReadCapture -/
def rs6 : Tpl := [(2, capsK), (3, intK), (4, intK)]
def T6 : Tpl := [(0, .val (.fs .u8)), (5, capsK), (6, intK)]
def X6 : Exits := [(.ext 0, [(5, capsK)]), (.ret, rs6)]
noncomputable def D6 : FnD := { body := Try.f6.body.getD .skip, m := 99, rs := rs6, ty := [23, 24, 3], own := some 0, esc := true }
def H6 : Hints := { loops := fun i => match i with | 5 => some (T6, X6) | _ => none, joins := noJ }
noncomputable def B6 : Code := (loops D6.body).headD .skip
noncomputable def cal6 (F15 : Fun) : FuncId → Option Cal := fun f => match f with | 15 => some (mkCal D15 F15) | _ => none
noncomputable def st6 (F15 : Fun) (n : Nat) (k : Knt) (bs : List Int) (caps : List AV) (off : Int) : Option (Nat × List AV) :=
  stepR 99 (fun d K' => exec n 99 Try.prog glob0 (cal6 F15) H6 B6 (con 99 T6 d) K') T6 X6 k [.fs .u8 bs, .fv capS caps, .int .i64 off]
noncomputable def lp6 (F15 : Fun) (n f : Nat) (d : List AV) : Option (Nat × List AV) :=
  loopN 99 (fun d K' => exec n 99 Try.prog glob0 (cal6 F15) H6 B6 (con 99 T6 d) K') T6 X6 f d
noncomputable def run6 (F15 : Fun) (n : Nat) (bs : List Int) : Option (List AV) := D6.run Try.prog glob0 (cal6 F15) H6 n [.fs .u8 bs]

/-! weirref20.ReadCapture -/
def rs7 : Tpl := [(2, capsK), (3, intK), (4, intK)]
def T7 : Tpl := [(0, .val (.fs .u8)), (5, capsK), (6, intK)]
def X7 : Exits := [(.ext 0, [(5, capsK)]), (.ret, rs7)]
noncomputable def D7 : FnD := { body := Try.f7.body.getD .skip, m := 108, rs := rs7, ty := [23, 3, 3], own := some 0, esc := true }
def H7 : Hints := { loops := fun i => match i with | 5 => some (T7, X7) | _ => none, joins := noJ }
noncomputable def B7 : Code := (loops D7.body).headD .skip
noncomputable def cal7 : FuncId → Option Cal := fun _ => none
noncomputable def st7 (n : Nat) (k : Knt) (bs : List Int) (caps : List AV) (off : Int) : Option (Nat × List AV) :=
  stepR 108 (fun d K' => exec n 108 Try.prog glob0 cal7 H7 B7 (con 108 T7 d) K') T7 X7 k [.fs .u8 bs, .fv capS caps, .int .i64 off]
noncomputable def lp7 (n f : Nat) (d : List AV) : Option (Nat × List AV) :=
  loopN 108 (fun d K' => exec n 108 Try.prog glob0 cal7 H7 B7 (con 108 T7 d) K') T7 X7 f d
noncomputable def run7 (n : Nat) (bs : List Int) : Option (List AV) := D7.run Try.prog glob0 cal7 H7 n [.fs .u8 bs]

/-! sameCaptures -/
def rs8 : Tpl := [(4, .val .bool)]
def T8 : Tpl := [(0, .val (.fv capS)), (1, .val (.fv capS)), (5, intK)]
def X8 : Exits := [(.ext 0, []), (.ret, rs8)]
noncomputable def D8 : FnD := { body := Try.f8.body.getD .skip, m := 69, rs := rs8, ty := [4], own := none, esc := false }
def H8 : Hints := { loops := fun i => match i with | 4 => some (T8, X8) | _ => none, joins := noJ }
noncomputable def B8 : Code := (loops D8.body).headD .skip
noncomputable def st8 (n : Nat) (k : Knt) (xs ys : List AV) (i : Int) : Option (Nat × List AV) :=
  stepR 69 (fun d K' => exec n 69 Try.prog glob0 cal7 H8 B8 (con 69 T8 d) K') T8 X8 k [.fv capS xs, .fv capS ys, .int .i64 i]
noncomputable def lp8 (n f : Nat) (d : List AV) : Option (Nat × List AV) :=
  loopN 69 (fun d K' => exec n 69 Try.prog glob0 cal7 H8 B8 (con 69 T8 d) K') T8 X8 f d
noncomputable def run8 (n : Nat) (xs ys : List AV) : Option (List AV) := D8.run Try.prog glob0 cal7 H8 n [.fv capS xs, .fv capS ys]

/-! desk.WriteCapture -/
def rs9 : Tpl := [(2, .row 5 .u8), (3, intK)]
def T9 : Tpl := [(4, .row 5 .u8), (11, .val (.fv capS)), (12, intK), (13, intK)]
def X9 : Exits := [(.ext 0, [(4, .row 5 .u8)]), (.ret, rs9)]
noncomputable def D9 : FnD := { body := Try.f9.body.getD .skip, m := 79, rs := rs9, ty := [22, 24], own := some 0, esc := false }
def H9 : Hints := { loops := fun i => match i with | 3 => some (T9, X9) | _ => none, joins := noJ }
noncomputable def B9 : Code := (loops D9.body).headD .skip
noncomputable def st9 (n : Nat) (k : Knt) (out : List Int) (xs : List AV) (len i : Int) : Option (Nat × List AV) :=
  stepR 79 (fun d K' => exec n 79 Try.prog glob0 cal7 H9 B9 (con 79 T9 d) K') T9 X9 k [.fs .u8 out, .fv capS xs, .int .i64 len, .int .i64 i]
noncomputable def lp9 (n f : Nat) (d : List AV) : Option (Nat × List AV) :=
  loopN 79 (fun d K' => exec n 79 Try.prog glob0 cal7 H9 B9 (con 79 T9 d) K') T9 X9 f d
noncomputable def run9 (n : Nat) (xs : List AV) : Option (List AV) := D9.run Try.prog glob0 cal7 H9 n [.fv capS xs]

/-! DeskReads -/
def rs3 : Tpl := [(2, .val .bool)]
noncomputable def D3 : FnD := { body := Try.f3.body.getD .skip, m := 69, rs := rs3, ty := [4], own := none, esc := false }
def H3 : Hints := { loops := fun _ => none, joins := noJ }
noncomputable def cal3 (F6 F7 F8 F9 : Fun) : FuncId → Option Cal := fun f => match f with
  | 6 => some (mkCal D6 F6) | 7 => some (mkCal D7 F7) | 8 => some (mkCal D8 F8) | 9 => some (mkCal D9 F9) | _ => none
noncomputable def run3 (F6 F7 F8 F9 : Fun) (n : Nat) (bs : List Int) : Option (List AV) := D3.run Try.prog glob0 (cal3 F6 F7 F8 F9) H3 n [.fs .u8 bs]

theorem good6 : D6.good Try.prog = true := by rfl
theorem good7 : D7.good Try.prog = true := by rfl
theorem good8 : D8.good Try.prog = true := by rfl
theorem good9 : D9.good Try.prog = true := by rfl
theorem good3 : D3.good Try.prog = true := by rfl
end Go.Proofs.Ytjhbpadplglnlaa.Am
