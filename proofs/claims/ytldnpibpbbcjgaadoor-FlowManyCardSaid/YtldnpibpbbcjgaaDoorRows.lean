/-
  NARROWER THAN 'FOR EVERY INPUT', by the rows' own cells (each row's printed sentence says how): FlowBack: laid · FlowPorts: laid · FlowEnds: laid · FlowMany: laid · FlowLong: laid.
  DERIVED. THE GIVEN ROWS OF THIS SEAT. 5 by the template 'for every input the law returns true; each argument reads behind the call as it read before'; 0 by the template 'total and deterministic' (their statements: YtldnpibpbbcjgaaDoorTotals.lean).
  GIVEN WITH THE SEED: the statements are not yours to turn. If you find one false, say at which input.
  Laid BY PROGRAM, IN A SANDBOX (cutbox-rows.mjs): the forced cells as the released guide's own fill.sh prints them over the translation 062eef2a75f2da9d… (all of the seat's roots in one cut). By AI agents, Wed Nov 11 2026. No macro, syntax, notation, axiom, sorry.
-/
import Derived.Test.YtldnpibpbbcjgaaDoorChecked
import GoSem.Claim
import GoSem.ClaimJoined
import GoSem.ClaimMapViews
import Derived.JoinedTies
import Derived.KernelRfl
namespace Go.Proofs.YtldnpibpbbcjgaaDoor
/- THE CELL 'sum', in the pinned program and in every row, IS THE sha256 OF THE DUMP (.gsa) THAT YtldnpibpbbcjgaaDoorProg.lean LOADS. Nothing in Lean hashes anything: it is a label: what it is worth is what the hold of that sum in a sandbox is worth. -/
noncomputable def Tryd.pinned : Pinned := { name := "ytldnpibpbbcjgaadoor", sum := "062eef2a75f2da9d49c11791ec71d77eebc76a3b183d3b1d6dba2fd9efa19c81", checked := Tryd.checked }
namespace Rows
def none {H : Type} : Left H := { results := [], args := [] }

/- WHAT THE LISTED PACKAGE-LEVEL VARIABLES READ AS WHEN THE CALL BEGINS. Each datum BY PROGRAM (the guide's laid-datum.mjs) off the statement by which the dump's own 'gosem.cut.vars' lays the variable. In a bare row this is a premise. The card (YtldnpibpbbcjgaaDoorCards.lean) ties it to the program's text. -/
def laid_weir_addr_nets {H : Type} : DataW H := .agg [.agg [.lit (.int .i64 4), .agg [.lit (.int .u8 0), .lit (.int .u8 0), .lit (.int .u8 0), .lit (.int .u8 0), .lit (.int .u8 0), .lit (.int .u8 0), .lit (.int .u8 0), .lit (.int .u8 0), .lit (.int .u8 0), .lit (.int .u8 0), .lit (.int .u8 0), .lit (.int .u8 0), .lit (.int .u8 0), .lit (.int .u8 0), .lit (.int .u8 0), .lit (.int .u8 0)], .lit (.int .i64 32), .lit (.int .i64 1)], .agg [.lit (.int .i64 6), .agg [.lit (.int .u8 0), .lit (.int .u8 0), .lit (.int .u8 0), .lit (.int .u8 0), .lit (.int .u8 0), .lit (.int .u8 0), .lit (.int .u8 0), .lit (.int .u8 0), .lit (.int .u8 0), .lit (.int .u8 0), .lit (.int .u8 0), .lit (.int .u8 0), .lit (.int .u8 0), .lit (.int .u8 0), .lit (.int .u8 0), .lit (.int .u8 0)], .lit (.int .i64 128), .lit (.int .i64 1)], .agg [.lit (.int .i64 4), .agg [.lit (.int .u8 127), .lit (.int .u8 0), .lit (.int .u8 0), .lit (.int .u8 0), .lit (.int .u8 0), .lit (.int .u8 0), .lit (.int .u8 0), .lit (.int .u8 0), .lit (.int .u8 0), .lit (.int .u8 0), .lit (.int .u8 0), .lit (.int .u8 0), .lit (.int .u8 0), .lit (.int .u8 0), .lit (.int .u8 0), .lit (.int .u8 0)], .lit (.int .i64 8), .lit (.int .i64 2)], .agg [.lit (.int .i64 6), .agg [.lit (.int .u8 0), .lit (.int .u8 0), .lit (.int .u8 0), .lit (.int .u8 0), .lit (.int .u8 0), .lit (.int .u8 0), .lit (.int .u8 0), .lit (.int .u8 0), .lit (.int .u8 0), .lit (.int .u8 0), .lit (.int .u8 0), .lit (.int .u8 0), .lit (.int .u8 0), .lit (.int .u8 0), .lit (.int .u8 0), .lit (.int .u8 1)], .lit (.int .i64 128), .lit (.int .i64 2)], .agg [.lit (.int .i64 4), .agg [.lit (.int .u8 224), .lit (.int .u8 0), .lit (.int .u8 0), .lit (.int .u8 0), .lit (.int .u8 0), .lit (.int .u8 0), .lit (.int .u8 0), .lit (.int .u8 0), .lit (.int .u8 0), .lit (.int .u8 0), .lit (.int .u8 0), .lit (.int .u8 0), .lit (.int .u8 0), .lit (.int .u8 0), .lit (.int .u8 0), .lit (.int .u8 0)], .lit (.int .i64 4), .lit (.int .i64 3)], .agg [.lit (.int .i64 6), .agg [.lit (.int .u8 255), .lit (.int .u8 0), .lit (.int .u8 0), .lit (.int .u8 0), .lit (.int .u8 0), .lit (.int .u8 0), .lit (.int .u8 0), .lit (.int .u8 0), .lit (.int .u8 0), .lit (.int .u8 0), .lit (.int .u8 0), .lit (.int .u8 0), .lit (.int .u8 0), .lit (.int .u8 0), .lit (.int .u8 0), .lit (.int .u8 0)], .lit (.int .i64 8), .lit (.int .i64 3)], .agg [.lit (.int .i64 4), .agg [.lit (.int .u8 169), .lit (.int .u8 254), .lit (.int .u8 0), .lit (.int .u8 0), .lit (.int .u8 0), .lit (.int .u8 0), .lit (.int .u8 0), .lit (.int .u8 0), .lit (.int .u8 0), .lit (.int .u8 0), .lit (.int .u8 0), .lit (.int .u8 0), .lit (.int .u8 0), .lit (.int .u8 0), .lit (.int .u8 0), .lit (.int .u8 0)], .lit (.int .i64 16), .lit (.int .i64 4)], .agg [.lit (.int .i64 6), .agg [.lit (.int .u8 254), .lit (.int .u8 128), .lit (.int .u8 0), .lit (.int .u8 0), .lit (.int .u8 0), .lit (.int .u8 0), .lit (.int .u8 0), .lit (.int .u8 0), .lit (.int .u8 0), .lit (.int .u8 0), .lit (.int .u8 0), .lit (.int .u8 0), .lit (.int .u8 0), .lit (.int .u8 0), .lit (.int .u8 0), .lit (.int .u8 0)], .lit (.int .i64 10), .lit (.int .i64 4)], .agg [.lit (.int .i64 4), .agg [.lit (.int .u8 255), .lit (.int .u8 255), .lit (.int .u8 255), .lit (.int .u8 255), .lit (.int .u8 0), .lit (.int .u8 0), .lit (.int .u8 0), .lit (.int .u8 0), .lit (.int .u8 0), .lit (.int .u8 0), .lit (.int .u8 0), .lit (.int .u8 0), .lit (.int .u8 0), .lit (.int .u8 0), .lit (.int .u8 0), .lit (.int .u8 0)], .lit (.int .i64 32), .lit (.int .i64 5)], .agg [.lit (.int .i64 4), .agg [.lit (.int .u8 0), .lit (.int .u8 0), .lit (.int .u8 0), .lit (.int .u8 0), .lit (.int .u8 0), .lit (.int .u8 0), .lit (.int .u8 0), .lit (.int .u8 0), .lit (.int .u8 0), .lit (.int .u8 0), .lit (.int .u8 0), .lit (.int .u8 0), .lit (.int .u8 0), .lit (.int .u8 0), .lit (.int .u8 0), .lit (.int .u8 0)], .lit (.int .i64 8), .lit (.int .i64 6)], .agg [.lit (.int .i64 4), .agg [.lit (.int .u8 240), .lit (.int .u8 0), .lit (.int .u8 0), .lit (.int .u8 0), .lit (.int .u8 0), .lit (.int .u8 0), .lit (.int .u8 0), .lit (.int .u8 0), .lit (.int .u8 0), .lit (.int .u8 0), .lit (.int .u8 0), .lit (.int .u8 0), .lit (.int .u8 0), .lit (.int .u8 0), .lit (.int .u8 0), .lit (.int .u8 0)], .lit (.int .i64 4), .lit (.int .i64 6)], .agg [.lit (.int .i64 6), .agg [.lit (.int .u8 0), .lit (.int .u8 0), .lit (.int .u8 0), .lit (.int .u8 0), .lit (.int .u8 0), .lit (.int .u8 0), .lit (.int .u8 0), .lit (.int .u8 0), .lit (.int .u8 0), .lit (.int .u8 0), .lit (.int .u8 0), .lit (.int .u8 0), .lit (.int .u8 0), .lit (.int .u8 0), .lit (.int .u8 0), .lit (.int .u8 0)], .lit (.int .i64 8), .lit (.int .i64 6)]]
def laid_weir_flow_out {H : Type} : DataW H := .agg [.agg [.lit (.int .i64 0), .lit (.int .i64 0), .lit (.int .i64 0), .lit (.int .i64 1), .lit (.int .i64 0), .lit (.int .i64 0)], .agg [.lit (.int .i64 0), .lit (.int .i64 0), .lit (.int .i64 0), .lit (.int .i64 1), .lit (.int .i64 0), .lit (.int .i64 0)], .agg [.lit (.int .i64 0), .lit (.int .i64 0), .lit (.int .i64 0), .lit (.int .i64 2), .lit (.int .i64 4), .lit (.int .i64 3)], .agg [.lit (.int .i64 0), .lit (.int .i64 0), .lit (.int .i64 0), .lit (.int .i64 0), .lit (.int .i64 4), .lit (.int .i64 3)], .agg [.lit (.int .i64 0), .lit (.int .i64 0), .lit (.int .i64 0), .lit (.int .i64 0), .lit (.int .i64 4), .lit (.int .i64 4)], .agg [.lit (.int .i64 0), .lit (.int .i64 0), .lit (.int .i64 0), .lit (.int .i64 0), .lit (.int .i64 6), .lit (.int .i64 5)], .agg [.lit (.int .i64 0), .lit (.int .i64 0), .lit (.int .i64 0), .lit (.int .i64 1), .lit (.int .i64 6), .lit (.int .i64 6)], .agg [.lit (.int .i64 0), .lit (.int .i64 0), .lit (.int .i64 0), .lit (.int .i64 0), .lit (.int .i64 0), .lit (.int .i64 0)]]
def laid_weir_flow_in {H : Type} : DataW H := .agg [.agg [.lit (.int .i64 0), .lit (.int .i64 0), .lit (.int .i64 0), .lit (.int .i64 0), .lit (.int .i64 0), .lit (.int .i64 0)], .agg [.lit (.int .i64 0), .lit (.int .i64 0), .lit (.int .i64 2), .lit (.int .i64 0), .lit (.int .i64 0), .lit (.int .i64 0)], .agg [.lit (.int .i64 0), .lit (.int .i64 0), .lit (.int .i64 2), .lit (.int .i64 0), .lit (.int .i64 5), .lit (.int .i64 2)], .agg [.lit (.int .i64 0), .lit (.int .i64 0), .lit (.int .i64 0), .lit (.int .i64 0), .lit (.int .i64 5), .lit (.int .i64 3)], .agg [.lit (.int .i64 0), .lit (.int .i64 0), .lit (.int .i64 0), .lit (.int .i64 0), .lit (.int .i64 6), .lit (.int .i64 4)], .agg [.lit (.int .i64 0), .lit (.int .i64 0), .lit (.int .i64 0), .lit (.int .i64 0), .lit (.int .i64 5), .lit (.int .i64 5)], .agg [.lit (.int .i64 0), .lit (.int .i64 0), .lit (.int .i64 0), .lit (.int .i64 0), .lit (.int .i64 6), .lit (.int .i64 6)], .agg [.lit (.int .i64 0), .lit (.int .i64 0), .lit (.int .i64 0), .lit (.int .i64 0), .lit (.int .i64 0), .lit (.int .i64 0)]]

/-- 'weirlaw17.FlowBack': WHATEVER THE INPUT: true; the input reads as it did. -/
def flowBackSpec : ChangeSpec := { name := "flowBack", fn := fun _ => fun
  | [d1, d2] => { results := [.lit (.bool true)], args := [d1, d2] }
  | _ => none }
def flowBackRow : OpenClaim := { program := "ytldnpibpbbcjgaadoor", sum := "062eef2a75f2da9d49c11791ec71d77eebc76a3b183d3b1d6dba2fd9efa19c81", func := "weir/weirlaw17.FlowBack", spec := "flowBack", unfollowed := true, recurses := true, named := ["weir/addr.nets", "weir/flow.out", "weir/flow.in"], plainKeys := false, apart := false, laid := [("weir/addr.nets", laid_weir_addr_nets), ("weir/flow.out", laid_weir_flow_out), ("weir/flow.in", laid_weir_flow_in)] }
def FlowBackSaid : Prop := flowBackRow.holds Tryd.pinned (OpenSpec.ofChange flowBackSpec)

/-- ITS FALSE NEIGHBOUR: 'it returns false'. Refute it at one input. -/
def flowBackWrong : ChangeSpec := { name := "flowBack", fn := fun _ => fun
  | [d1, d2] => { results := [.lit (.bool false)], args := [d1, d2] }
  | _ => none }
def FlowBackWrongFalsely : Prop := flowBackRow.holds Tryd.pinned (OpenSpec.ofChange flowBackWrong)

/-- 'weirlaw17.FlowPorts': WHATEVER THE INPUT: true; the input reads as it did. -/
def flowPortsSpec : ChangeSpec := { name := "flowPorts", fn := fun _ => fun
  | [d1, d2] => { results := [.lit (.bool true)], args := [d1, d2] }
  | _ => none }
def flowPortsRow : OpenClaim := { program := "ytldnpibpbbcjgaadoor", sum := "062eef2a75f2da9d49c11791ec71d77eebc76a3b183d3b1d6dba2fd9efa19c81", func := "weir/weirlaw17.FlowPorts", spec := "flowPorts", unfollowed := true, recurses := true, named := ["weir/addr.nets", "weir/flow.out", "weir/flow.in"], plainKeys := false, apart := false, laid := [("weir/addr.nets", laid_weir_addr_nets), ("weir/flow.out", laid_weir_flow_out), ("weir/flow.in", laid_weir_flow_in)] }
def FlowPortsSaid : Prop := flowPortsRow.holds Tryd.pinned (OpenSpec.ofChange flowPortsSpec)

/-- ITS FALSE NEIGHBOUR: 'it returns false'. Refute it at one input. -/
def flowPortsWrong : ChangeSpec := { name := "flowPorts", fn := fun _ => fun
  | [d1, d2] => { results := [.lit (.bool false)], args := [d1, d2] }
  | _ => none }
def FlowPortsWrongFalsely : Prop := flowPortsRow.holds Tryd.pinned (OpenSpec.ofChange flowPortsWrong)

/-- 'weirlaw17.FlowEnds': WHATEVER THE INPUT: true; the input reads as it did. -/
def flowEndsSpec : ChangeSpec := { name := "flowEnds", fn := fun _ => fun
  | [d1, d2] => { results := [.lit (.bool true)], args := [d1, d2] }
  | _ => none }
def flowEndsRow : OpenClaim := { program := "ytldnpibpbbcjgaadoor", sum := "062eef2a75f2da9d49c11791ec71d77eebc76a3b183d3b1d6dba2fd9efa19c81", func := "weir/weirlaw17.FlowEnds", spec := "flowEnds", unfollowed := true, recurses := true, named := ["weir/addr.nets", "weir/flow.out", "weir/flow.in"], plainKeys := false, apart := false, laid := [("weir/addr.nets", laid_weir_addr_nets), ("weir/flow.out", laid_weir_flow_out), ("weir/flow.in", laid_weir_flow_in)] }
def FlowEndsSaid : Prop := flowEndsRow.holds Tryd.pinned (OpenSpec.ofChange flowEndsSpec)

/-- ITS FALSE NEIGHBOUR: 'it returns false'. Refute it at one input. -/
def flowEndsWrong : ChangeSpec := { name := "flowEnds", fn := fun _ => fun
  | [d1, d2] => { results := [.lit (.bool false)], args := [d1, d2] }
  | _ => none }
def FlowEndsWrongFalsely : Prop := flowEndsRow.holds Tryd.pinned (OpenSpec.ofChange flowEndsWrong)

/-- 'weirlaw17.FlowMany': WHATEVER THE INPUT: true; the input reads as it did. -/
def flowManySpec : ChangeSpec := { name := "flowMany", fn := fun _ => fun
  | [d1, d2] => { results := [.lit (.bool true)], args := [d1, d2] }
  | _ => none }
def flowManyRow : OpenClaim := { program := "ytldnpibpbbcjgaadoor", sum := "062eef2a75f2da9d49c11791ec71d77eebc76a3b183d3b1d6dba2fd9efa19c81", func := "weir/weirlaw17.FlowMany", spec := "flowMany", unfollowed := true, recurses := true, named := ["weir/addr.nets", "weir/flow.out", "weir/flow.in"], plainKeys := false, apart := false, laid := [("weir/addr.nets", laid_weir_addr_nets), ("weir/flow.out", laid_weir_flow_out), ("weir/flow.in", laid_weir_flow_in)] }
def FlowManySaid : Prop := flowManyRow.holds Tryd.pinned (OpenSpec.ofChange flowManySpec)

/-- ITS FALSE NEIGHBOUR: 'it returns false'. Refute it at one input. -/
def flowManyWrong : ChangeSpec := { name := "flowMany", fn := fun _ => fun
  | [d1, d2] => { results := [.lit (.bool false)], args := [d1, d2] }
  | _ => none }
def FlowManyWrongFalsely : Prop := flowManyRow.holds Tryd.pinned (OpenSpec.ofChange flowManyWrong)

/-- 'weirlaw17.FlowLong': WHATEVER THE INPUT: true; the input reads as it did. -/
def flowLongSpec : ChangeSpec := { name := "flowLong", fn := fun _ => fun
  | [d1, d2] => { results := [.lit (.bool true)], args := [d1, d2] }
  | _ => none }
def flowLongRow : OpenClaim := { program := "ytldnpibpbbcjgaadoor", sum := "062eef2a75f2da9d49c11791ec71d77eebc76a3b183d3b1d6dba2fd9efa19c81", func := "weir/weirlaw17.FlowLong", spec := "flowLong", unfollowed := true, recurses := true, named := ["weir/addr.nets", "weir/flow.out", "weir/flow.in"], plainKeys := false, apart := false, laid := [("weir/addr.nets", laid_weir_addr_nets), ("weir/flow.out", laid_weir_flow_out), ("weir/flow.in", laid_weir_flow_in)] }
def FlowLongSaid : Prop := flowLongRow.holds Tryd.pinned (OpenSpec.ofChange flowLongSpec)

/-- ITS FALSE NEIGHBOUR: 'it returns false'. Refute it at one input. -/
def flowLongWrong : ChangeSpec := { name := "flowLong", fn := fun _ => fun
  | [d1, d2] => { results := [.lit (.bool false)], args := [d1, d2] }
  | _ => none }
def FlowLongWrongFalsely : Prop := flowLongRow.holds Tryd.pinned (OpenSpec.ofChange flowLongWrong)

/- THE SECOND FORM. 'bulk': how many values and letters a reading holds, each counted each time it is reached (what is shared counts as often as it is met; a slice's spare places count too). A statement '..UptoSaid' is the law's where the arguments, and the package variables that the reading takes, are together of bulk at most 1048576: NARROWER than '..Said'. Prove '..Said' where nothing that the law and all that it calls make is longer than what came in: it says more and counts as full. Else prove '..UptoSaid'. A law counts once. -/
mutual
def uptoBulk {H : Type} : DataW H → Nat
  | .lit (.string bytes) => bytes.length + 1
  | .lit _ => 1
  | .nil => 1
  | .ptr d => uptoBulk d + 1
  | .slice elems spare => uptoBulkAll elems + uptoBulkAll spare + 1
  | .agg parts => uptoBulkAll parts + 1
  | .iface _ d => uptoBulk d + 1
  | .map entries => uptoBulkEntries entries + 1
  | .held _ => 1
def uptoBulkAll {H : Type} : List (DataW H) → Nat
  | [] => 0
  | d :: r => uptoBulk d + uptoBulkAll r
def uptoBulkEntries {H : Type} : List (Lit × DataW H) → Nat
  | [] => 0
  | x :: r => uptoBulkEntry x + uptoBulkEntries r
def uptoBulkEntry {H : Type} : Lit × DataW H → Nat
  | (.string bytes, d) => bytes.length + uptoBulk d + 1
  | (_, d) => uptoBulk d + 1
 end
def uptoSmall : (H : Type) → List (DataW H) → Bool := fun _ ds => decide (uptoBulkAll ds ≤ 1048576)
def OpenSpec.upto (s : _root_.Go.ChangeSpec) : _root_.Go.OpenSpec := { _root_.Go.OpenSpec.ofChange s with cond := some uptoSmall }

/-- 'weirlaw17.FlowBack', WHERE WHAT IT READS IS OF BULK AT MOST 1048576: true; the input reads as it did. -/
def flowBackUptoRow : OpenClaim := { program := "ytldnpibpbbcjgaadoor", sum := "062eef2a75f2da9d49c11791ec71d77eebc76a3b183d3b1d6dba2fd9efa19c81", func := "weir/weirlaw17.FlowBack", spec := "flowBack", unfollowed := true, recurses := true, named := ["weir/addr.nets", "weir/flow.out", "weir/flow.in"], plainKeys := false, apart := false, laid := [("weir/addr.nets", laid_weir_addr_nets), ("weir/flow.out", laid_weir_flow_out), ("weir/flow.in", laid_weir_flow_in)], narrowed := true }
def FlowBackUptoSaid : Prop := flowBackUptoRow.holds Tryd.pinned (OpenSpec.upto flowBackSpec)

/-- 'weirlaw17.FlowPorts', WHERE WHAT IT READS IS OF BULK AT MOST 1048576: true; the input reads as it did. -/
def flowPortsUptoRow : OpenClaim := { program := "ytldnpibpbbcjgaadoor", sum := "062eef2a75f2da9d49c11791ec71d77eebc76a3b183d3b1d6dba2fd9efa19c81", func := "weir/weirlaw17.FlowPorts", spec := "flowPorts", unfollowed := true, recurses := true, named := ["weir/addr.nets", "weir/flow.out", "weir/flow.in"], plainKeys := false, apart := false, laid := [("weir/addr.nets", laid_weir_addr_nets), ("weir/flow.out", laid_weir_flow_out), ("weir/flow.in", laid_weir_flow_in)], narrowed := true }
def FlowPortsUptoSaid : Prop := flowPortsUptoRow.holds Tryd.pinned (OpenSpec.upto flowPortsSpec)

/-- 'weirlaw17.FlowEnds', WHERE WHAT IT READS IS OF BULK AT MOST 1048576: true; the input reads as it did. -/
def flowEndsUptoRow : OpenClaim := { program := "ytldnpibpbbcjgaadoor", sum := "062eef2a75f2da9d49c11791ec71d77eebc76a3b183d3b1d6dba2fd9efa19c81", func := "weir/weirlaw17.FlowEnds", spec := "flowEnds", unfollowed := true, recurses := true, named := ["weir/addr.nets", "weir/flow.out", "weir/flow.in"], plainKeys := false, apart := false, laid := [("weir/addr.nets", laid_weir_addr_nets), ("weir/flow.out", laid_weir_flow_out), ("weir/flow.in", laid_weir_flow_in)], narrowed := true }
def FlowEndsUptoSaid : Prop := flowEndsUptoRow.holds Tryd.pinned (OpenSpec.upto flowEndsSpec)

/-- 'weirlaw17.FlowMany', WHERE WHAT IT READS IS OF BULK AT MOST 1048576: true; the input reads as it did. -/
def flowManyUptoRow : OpenClaim := { program := "ytldnpibpbbcjgaadoor", sum := "062eef2a75f2da9d49c11791ec71d77eebc76a3b183d3b1d6dba2fd9efa19c81", func := "weir/weirlaw17.FlowMany", spec := "flowMany", unfollowed := true, recurses := true, named := ["weir/addr.nets", "weir/flow.out", "weir/flow.in"], plainKeys := false, apart := false, laid := [("weir/addr.nets", laid_weir_addr_nets), ("weir/flow.out", laid_weir_flow_out), ("weir/flow.in", laid_weir_flow_in)], narrowed := true }
def FlowManyUptoSaid : Prop := flowManyUptoRow.holds Tryd.pinned (OpenSpec.upto flowManySpec)

/-- 'weirlaw17.FlowLong', WHERE WHAT IT READS IS OF BULK AT MOST 1048576: true; the input reads as it did. -/
def flowLongUptoRow : OpenClaim := { program := "ytldnpibpbbcjgaadoor", sum := "062eef2a75f2da9d49c11791ec71d77eebc76a3b183d3b1d6dba2fd9efa19c81", func := "weir/weirlaw17.FlowLong", spec := "flowLong", unfollowed := true, recurses := true, named := ["weir/addr.nets", "weir/flow.out", "weir/flow.in"], plainKeys := false, apart := false, laid := [("weir/addr.nets", laid_weir_addr_nets), ("weir/flow.out", laid_weir_flow_out), ("weir/flow.in", laid_weir_flow_in)], narrowed := true }
def FlowLongUptoSaid : Prop := flowLongUptoRow.holds Tryd.pinned (OpenSpec.upto flowLongSpec)

end Rows
end Go.Proofs.YtldnpibpbbcjgaaDoor
