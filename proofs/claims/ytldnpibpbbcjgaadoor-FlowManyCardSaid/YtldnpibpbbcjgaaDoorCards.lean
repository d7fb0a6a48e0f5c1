/-
  DERIVED. GIVEN WITH THE SEED: THE CARDS: each row of YtldnpibpbbcjgaaDoorRows.lean that lists a variable, with what it lists TIED to the program's text (the seventh form; the later family's looks); each row that meets fmt, with fmt's text TOLD by the authors' own Lean function (tested against real Go, not proved from fmt's source: count such statements apart). THE CARD IS WHAT COUNTS. Prove the row's statement (the work); the ties are given (YtldnpibpbbcjgaaDoorTie.lean); close each card by the builder's one call (the guide's Derived/Test/ToyasCard.lean, 'card_holds'). Laid BY PROGRAM, IN A SANDBOX (cutbox-door.mjs). By AI agents, Wed Nov 11 2026. No macro, syntax, notation, axiom, sorry.
-/
import Derived.Test.YtldnpibpbbcjgaaDoorRows
import GoSem.ClaimSeven
namespace Go.Proofs.YtldnpibpbbcjgaaDoor
namespace Rows

/-- THE TIED CARD OF 'weirlaw17.FlowBack'. -/
def flowBackCard : Claim7 := { stood := { row := flowBackRow, standIns := [], harness := (true, "6e59e2ca822a059749bbdd76a18203719dc762f4033304356116a2a8ba26646a"), looks := false }, kinds := [], alts := [], laidByText := true, laidKinds := [.data, .data, .data], laidTests := true, laidLooks := .later }
def FlowBackCardSaid : Prop := Claim7.holds Tryd.pinned (.plain (OpenSpec.ofChange flowBackSpec)) flowBackCard

/-- THE TIED CARD OF 'weirlaw17.FlowPorts'. -/
def flowPortsCard : Claim7 := { stood := { row := flowPortsRow, standIns := [], harness := (true, "6e59e2ca822a059749bbdd76a18203719dc762f4033304356116a2a8ba26646a"), looks := false }, kinds := [], alts := [], laidByText := true, laidKinds := [.data, .data, .data], laidTests := true, laidLooks := .later }
def FlowPortsCardSaid : Prop := Claim7.holds Tryd.pinned (.plain (OpenSpec.ofChange flowPortsSpec)) flowPortsCard

/-- THE TIED CARD OF 'weirlaw17.FlowEnds'. -/
def flowEndsCard : Claim7 := { stood := { row := flowEndsRow, standIns := [], harness := (true, "6e59e2ca822a059749bbdd76a18203719dc762f4033304356116a2a8ba26646a"), looks := false }, kinds := [], alts := [], laidByText := true, laidKinds := [.data, .data, .data], laidTests := true, laidLooks := .later }
def FlowEndsCardSaid : Prop := Claim7.holds Tryd.pinned (.plain (OpenSpec.ofChange flowEndsSpec)) flowEndsCard

/-- THE TIED CARD OF 'weirlaw17.FlowMany'. -/
def flowManyCard : Claim7 := { stood := { row := flowManyRow, standIns := [], harness := (true, "6e59e2ca822a059749bbdd76a18203719dc762f4033304356116a2a8ba26646a"), looks := false }, kinds := [], alts := [], laidByText := true, laidKinds := [.data, .data, .data], laidTests := true, laidLooks := .later }
def FlowManyCardSaid : Prop := Claim7.holds Tryd.pinned (.plain (OpenSpec.ofChange flowManySpec)) flowManyCard

/-- THE TIED CARD OF 'weirlaw17.FlowLong'. -/
def flowLongCard : Claim7 := { stood := { row := flowLongRow, standIns := [], harness := (true, "6e59e2ca822a059749bbdd76a18203719dc762f4033304356116a2a8ba26646a"), looks := false }, kinds := [], alts := [], laidByText := true, laidKinds := [.data, .data, .data], laidTests := true, laidLooks := .later }
def FlowLongCardSaid : Prop := Claim7.holds Tryd.pinned (.plain (OpenSpec.ofChange flowLongSpec)) flowLongCard

/-- THE SECOND FORM's CARD OF 'weirlaw17.FlowBack'. -/
def flowBackUptoCard : Claim7 := { stood := { row := flowBackUptoRow, standIns := [], harness := (true, "6e59e2ca822a059749bbdd76a18203719dc762f4033304356116a2a8ba26646a"), looks := false }, kinds := [], alts := [], laidByText := true, laidKinds := [.data, .data, .data], laidTests := true, laidLooks := .later }
def FlowBackUptoCardSaid : Prop := Claim7.holds Tryd.pinned (.plain (OpenSpec.upto flowBackSpec)) flowBackUptoCard

/-- THE SECOND FORM's CARD OF 'weirlaw17.FlowPorts'. -/
def flowPortsUptoCard : Claim7 := { stood := { row := flowPortsUptoRow, standIns := [], harness := (true, "6e59e2ca822a059749bbdd76a18203719dc762f4033304356116a2a8ba26646a"), looks := false }, kinds := [], alts := [], laidByText := true, laidKinds := [.data, .data, .data], laidTests := true, laidLooks := .later }
def FlowPortsUptoCardSaid : Prop := Claim7.holds Tryd.pinned (.plain (OpenSpec.upto flowPortsSpec)) flowPortsUptoCard

/-- THE SECOND FORM's CARD OF 'weirlaw17.FlowEnds'. -/
def flowEndsUptoCard : Claim7 := { stood := { row := flowEndsUptoRow, standIns := [], harness := (true, "6e59e2ca822a059749bbdd76a18203719dc762f4033304356116a2a8ba26646a"), looks := false }, kinds := [], alts := [], laidByText := true, laidKinds := [.data, .data, .data], laidTests := true, laidLooks := .later }
def FlowEndsUptoCardSaid : Prop := Claim7.holds Tryd.pinned (.plain (OpenSpec.upto flowEndsSpec)) flowEndsUptoCard

/-- THE SECOND FORM's CARD OF 'weirlaw17.FlowMany'. -/
def flowManyUptoCard : Claim7 := { stood := { row := flowManyUptoRow, standIns := [], harness := (true, "6e59e2ca822a059749bbdd76a18203719dc762f4033304356116a2a8ba26646a"), looks := false }, kinds := [], alts := [], laidByText := true, laidKinds := [.data, .data, .data], laidTests := true, laidLooks := .later }
def FlowManyUptoCardSaid : Prop := Claim7.holds Tryd.pinned (.plain (OpenSpec.upto flowManySpec)) flowManyUptoCard

/-- THE SECOND FORM's CARD OF 'weirlaw17.FlowLong'. -/
def flowLongUptoCard : Claim7 := { stood := { row := flowLongUptoRow, standIns := [], harness := (true, "6e59e2ca822a059749bbdd76a18203719dc762f4033304356116a2a8ba26646a"), looks := false }, kinds := [], alts := [], laidByText := true, laidKinds := [.data, .data, .data], laidTests := true, laidLooks := .later }
def FlowLongUptoCardSaid : Prop := Claim7.holds Tryd.pinned (.plain (OpenSpec.upto flowLongSpec)) flowLongUptoCard
end Rows
end Go.Proofs.YtldnpibpbbcjgaaDoor
