/-
  DERIVED. GIVEN WITH THE SEED: THE CARDS: each row of YtlmnjnhmhacgkaaDoorRows.lean that lists a variable, with what it lists TIED to the program's text (the seventh form; the later family's looks); each row that meets fmt, with fmt's text TOLD by the authors' own Lean function (tested against real Go, not proved from fmt's source: count such statements apart). THE CARD IS WHAT COUNTS. Prove the row's statement (the work); the ties are given (YtlmnjnhmhacgkaaDoorTie.lean); close each card by the builder's one call (the guide's Derived/Test/ToyasCard.lean, 'card_holds'). Laid BY PROGRAM, IN A SANDBOX (cutbox-door.mjs). By AI agents, Wed Nov 11 2026. No macro, syntax, notation, axiom, sorry.
-/
import Derived.Test.YtlmnjnhmhacgkaaDoorRows
import GoSem.ClaimSeven
namespace Go.Proofs.YtlmnjnhmhacgkaaDoor
namespace Rows

/-- THE TIED CARD OF 'weirlaw17.FlowRewrites'. -/
def flowRewritesCard : Claim7 := { stood := { row := flowRewritesRow, standIns := [], harness := (true, "7f416b0587518540f830efacdb783e77ab61dd917f3f1a9f160475640bb1a964"), looks := false }, kinds := [], alts := [], laidByText := true, laidKinds := [.data, .data, .data, .data, .data], laidTests := true, laidLooks := .later }
def FlowRewritesCardSaid : Prop := Claim7.holds Tryd.pinned (.plain (OpenSpec.ofChange flowRewritesSpec)) flowRewritesCard

/-- THE SECOND FORM's CARD OF 'weirlaw17.FlowRewrites'. -/
def flowRewritesUptoCard : Claim7 := { stood := { row := flowRewritesUptoRow, standIns := [], harness := (true, "7f416b0587518540f830efacdb783e77ab61dd917f3f1a9f160475640bb1a964"), looks := false }, kinds := [], alts := [], laidByText := true, laidKinds := [.data, .data, .data, .data, .data], laidTests := true, laidLooks := .later }
def FlowRewritesUptoCardSaid : Prop := Claim7.holds Tryd.pinned (.plain (OpenSpec.upto flowRewritesSpec)) flowRewritesUptoCard
end Rows
end Go.Proofs.YtlmnjnhmhacgkaaDoor
