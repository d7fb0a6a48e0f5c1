/-
  DERIVED. GIVEN WITH THE SEED: THE CARDS: each row of YtlmnjnhmhacgkaaGreatDoorRows.lean that lists a variable, with what it lists TIED to the program's text (the seventh form; the later family's looks); each row that meets fmt, with fmt's text TOLD by the authors' own Lean function (tested against real Go, not proved from fmt's source: count such statements apart). THE CARD IS WHAT COUNTS. Prove the row's statement (the work); the ties are given (YtlmnjnhmhacgkaaGreatDoorTie.lean); close each card by the builder's one call (the guide's Derived/Test/ToyasCard.lean, 'card_holds'). Laid BY PROGRAM, IN A SANDBOX (cutbox-door.mjs). By AI agents, Wed Nov 11 2026. No macro, syntax, notation, axiom, sorry.
-/
import Derived.Test.YtlmnjnhmhacgkaaGreatDoorRows
import GoSem.ClaimSeven
namespace Go.Proofs.YtlmnjnhmhacgkaaGreatDoor
namespace Rows

/-- THE TIED CARD OF 'weirlaw10.PacketUnlike'. -/
def packetUnlikeCard : Claim7 := { stood := { row := packetUnlikeRow, standIns := [], harness := (true, "de1881f335d967bb94e2e97f87fb5b88821b989b9c4e96864de1193f0998bff6"), looks := false }, kinds := [], alts := [], goes := true, laidByText := true, laidKinds := [.data, .data, .data, .data, .data], laidTests := true, laidLooks := .later }
def PacketUnlikeCardSaid : Prop := Claim7.holds Tryz.pinned (.plain (OpenSpec.ofChange packetUnlikeSpec)) packetUnlikeCard

/-- THE TIED CARD OF 'weirlaw10.PacketSums'. -/
def packetSumsCard : Claim7 := { stood := { row := packetSumsRow, standIns := [], harness := (true, "de1881f335d967bb94e2e97f87fb5b88821b989b9c4e96864de1193f0998bff6"), looks := false }, kinds := [], alts := [], goes := true, laidByText := true, laidKinds := [.data, .data, .data, .data, .data], laidTests := true, laidLooks := .later }
def PacketSumsCardSaid : Prop := Claim7.holds Tryz.pinned (.plain (OpenSpec.ofChange packetSumsSpec)) packetSumsCard

/-- THE TIED CARD OF 'weirlaw10.PacketBack'. -/
def packetBackCard : Claim7 := { stood := { row := packetBackRow, standIns := [], harness := (true, "de1881f335d967bb94e2e97f87fb5b88821b989b9c4e96864de1193f0998bff6"), looks := false }, kinds := [], alts := [], goes := true, laidByText := true, laidKinds := [.data, .data, .data, .data, .data], laidTests := true, laidLooks := .later }
def PacketBackCardSaid : Prop := Claim7.holds Tryz.pinned (.plain (OpenSpec.ofChange packetBackSpec)) packetBackCard

/-- THE TIED CARD OF 'weirlaw10.PacketCanon'. -/
def packetCanonCard : Claim7 := { stood := { row := packetCanonRow, standIns := [], harness := (true, "de1881f335d967bb94e2e97f87fb5b88821b989b9c4e96864de1193f0998bff6"), looks := false }, kinds := [], alts := [], goes := true, laidByText := true, laidKinds := [.data, .data, .data, .data, .data], laidTests := true, laidLooks := .later }
def PacketCanonCardSaid : Prop := Claim7.holds Tryz.pinned (.plain (OpenSpec.ofChange packetCanonSpec)) packetCanonCard

/-- THE TIED CARD OF 'weirlaw10.PacketOpens'. -/
def packetOpensCard : Claim7 := { stood := { row := packetOpensRow, standIns := [], harness := (true, "de1881f335d967bb94e2e97f87fb5b88821b989b9c4e96864de1193f0998bff6"), looks := false }, kinds := [], alts := [], goes := true, laidByText := true, laidKinds := [.data, .data, .data, .data, .data], laidTests := true, laidLooks := .later }
def PacketOpensCardSaid : Prop := Claim7.holds Tryz.pinned (.plain (OpenSpec.ofChange packetOpensSpec)) packetOpensCard

/-- THE TIED CARD OF 'weirlaw10.PacketTuples'. -/
def packetTuplesCard : Claim7 := { stood := { row := packetTuplesRow, standIns := [], harness := (true, "de1881f335d967bb94e2e97f87fb5b88821b989b9c4e96864de1193f0998bff6"), looks := false }, kinds := [], alts := [], goes := true, laidByText := true, laidKinds := [.data, .data, .data, .data, .data], laidTests := true, laidLooks := .later }
def PacketTuplesCardSaid : Prop := Claim7.holds Tryz.pinned (.plain (OpenSpec.ofChange packetTuplesSpec)) packetTuplesCard

/-- THE TIED CARD OF 'weirlaw10.PacketReads'. -/
def packetReadsCard : Claim7 := { stood := { row := packetReadsRow, standIns := [], harness := (true, "de1881f335d967bb94e2e97f87fb5b88821b989b9c4e96864de1193f0998bff6"), looks := false }, kinds := [], alts := [], goes := true, laidByText := true, laidKinds := [.data, .data, .data, .data, .data], laidTests := true, laidLooks := .later }
def PacketReadsCardSaid : Prop := Claim7.holds Tryz.pinned (.plain (OpenSpec.ofChange packetReadsSpec)) packetReadsCard

/-- THE TIED CARD OF 'weirlaw10.PacketWrites'. -/
def packetWritesCard : Claim7 := { stood := { row := packetWritesRow, standIns := [], harness := (true, "de1881f335d967bb94e2e97f87fb5b88821b989b9c4e96864de1193f0998bff6"), looks := false }, kinds := [], alts := [], goes := true, laidByText := true, laidKinds := [.data, .data, .data, .data, .data], laidTests := true, laidLooks := .later }
def PacketWritesCardSaid : Prop := Claim7.holds Tryz.pinned (.plain (OpenSpec.ofChange packetWritesSpec)) packetWritesCard

/-- THE TIED CARD OF 'weirlaw10.PacketTurns'. -/
def packetTurnsCard : Claim7 := { stood := { row := packetTurnsRow, standIns := [], harness := (true, "de1881f335d967bb94e2e97f87fb5b88821b989b9c4e96864de1193f0998bff6"), looks := false }, kinds := [], alts := [], goes := true, laidByText := true, laidKinds := [.data, .data, .data, .data, .data], laidTests := true, laidLooks := .later }
def PacketTurnsCardSaid : Prop := Claim7.holds Tryz.pinned (.plain (OpenSpec.ofChange packetTurnsSpec)) packetTurnsCard

/-- THE TIED CARD OF 'weirlaw10.PacketPlays'. -/
def packetPlaysCard : Claim7 := { stood := { row := packetPlaysRow, standIns := [], harness := (true, "de1881f335d967bb94e2e97f87fb5b88821b989b9c4e96864de1193f0998bff6"), looks := false }, kinds := [], alts := [], goes := true, laidByText := true, laidKinds := [.data, .data, .data, .data, .data], laidTests := true, laidLooks := .later }
def PacketPlaysCardSaid : Prop := Claim7.holds Tryz.pinned (.plain (OpenSpec.ofChange packetPlaysSpec)) packetPlaysCard

/-- THE SECOND FORM's CARD OF 'weirlaw10.PacketUnlike'. -/
def packetUnlikeUptoCard : Claim7 := { stood := { row := packetUnlikeUptoRow, standIns := [], harness := (true, "de1881f335d967bb94e2e97f87fb5b88821b989b9c4e96864de1193f0998bff6"), looks := false }, kinds := [], alts := [], goes := true, laidByText := true, laidKinds := [.data, .data, .data, .data, .data], laidTests := true, laidLooks := .later }
def PacketUnlikeUptoCardSaid : Prop := Claim7.holds Tryz.pinned (.plain (OpenSpec.upto packetUnlikeSpec)) packetUnlikeUptoCard

/-- THE SECOND FORM's CARD OF 'weirlaw10.PacketSums'. -/
def packetSumsUptoCard : Claim7 := { stood := { row := packetSumsUptoRow, standIns := [], harness := (true, "de1881f335d967bb94e2e97f87fb5b88821b989b9c4e96864de1193f0998bff6"), looks := false }, kinds := [], alts := [], goes := true, laidByText := true, laidKinds := [.data, .data, .data, .data, .data], laidTests := true, laidLooks := .later }
def PacketSumsUptoCardSaid : Prop := Claim7.holds Tryz.pinned (.plain (OpenSpec.upto packetSumsSpec)) packetSumsUptoCard

/-- THE SECOND FORM's CARD OF 'weirlaw10.PacketBack'. -/
def packetBackUptoCard : Claim7 := { stood := { row := packetBackUptoRow, standIns := [], harness := (true, "de1881f335d967bb94e2e97f87fb5b88821b989b9c4e96864de1193f0998bff6"), looks := false }, kinds := [], alts := [], goes := true, laidByText := true, laidKinds := [.data, .data, .data, .data, .data], laidTests := true, laidLooks := .later }
def PacketBackUptoCardSaid : Prop := Claim7.holds Tryz.pinned (.plain (OpenSpec.upto packetBackSpec)) packetBackUptoCard

/-- THE SECOND FORM's CARD OF 'weirlaw10.PacketCanon'. -/
def packetCanonUptoCard : Claim7 := { stood := { row := packetCanonUptoRow, standIns := [], harness := (true, "de1881f335d967bb94e2e97f87fb5b88821b989b9c4e96864de1193f0998bff6"), looks := false }, kinds := [], alts := [], goes := true, laidByText := true, laidKinds := [.data, .data, .data, .data, .data], laidTests := true, laidLooks := .later }
def PacketCanonUptoCardSaid : Prop := Claim7.holds Tryz.pinned (.plain (OpenSpec.upto packetCanonSpec)) packetCanonUptoCard

/-- THE SECOND FORM's CARD OF 'weirlaw10.PacketOpens'. -/
def packetOpensUptoCard : Claim7 := { stood := { row := packetOpensUptoRow, standIns := [], harness := (true, "de1881f335d967bb94e2e97f87fb5b88821b989b9c4e96864de1193f0998bff6"), looks := false }, kinds := [], alts := [], goes := true, laidByText := true, laidKinds := [.data, .data, .data, .data, .data], laidTests := true, laidLooks := .later }
def PacketOpensUptoCardSaid : Prop := Claim7.holds Tryz.pinned (.plain (OpenSpec.upto packetOpensSpec)) packetOpensUptoCard

/-- THE SECOND FORM's CARD OF 'weirlaw10.PacketTuples'. -/
def packetTuplesUptoCard : Claim7 := { stood := { row := packetTuplesUptoRow, standIns := [], harness := (true, "de1881f335d967bb94e2e97f87fb5b88821b989b9c4e96864de1193f0998bff6"), looks := false }, kinds := [], alts := [], goes := true, laidByText := true, laidKinds := [.data, .data, .data, .data, .data], laidTests := true, laidLooks := .later }
def PacketTuplesUptoCardSaid : Prop := Claim7.holds Tryz.pinned (.plain (OpenSpec.upto packetTuplesSpec)) packetTuplesUptoCard

/-- THE SECOND FORM's CARD OF 'weirlaw10.PacketReads'. -/
def packetReadsUptoCard : Claim7 := { stood := { row := packetReadsUptoRow, standIns := [], harness := (true, "de1881f335d967bb94e2e97f87fb5b88821b989b9c4e96864de1193f0998bff6"), looks := false }, kinds := [], alts := [], goes := true, laidByText := true, laidKinds := [.data, .data, .data, .data, .data], laidTests := true, laidLooks := .later }
def PacketReadsUptoCardSaid : Prop := Claim7.holds Tryz.pinned (.plain (OpenSpec.upto packetReadsSpec)) packetReadsUptoCard

/-- THE SECOND FORM's CARD OF 'weirlaw10.PacketWrites'. -/
def packetWritesUptoCard : Claim7 := { stood := { row := packetWritesUptoRow, standIns := [], harness := (true, "de1881f335d967bb94e2e97f87fb5b88821b989b9c4e96864de1193f0998bff6"), looks := false }, kinds := [], alts := [], goes := true, laidByText := true, laidKinds := [.data, .data, .data, .data, .data], laidTests := true, laidLooks := .later }
def PacketWritesUptoCardSaid : Prop := Claim7.holds Tryz.pinned (.plain (OpenSpec.upto packetWritesSpec)) packetWritesUptoCard

/-- THE SECOND FORM's CARD OF 'weirlaw10.PacketTurns'. -/
def packetTurnsUptoCard : Claim7 := { stood := { row := packetTurnsUptoRow, standIns := [], harness := (true, "de1881f335d967bb94e2e97f87fb5b88821b989b9c4e96864de1193f0998bff6"), looks := false }, kinds := [], alts := [], goes := true, laidByText := true, laidKinds := [.data, .data, .data, .data, .data], laidTests := true, laidLooks := .later }
def PacketTurnsUptoCardSaid : Prop := Claim7.holds Tryz.pinned (.plain (OpenSpec.upto packetTurnsSpec)) packetTurnsUptoCard

/-- THE SECOND FORM's CARD OF 'weirlaw10.PacketPlays'. -/
def packetPlaysUptoCard : Claim7 := { stood := { row := packetPlaysUptoRow, standIns := [], harness := (true, "de1881f335d967bb94e2e97f87fb5b88821b989b9c4e96864de1193f0998bff6"), looks := false }, kinds := [], alts := [], goes := true, laidByText := true, laidKinds := [.data, .data, .data, .data, .data], laidTests := true, laidLooks := .later }
def PacketPlaysUptoCardSaid : Prop := Claim7.holds Tryz.pinned (.plain (OpenSpec.upto packetPlaysSpec)) packetPlaysUptoCard
end Rows
end Go.Proofs.YtlmnjnhmhacgkaaGreatDoor
