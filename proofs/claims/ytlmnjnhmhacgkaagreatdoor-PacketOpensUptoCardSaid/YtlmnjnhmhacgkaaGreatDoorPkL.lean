/-
  Closed facts of the row packetOpens. Printed by a program (wip/pk/rowfacts.py).
-/
import Derived.Test.YtlmnjnhmhacgkaaGreatDoorPkK
section
set_option linter.unusedVariables false
set_option maxRecDepth 100000
namespace Go.Proofs.YtlmnjnhmhacgkaaGreatDoor.Top
open Go Go.Am Go.Proofs Go.Proofs.YtlmnjnhmhacgkaaGreatDoor.Am
theorem packetOpens_k0 : (Rows.packetOpensUptoRow.wf (OpenSpec.ofChange Rows.packetOpensSpec)) = true := by kernel_rfl
theorem packetOpens_k1 : (laidOutB Tryz.pinned.checked.prog) = true := by kernel_rfl
theorem packetOpens_k2 : (mapsRowed Tryz.pinned.checked.prog) = true := by kernel_rfl
theorem packetOpens_k3 : (Tryz.f7.params.all (Tryz.pinned.checked.prog.readableRec ·)) = true := by kernel_rfl
theorem packetOpens_k4 : (namedTie Tryz.pinned.checked.prog Rows.packetOpensUptoRow.named Rows.packetOpensSpec.vars) = true := by kernel_rfl
theorem packetOpens_k5 : ((Rows.packetOpensUptoRow.stops == [])) = true := by kernel_rfl
theorem packetOpens_k6 : ((Tryz.pinned.checked.prog.stops == [])) = true := by kernel_rfl
theorem packetOpens_k7 : ((Rows.packetOpensUptoRow.knobs == [])) = true := by kernel_rfl
theorem packetOpens_k8 : ((Tryz.pinned.checked.prog.stopKnobs == [])) = true := by kernel_rfl
theorem packetOpens_k9 : ((Rows.packetOpensUptoRow.inPlace == Tryz.pinned.checked.prog.inPlace 7)) = true := by kernel_rfl
theorem packetOpens_k10 : ((Rows.packetOpensUptoRow.unfollowed == Tryz.pinned.checked.prog.unfollowed 7)) = true := by kernel_rfl
theorem packetOpens_k11 : ((Rows.packetOpensUptoRow.recurses == Tryz.pinned.checked.prog.recurses 7)) = true := by kernel_rfl
theorem packetOpens_k12 : ((Rows.packetOpensUptoRow.named == Tryz.pinned.checked.prog.varsNamed 7)) = true := by kernel_rfl
theorem packetOpens_k13 : ((Rows.packetOpensUptoRow.maps == (Tryz.f7.params.toList ++ Rows.packetOpensSpec.plain.varTypes Tryz.pinned.checked.prog).any (Tryz.pinned.checked.prog.mapsRec ·))) = true := by kernel_rfl
theorem packetOpens_k14 : ((Rows.packetOpensUptoRow.ifaces == (Tryz.f7.params.toList ++ Rows.packetOpensSpec.plain.varTypes Tryz.pinned.checked.prog).any (Tryz.pinned.checked.prog.ifacesRec ·))) = true := by kernel_rfl
theorem packetOpens_k15 : ((Rows.packetOpensUptoRow.mapsOut == Tryz.pinned.checked.prog.mapsAmong Tryz.f7.resultTypes.toList)) = true := by kernel_rfl
end Go.Proofs.YtlmnjnhmhacgkaaGreatDoor.Top
end
