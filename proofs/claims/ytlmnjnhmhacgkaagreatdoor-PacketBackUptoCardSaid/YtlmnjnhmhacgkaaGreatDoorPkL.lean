/-
  Closed facts of the row packetBack. Printed by a program (wip/pk/rowfacts.py).
-/
import Derived.Test.YtlmnjnhmhacgkaaGreatDoorPkK
section
set_option linter.unusedVariables false
set_option maxRecDepth 100000
namespace Go.Proofs.YtlmnjnhmhacgkaaGreatDoor.Top
open Go Go.Am Go.Proofs Go.Proofs.YtlmnjnhmhacgkaaGreatDoor.Am
theorem packetBack_k0 : (Rows.packetBackUptoRow.wf (OpenSpec.ofChange Rows.packetBackSpec)) = true := by kernel_rfl
theorem packetBack_k1 : (laidOutB Tryz.pinned.checked.prog) = true := by kernel_rfl
theorem packetBack_k2 : (mapsRowed Tryz.pinned.checked.prog) = true := by kernel_rfl
theorem packetBack_k3 : (Tryz.f5.params.all (Tryz.pinned.checked.prog.readableRec ·)) = true := by kernel_rfl
theorem packetBack_k4 : (namedTie Tryz.pinned.checked.prog Rows.packetBackUptoRow.named Rows.packetBackSpec.vars) = true := by kernel_rfl
theorem packetBack_k5 : ((Rows.packetBackUptoRow.stops == [])) = true := by kernel_rfl
theorem packetBack_k6 : ((Tryz.pinned.checked.prog.stops == [])) = true := by kernel_rfl
theorem packetBack_k7 : ((Rows.packetBackUptoRow.knobs == [])) = true := by kernel_rfl
theorem packetBack_k8 : ((Tryz.pinned.checked.prog.stopKnobs == [])) = true := by kernel_rfl
theorem packetBack_k9 : ((Rows.packetBackUptoRow.inPlace == Tryz.pinned.checked.prog.inPlace 5)) = true := by kernel_rfl
theorem packetBack_k10 : ((Rows.packetBackUptoRow.unfollowed == Tryz.pinned.checked.prog.unfollowed 5)) = true := by kernel_rfl
theorem packetBack_k11 : ((Rows.packetBackUptoRow.recurses == Tryz.pinned.checked.prog.recurses 5)) = true := by kernel_rfl
theorem packetBack_k12 : ((Rows.packetBackUptoRow.named == Tryz.pinned.checked.prog.varsNamed 5)) = true := by kernel_rfl
theorem packetBack_k13 : ((Rows.packetBackUptoRow.maps == (Tryz.f5.params.toList ++ Rows.packetBackSpec.plain.varTypes Tryz.pinned.checked.prog).any (Tryz.pinned.checked.prog.mapsRec ·))) = true := by kernel_rfl
theorem packetBack_k14 : ((Rows.packetBackUptoRow.ifaces == (Tryz.f5.params.toList ++ Rows.packetBackSpec.plain.varTypes Tryz.pinned.checked.prog).any (Tryz.pinned.checked.prog.ifacesRec ·))) = true := by kernel_rfl
theorem packetBack_k15 : ((Rows.packetBackUptoRow.mapsOut == Tryz.pinned.checked.prog.mapsAmong Tryz.f5.resultTypes.toList)) = true := by kernel_rfl
end Go.Proofs.YtlmnjnhmhacgkaaGreatDoor.Top
end
