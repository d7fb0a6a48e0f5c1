/-
  Closed facts of the row packetUnlike. Printed by a program (wip/pk/rowfacts.py).
-/
import Derived.Test.YtlmnjnhmhacgkaaGreatDoorPkK
section
set_option linter.unusedVariables false
set_option maxRecDepth 100000
namespace Go.Proofs.YtlmnjnhmhacgkaaGreatDoor.Top
open Go Go.Am Go.Proofs Go.Proofs.YtlmnjnhmhacgkaaGreatDoor.Am
theorem packetUnlike_k0 : (Rows.packetUnlikeUptoRow.wf (OpenSpec.ofChange Rows.packetUnlikeSpec)) = true := by kernel_rfl
theorem packetUnlike_k1 : (laidOutB Tryz.pinned.checked.prog) = true := by kernel_rfl
theorem packetUnlike_k2 : (mapsRowed Tryz.pinned.checked.prog) = true := by kernel_rfl
theorem packetUnlike_k3 : (Tryz.f3.params.all (Tryz.pinned.checked.prog.readableRec ·)) = true := by kernel_rfl
theorem packetUnlike_k4 : (namedTie Tryz.pinned.checked.prog Rows.packetUnlikeUptoRow.named Rows.packetUnlikeSpec.vars) = true := by kernel_rfl
theorem packetUnlike_k5 : ((Rows.packetUnlikeUptoRow.stops == [])) = true := by kernel_rfl
theorem packetUnlike_k6 : ((Tryz.pinned.checked.prog.stops == [])) = true := by kernel_rfl
theorem packetUnlike_k7 : ((Rows.packetUnlikeUptoRow.knobs == [])) = true := by kernel_rfl
theorem packetUnlike_k8 : ((Tryz.pinned.checked.prog.stopKnobs == [])) = true := by kernel_rfl
theorem packetUnlike_k9 : ((Rows.packetUnlikeUptoRow.inPlace == Tryz.pinned.checked.prog.inPlace 3)) = true := by kernel_rfl
theorem packetUnlike_k10 : ((Rows.packetUnlikeUptoRow.unfollowed == Tryz.pinned.checked.prog.unfollowed 3)) = true := by kernel_rfl
theorem packetUnlike_k11 : ((Rows.packetUnlikeUptoRow.recurses == Tryz.pinned.checked.prog.recurses 3)) = true := by kernel_rfl
theorem packetUnlike_k12 : ((Rows.packetUnlikeUptoRow.named == Tryz.pinned.checked.prog.varsNamed 3)) = true := by kernel_rfl
theorem packetUnlike_k13 : ((Rows.packetUnlikeUptoRow.maps == (Tryz.f3.params.toList ++ Rows.packetUnlikeSpec.plain.varTypes Tryz.pinned.checked.prog).any (Tryz.pinned.checked.prog.mapsRec ·))) = true := by kernel_rfl
theorem packetUnlike_k14 : ((Rows.packetUnlikeUptoRow.ifaces == (Tryz.f3.params.toList ++ Rows.packetUnlikeSpec.plain.varTypes Tryz.pinned.checked.prog).any (Tryz.pinned.checked.prog.ifacesRec ·))) = true := by kernel_rfl
theorem packetUnlike_k15 : ((Rows.packetUnlikeUptoRow.mapsOut == Tryz.pinned.checked.prog.mapsAmong Tryz.f3.resultTypes.toList)) = true := by kernel_rfl
end Go.Proofs.YtlmnjnhmhacgkaaGreatDoor.Top
end
