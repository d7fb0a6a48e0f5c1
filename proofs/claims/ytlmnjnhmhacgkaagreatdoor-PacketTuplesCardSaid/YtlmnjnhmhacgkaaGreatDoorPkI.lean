/-
  Closed facts of the row packetTuples. Printed by a program (wip/pk/rowfacts.py).
-/
import Derived.Test.YtlmnjnhmhacgkaaGreatDoorPkH
section
set_option linter.unusedVariables false
set_option maxRecDepth 100000
namespace Go.Proofs.YtlmnjnhmhacgkaaGreatDoor.Top
open Go Go.Am Go.Proofs Go.Proofs.YtlmnjnhmhacgkaaGreatDoor.Am

theorem packetTuples_k0 : (Rows.packetTuplesRow.wf (OpenSpec.ofChange Rows.packetTuplesSpec)) = true := by kernel_rfl
theorem packetTuples_k1 : (laidOutB Tryz.pinned.checked.prog) = true := by kernel_rfl
theorem packetTuples_k2 : (mapsRowed Tryz.pinned.checked.prog) = true := by kernel_rfl
theorem packetTuples_k3 : (Tryz.f8.params.all (Tryz.pinned.checked.prog.readableRec ·)) = true := by kernel_rfl
theorem packetTuples_k4 : (namedTie Tryz.pinned.checked.prog Rows.packetTuplesRow.named Rows.packetTuplesSpec.vars) = true := by kernel_rfl
theorem packetTuples_k5 : ((Rows.packetTuplesRow.stops == [])) = true := by kernel_rfl
theorem packetTuples_k6 : ((Tryz.pinned.checked.prog.stops == [])) = true := by kernel_rfl
theorem packetTuples_k7 : ((Rows.packetTuplesRow.knobs == [])) = true := by kernel_rfl
theorem packetTuples_k8 : ((Tryz.pinned.checked.prog.stopKnobs == [])) = true := by kernel_rfl
theorem packetTuples_k9 : ((Rows.packetTuplesRow.inPlace == Tryz.pinned.checked.prog.inPlace 8)) = true := by kernel_rfl
theorem packetTuples_k10 : ((Rows.packetTuplesRow.unfollowed == Tryz.pinned.checked.prog.unfollowed 8)) = true := by kernel_rfl
theorem packetTuples_k11 : ((Rows.packetTuplesRow.recurses == Tryz.pinned.checked.prog.recurses 8)) = true := by kernel_rfl
theorem packetTuples_k12 : ((Rows.packetTuplesRow.named == Tryz.pinned.checked.prog.varsNamed 8)) = true := by kernel_rfl
theorem packetTuples_k13 : ((Rows.packetTuplesRow.maps == (Tryz.f8.params.toList ++ Rows.packetTuplesSpec.plain.varTypes Tryz.pinned.checked.prog).any (Tryz.pinned.checked.prog.mapsRec ·))) = true := by kernel_rfl
theorem packetTuples_k14 : ((Rows.packetTuplesRow.ifaces == (Tryz.f8.params.toList ++ Rows.packetTuplesSpec.plain.varTypes Tryz.pinned.checked.prog).any (Tryz.pinned.checked.prog.ifacesRec ·))) = true := by kernel_rfl
theorem packetTuples_k15 : ((Rows.packetTuplesRow.mapsOut == Tryz.pinned.checked.prog.mapsAmong Tryz.f8.resultTypes.toList)) = true := by kernel_rfl
end Go.Proofs.YtlmnjnhmhacgkaaGreatDoor.Top
end
