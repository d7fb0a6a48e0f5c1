/-
  Closed facts of the row packetSums. Printed by a program (wip/pk/rowfacts.py).
-/
import Derived.Test.YtlmnjnhmhacgkaaGreatDoorPkK
section
set_option linter.unusedVariables false
set_option maxRecDepth 100000
namespace Go.Proofs.YtlmnjnhmhacgkaaGreatDoor.Top
open Go Go.Am Go.Proofs Go.Proofs.YtlmnjnhmhacgkaaGreatDoor.Am
theorem packetSums_k0 : (Rows.packetSumsUptoRow.wf (OpenSpec.ofChange Rows.packetSumsSpec)) = true := by kernel_rfl
theorem packetSums_k1 : (laidOutB Tryz.pinned.checked.prog) = true := by kernel_rfl
theorem packetSums_k2 : (mapsRowed Tryz.pinned.checked.prog) = true := by kernel_rfl
theorem packetSums_k3 : (Tryz.f4.params.all (Tryz.pinned.checked.prog.readableRec ·)) = true := by kernel_rfl
theorem packetSums_k4 : (namedTie Tryz.pinned.checked.prog Rows.packetSumsUptoRow.named Rows.packetSumsSpec.vars) = true := by kernel_rfl
theorem packetSums_k5 : ((Rows.packetSumsUptoRow.stops == [])) = true := by kernel_rfl
theorem packetSums_k6 : ((Tryz.pinned.checked.prog.stops == [])) = true := by kernel_rfl
theorem packetSums_k7 : ((Rows.packetSumsUptoRow.knobs == [])) = true := by kernel_rfl
theorem packetSums_k8 : ((Tryz.pinned.checked.prog.stopKnobs == [])) = true := by kernel_rfl
theorem packetSums_k9 : ((Rows.packetSumsUptoRow.inPlace == Tryz.pinned.checked.prog.inPlace 4)) = true := by kernel_rfl
theorem packetSums_k10 : ((Rows.packetSumsUptoRow.unfollowed == Tryz.pinned.checked.prog.unfollowed 4)) = true := by kernel_rfl
theorem packetSums_k11 : ((Rows.packetSumsUptoRow.recurses == Tryz.pinned.checked.prog.recurses 4)) = true := by kernel_rfl
theorem packetSums_k12 : ((Rows.packetSumsUptoRow.named == Tryz.pinned.checked.prog.varsNamed 4)) = true := by kernel_rfl
theorem packetSums_k13 : ((Rows.packetSumsUptoRow.maps == (Tryz.f4.params.toList ++ Rows.packetSumsSpec.plain.varTypes Tryz.pinned.checked.prog).any (Tryz.pinned.checked.prog.mapsRec ·))) = true := by kernel_rfl
theorem packetSums_k14 : ((Rows.packetSumsUptoRow.ifaces == (Tryz.f4.params.toList ++ Rows.packetSumsSpec.plain.varTypes Tryz.pinned.checked.prog).any (Tryz.pinned.checked.prog.ifacesRec ·))) = true := by kernel_rfl
theorem packetSums_k15 : ((Rows.packetSumsUptoRow.mapsOut == Tryz.pinned.checked.prog.mapsAmong Tryz.f4.resultTypes.toList)) = true := by kernel_rfl
end Go.Proofs.YtlmnjnhmhacgkaaGreatDoor.Top
end
