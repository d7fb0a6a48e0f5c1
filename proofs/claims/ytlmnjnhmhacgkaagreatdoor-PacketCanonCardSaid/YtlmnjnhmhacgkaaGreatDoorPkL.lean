/-
  Closed facts of the row packetCanon. Printed by a program (wip/pk/rowfacts.py).
-/
import Derived.Test.YtlmnjnhmhacgkaaGreatDoorPkK
section
set_option linter.unusedVariables false
set_option maxRecDepth 100000
namespace Go.Proofs.YtlmnjnhmhacgkaaGreatDoor.Top
open Go Go.Am Go.Proofs Go.Proofs.YtlmnjnhmhacgkaaGreatDoor.Am
theorem packetCanon_k0 : (Rows.packetCanonRow.wf (OpenSpec.ofChange Rows.packetCanonSpec)) = true := by kernel_rfl
theorem packetCanon_k1 : (laidOutB Tryz.pinned.checked.prog) = true := by kernel_rfl
theorem packetCanon_k2 : (mapsRowed Tryz.pinned.checked.prog) = true := by kernel_rfl
theorem packetCanon_k3 : (Tryz.f6.params.all (Tryz.pinned.checked.prog.readableRec ·)) = true := by kernel_rfl
theorem packetCanon_k4 : (namedTie Tryz.pinned.checked.prog Rows.packetCanonRow.named Rows.packetCanonSpec.vars) = true := by kernel_rfl
theorem packetCanon_k5 : ((Rows.packetCanonRow.stops == [])) = true := by kernel_rfl
theorem packetCanon_k6 : ((Tryz.pinned.checked.prog.stops == [])) = true := by kernel_rfl
theorem packetCanon_k7 : ((Rows.packetCanonRow.knobs == [])) = true := by kernel_rfl
theorem packetCanon_k8 : ((Tryz.pinned.checked.prog.stopKnobs == [])) = true := by kernel_rfl
theorem packetCanon_k9 : ((Rows.packetCanonRow.inPlace == Tryz.pinned.checked.prog.inPlace 6)) = true := by kernel_rfl
theorem packetCanon_k10 : ((Rows.packetCanonRow.unfollowed == Tryz.pinned.checked.prog.unfollowed 6)) = true := by kernel_rfl
theorem packetCanon_k11 : ((Rows.packetCanonRow.recurses == Tryz.pinned.checked.prog.recurses 6)) = true := by kernel_rfl
theorem packetCanon_k12 : ((Rows.packetCanonRow.named == Tryz.pinned.checked.prog.varsNamed 6)) = true := by kernel_rfl
theorem packetCanon_k13 : ((Rows.packetCanonRow.maps == (Tryz.f6.params.toList ++ Rows.packetCanonSpec.plain.varTypes Tryz.pinned.checked.prog).any (Tryz.pinned.checked.prog.mapsRec ·))) = true := by kernel_rfl
theorem packetCanon_k14 : ((Rows.packetCanonRow.ifaces == (Tryz.f6.params.toList ++ Rows.packetCanonSpec.plain.varTypes Tryz.pinned.checked.prog).any (Tryz.pinned.checked.prog.ifacesRec ·))) = true := by kernel_rfl
theorem packetCanon_k15 : ((Rows.packetCanonRow.mapsOut == Tryz.pinned.checked.prog.mapsAmong Tryz.f6.resultTypes.toList)) = true := by kernel_rfl
end Go.Proofs.YtlmnjnhmhacgkaaGreatDoor.Top
end
