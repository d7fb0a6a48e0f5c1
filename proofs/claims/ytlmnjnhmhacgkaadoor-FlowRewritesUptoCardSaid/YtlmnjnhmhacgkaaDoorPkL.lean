/-
  Closed facts of the row flowRewrites. Printed by a program (wip/pk/rowfacts.py).
-/
import Derived.Test.YtlmnjnhmhacgkaaDoorPkK
section
set_option linter.unusedVariables false
set_option maxRecDepth 100000
namespace Go.Proofs.YtlmnjnhmhacgkaaDoor.Top
open Go Go.Am Go.Proofs Go.Proofs.YtlmnjnhmhacgkaaDoor.Am
theorem flowRewrites_k0 : (Rows.flowRewritesUptoRow.wf (OpenSpec.ofChange Rows.flowRewritesSpec)) = true := by kernel_rfl
theorem flowRewrites_k1 : (laidOutB Tryd.pinned.checked.prog) = true := by kernel_rfl
theorem flowRewrites_k2 : (mapsRowed Tryd.pinned.checked.prog) = true := by kernel_rfl
theorem flowRewrites_k3 : (Tryd.f3.params.all (Tryd.pinned.checked.prog.readableRec ·)) = true := by kernel_rfl
theorem flowRewrites_k4 : (namedTie Tryd.pinned.checked.prog Rows.flowRewritesUptoRow.named Rows.flowRewritesSpec.vars) = true := by kernel_rfl
theorem flowRewrites_k5 : ((Rows.flowRewritesUptoRow.stops == [])) = true := by kernel_rfl
theorem flowRewrites_k6 : ((Tryd.pinned.checked.prog.stops == [])) = true := by kernel_rfl
theorem flowRewrites_k7 : ((Rows.flowRewritesUptoRow.knobs == [])) = true := by kernel_rfl
theorem flowRewrites_k8 : ((Tryd.pinned.checked.prog.stopKnobs == [])) = true := by kernel_rfl
theorem flowRewrites_k9 : ((Rows.flowRewritesUptoRow.inPlace == Tryd.pinned.checked.prog.inPlace 3)) = true := by kernel_rfl
theorem flowRewrites_k10 : ((Rows.flowRewritesUptoRow.unfollowed == Tryd.pinned.checked.prog.unfollowed 3)) = true := by kernel_rfl
theorem flowRewrites_k11 : ((Rows.flowRewritesUptoRow.recurses == Tryd.pinned.checked.prog.recurses 3)) = true := by kernel_rfl
theorem flowRewrites_k12 : ((Rows.flowRewritesUptoRow.named == Tryd.pinned.checked.prog.varsNamed 3)) = true := by kernel_rfl
theorem flowRewrites_k13 : ((Rows.flowRewritesUptoRow.maps == (Tryd.f3.params.toList ++ Rows.flowRewritesSpec.plain.varTypes Tryd.pinned.checked.prog).any (Tryd.pinned.checked.prog.mapsRec ·))) = true := by kernel_rfl
theorem flowRewrites_k14 : ((Rows.flowRewritesUptoRow.ifaces == (Tryd.f3.params.toList ++ Rows.flowRewritesSpec.plain.varTypes Tryd.pinned.checked.prog).any (Tryd.pinned.checked.prog.ifacesRec ·))) = true := by kernel_rfl
theorem flowRewrites_k15 : ((Rows.flowRewritesUptoRow.mapsOut == Tryd.pinned.checked.prog.mapsAmong Tryd.f3.resultTypes.toList)) = true := by kernel_rfl
end Go.Proofs.YtlmnjnhmhacgkaaDoor.Top
end
