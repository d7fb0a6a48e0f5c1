/-
  The closed facts of the row flowRewrites, together. Printed by a program (wip/pk/rowfacts.py).
-/
import Derived.Test.YtlmnjnhmhacgkaaDoorPkL
import Derived.Test.YtlmnjnhmhacgkaaDoorPkM
section
set_option linter.unusedVariables false
set_option maxRecDepth 100000
namespace Go.Proofs.YtlmnjnhmhacgkaaDoor.Top
open Go Go.Am Go.Proofs Go.Proofs.YtlmnjnhmhacgkaaDoor.Am
theorem flowRewrites_facts : joinedFacts Tryd.pinned.checked.prog 3 Tryd.f3 Rows.flowRewritesSpec Rows.flowRewritesUptoRow = true := by
  unfold joinedFacts
  exact and_t (and_t (and_t (and_t (and_t (and_t (and_t (and_t (and_t (and_t (and_t (and_t (and_t (and_t (and_t (and_t (and_t (and_t (and_t (and_t (and_t (and_t (and_t (and_t (and_t (and_t (and_t (and_t (and_t (and_t (and_t flowRewrites_k0 flowRewrites_k1) flowRewrites_k2) flowRewrites_k3) flowRewrites_k4) flowRewrites_k5) flowRewrites_k6) flowRewrites_k7) flowRewrites_k8) flowRewrites_k9) flowRewrites_k10) flowRewrites_k11) flowRewrites_k12) flowRewrites_k13) flowRewrites_k14) flowRewrites_k15) flowRewrites_k16) flowRewrites_k17) flowRewrites_k18) flowRewrites_k19) flowRewrites_k20) flowRewrites_k21) flowRewrites_k22) flowRewrites_k23) flowRewrites_k24) flowRewrites_k25) flowRewrites_k26) flowRewrites_k27) flowRewrites_k28) flowRewrites_k29) flowRewrites_k30) flowRewrites_k31
end Go.Proofs.YtlmnjnhmhacgkaaDoor.Top
end
