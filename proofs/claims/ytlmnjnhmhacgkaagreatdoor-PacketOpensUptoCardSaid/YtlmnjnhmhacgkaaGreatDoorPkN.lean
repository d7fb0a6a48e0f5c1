/-
  The closed facts of the row packetOpens, together. Printed by a program (wip/pk/rowfacts.py).
-/
import Derived.Test.YtlmnjnhmhacgkaaGreatDoorPkL
import Derived.Test.YtlmnjnhmhacgkaaGreatDoorPkM
section
set_option linter.unusedVariables false
set_option maxRecDepth 100000
namespace Go.Proofs.YtlmnjnhmhacgkaaGreatDoor.Top
open Go Go.Am Go.Proofs Go.Proofs.YtlmnjnhmhacgkaaGreatDoor.Am
theorem packetOpens_facts : joinedFacts Tryz.pinned.checked.prog 7 Tryz.f7 Rows.packetOpensSpec Rows.packetOpensUptoRow = true := by
  unfold joinedFacts
  exact and_t (and_t (and_t (and_t (and_t (and_t (and_t (and_t (and_t (and_t (and_t (and_t (and_t (and_t (and_t (and_t (and_t (and_t (and_t (and_t (and_t (and_t (and_t (and_t (and_t (and_t (and_t (and_t (and_t (and_t (and_t packetOpens_k0 packetOpens_k1) packetOpens_k2) packetOpens_k3) packetOpens_k4) packetOpens_k5) packetOpens_k6) packetOpens_k7) packetOpens_k8) packetOpens_k9) packetOpens_k10) packetOpens_k11) packetOpens_k12) packetOpens_k13) packetOpens_k14) packetOpens_k15) packetOpens_k16) packetOpens_k17) packetOpens_k18) packetOpens_k19) packetOpens_k20) packetOpens_k21) packetOpens_k22) packetOpens_k23) packetOpens_k24) packetOpens_k25) packetOpens_k26) packetOpens_k27) packetOpens_k28) packetOpens_k29) packetOpens_k30) packetOpens_k31
end Go.Proofs.YtlmnjnhmhacgkaaGreatDoor.Top
end
