/-
  The closed facts of the row packetSums, together. Printed by a program (wip/pk/rowfacts.py).
-/
import Derived.Test.YtlmnjnhmhacgkaaGreatDoorPkL
import Derived.Test.YtlmnjnhmhacgkaaGreatDoorPkM
section
set_option linter.unusedVariables false
set_option maxRecDepth 100000
namespace Go.Proofs.YtlmnjnhmhacgkaaGreatDoor.Top
open Go Go.Am Go.Proofs Go.Proofs.YtlmnjnhmhacgkaaGreatDoor.Am
theorem packetSums_facts : joinedFacts Tryz.pinned.checked.prog 4 Tryz.f4 Rows.packetSumsSpec Rows.packetSumsUptoRow = true := by
  unfold joinedFacts
  exact and_t (and_t (and_t (and_t (and_t (and_t (and_t (and_t (and_t (and_t (and_t (and_t (and_t (and_t (and_t (and_t (and_t (and_t (and_t (and_t (and_t (and_t (and_t (and_t (and_t (and_t (and_t (and_t (and_t (and_t (and_t packetSums_k0 packetSums_k1) packetSums_k2) packetSums_k3) packetSums_k4) packetSums_k5) packetSums_k6) packetSums_k7) packetSums_k8) packetSums_k9) packetSums_k10) packetSums_k11) packetSums_k12) packetSums_k13) packetSums_k14) packetSums_k15) packetSums_k16) packetSums_k17) packetSums_k18) packetSums_k19) packetSums_k20) packetSums_k21) packetSums_k22) packetSums_k23) packetSums_k24) packetSums_k25) packetSums_k26) packetSums_k27) packetSums_k28) packetSums_k29) packetSums_k30) packetSums_k31
end Go.Proofs.YtlmnjnhmhacgkaaGreatDoor.Top
end
