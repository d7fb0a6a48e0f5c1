/-
  The closed facts of the row packetUnlike, together. Printed by a program (wip/pk/rowfacts.py).
-/
import Derived.Test.YtlmnjnhmhacgkaaGreatDoorPkL
import Derived.Test.YtlmnjnhmhacgkaaGreatDoorPkM
section
set_option linter.unusedVariables false
set_option maxRecDepth 100000
namespace Go.Proofs.YtlmnjnhmhacgkaaGreatDoor.Top
open Go Go.Am Go.Proofs Go.Proofs.YtlmnjnhmhacgkaaGreatDoor.Am
theorem packetUnlike_facts : joinedFacts Tryz.pinned.checked.prog 3 Tryz.f3 Rows.packetUnlikeSpec Rows.packetUnlikeUptoRow = true := by
  unfold joinedFacts
  exact and_t (and_t (and_t (and_t (and_t (and_t (and_t (and_t (and_t (and_t (and_t (and_t (and_t (and_t (and_t (and_t (and_t (and_t (and_t (and_t (and_t (and_t (and_t (and_t (and_t (and_t (and_t (and_t (and_t (and_t (and_t packetUnlike_k0 packetUnlike_k1) packetUnlike_k2) packetUnlike_k3) packetUnlike_k4) packetUnlike_k5) packetUnlike_k6) packetUnlike_k7) packetUnlike_k8) packetUnlike_k9) packetUnlike_k10) packetUnlike_k11) packetUnlike_k12) packetUnlike_k13) packetUnlike_k14) packetUnlike_k15) packetUnlike_k16) packetUnlike_k17) packetUnlike_k18) packetUnlike_k19) packetUnlike_k20) packetUnlike_k21) packetUnlike_k22) packetUnlike_k23) packetUnlike_k24) packetUnlike_k25) packetUnlike_k26) packetUnlike_k27) packetUnlike_k28) packetUnlike_k29) packetUnlike_k30) packetUnlike_k31
end Go.Proofs.YtlmnjnhmhacgkaaGreatDoor.Top
end
