/-
  The closed facts of the row packetBack, together. Printed by a program (wip/pk/rowfacts.py).
-/
import Derived.Test.YtlmnjnhmhacgkaaGreatDoorPkL
import Derived.Test.YtlmnjnhmhacgkaaGreatDoorPkM
section
set_option linter.unusedVariables false
set_option maxRecDepth 100000
namespace Go.Proofs.YtlmnjnhmhacgkaaGreatDoor.Top
open Go Go.Am Go.Proofs Go.Proofs.YtlmnjnhmhacgkaaGreatDoor.Am
theorem packetBack_facts : joinedFacts Tryz.pinned.checked.prog 5 Tryz.f5 Rows.packetBackSpec Rows.packetBackUptoRow = true := by
  unfold joinedFacts
  exact and_t (and_t (and_t (and_t (and_t (and_t (and_t (and_t (and_t (and_t (and_t (and_t (and_t (and_t (and_t (and_t (and_t (and_t (and_t (and_t (and_t (and_t (and_t (and_t (and_t (and_t (and_t (and_t (and_t (and_t (and_t packetBack_k0 packetBack_k1) packetBack_k2) packetBack_k3) packetBack_k4) packetBack_k5) packetBack_k6) packetBack_k7) packetBack_k8) packetBack_k9) packetBack_k10) packetBack_k11) packetBack_k12) packetBack_k13) packetBack_k14) packetBack_k15) packetBack_k16) packetBack_k17) packetBack_k18) packetBack_k19) packetBack_k20) packetBack_k21) packetBack_k22) packetBack_k23) packetBack_k24) packetBack_k25) packetBack_k26) packetBack_k27) packetBack_k28) packetBack_k29) packetBack_k30) packetBack_k31
end Go.Proofs.YtlmnjnhmhacgkaaGreatDoor.Top
end
