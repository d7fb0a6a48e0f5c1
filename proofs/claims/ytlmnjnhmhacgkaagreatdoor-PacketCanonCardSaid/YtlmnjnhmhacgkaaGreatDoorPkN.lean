/-
  The closed facts of the row packetCanon, together. Printed by a program (wip/pk/rowfacts.py).
-/
import Derived.Test.YtlmnjnhmhacgkaaGreatDoorPkL
import Derived.Test.YtlmnjnhmhacgkaaGreatDoorPkM
section
set_option linter.unusedVariables false
set_option maxRecDepth 100000
namespace Go.Proofs.YtlmnjnhmhacgkaaGreatDoor.Top
open Go Go.Am Go.Proofs Go.Proofs.YtlmnjnhmhacgkaaGreatDoor.Am
theorem packetCanon_facts : joinedFacts Tryz.pinned.checked.prog 6 Tryz.f6 Rows.packetCanonSpec Rows.packetCanonRow = true := by
  unfold joinedFacts
  exact and_t (and_t (and_t (and_t (and_t (and_t (and_t (and_t (and_t (and_t (and_t (and_t (and_t (and_t (and_t (and_t (and_t (and_t (and_t (and_t (and_t (and_t (and_t (and_t (and_t (and_t (and_t (and_t (and_t (and_t (and_t packetCanon_k0 packetCanon_k1) packetCanon_k2) packetCanon_k3) packetCanon_k4) packetCanon_k5) packetCanon_k6) packetCanon_k7) packetCanon_k8) packetCanon_k9) packetCanon_k10) packetCanon_k11) packetCanon_k12) packetCanon_k13) packetCanon_k14) packetCanon_k15) packetCanon_k16) packetCanon_k17) packetCanon_k18) packetCanon_k19) packetCanon_k20) packetCanon_k21) packetCanon_k22) packetCanon_k23) packetCanon_k24) packetCanon_k25) packetCanon_k26) packetCanon_k27) packetCanon_k28) packetCanon_k29) packetCanon_k30) packetCanon_k31
end Go.Proofs.YtlmnjnhmhacgkaaGreatDoor.Top
end
