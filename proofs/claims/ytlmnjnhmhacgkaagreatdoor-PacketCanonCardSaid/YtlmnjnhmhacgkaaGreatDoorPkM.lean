/-
  Closed facts of the row packetCanon. Printed by a program (wip/pk/rowfacts.py).
-/
import Derived.Test.YtlmnjnhmhacgkaaGreatDoorPkK
section
set_option linter.unusedVariables false
set_option maxRecDepth 100000
namespace Go.Proofs.YtlmnjnhmhacgkaaGreatDoor.Top
open Go Go.Am Go.Proofs Go.Proofs.YtlmnjnhmhacgkaaGreatDoor.Am
theorem packetCanon_k16 : ((Rows.packetCanonRow.loops == (Tryz.f6.params.toList ++ Rows.packetCanonSpec.plain.varTypes Tryz.pinned.checked.prog).any (Tryz.pinned.checked.prog.loopsFrom ·))) = true := by kernel_rfl
theorem packetCanon_k17 : ((Rows.packetCanonRow.wideKeys == (Tryz.f6.params.toList ++ Rows.packetCanonSpec.plain.varTypes Tryz.pinned.checked.prog ++ Tryz.f6.resultTypes.toList).any (Tryz.pinned.checked.prog.wideKeysFrom ·))) = true := by kernel_rfl
theorem packetCanon_k18 : (Rows.packetCanonSpec.vars.all (Tryz.pinned.checked.prog.varReadable ·)) = true := by kernel_rfl
theorem packetCanon_k19 : (Tryz.f6.resultTypes.all (fun t => Tryz.pinned.checked.prog.readableRec t && decide (t < Tryz.pinned.checked.prog.types.size))) = true := by kernel_rfl
theorem packetCanon_k20 : ((Rows.packetCanonRow.ifacesOut == Tryz.f6.resultTypes.toList.any (Tryz.pinned.checked.prog.ifacesRec ·))) = true := by kernel_rfl
theorem packetCanon_k21 : ((Rows.packetCanonRow.loopsOut == Tryz.f6.resultTypes.toList.any (Tryz.pinned.checked.prog.loopsFrom ·))) = true := by kernel_rfl
theorem packetCanon_k22 : ((Rows.packetCanonRow.plainKeys == Tryz.pinned.checked.prog.plainKeys)) = true := by kernel_rfl
theorem packetCanon_k23 : (Rows.packetCanonRow.shortTexts.isNone) = true := by kernel_rfl
theorem packetCanon_k24 : (Tryz.pinned.checked.prog.stopsHeard) = true := by kernel_rfl
theorem packetCanon_k25 : (Tryz.pinned.checked.prog.mayEnter) = true := by kernel_rfl
theorem packetCanon_k26 : ((Rows.packetCanonRow.lifted == Tryz.pinned.checked.prog.liftsFinal)) = true := by kernel_rfl
theorem packetCanon_k27 : ((Tryz.pinned.checked.prog.make == some Rows.packetCanonRow.make)) = true := by kernel_rfl
theorem packetCanon_k28 : ((Rows.packetCanonRow.kinds == (if Rows.packetCanonRow.domain.isEmpty then [] else Tryz.f6.params.toList.map fun t => match Tryz.pinned.checked.prog.underlying t with | some (.int k) => some k | _ => none))) = true := by kernel_rfl
theorem packetCanon_k29 : ((Rows.packetCanonRow.pinned == Rows.packetCanonRow.pinnedBy)) = true := by kernel_rfl
theorem packetCanon_k30 : ((Rows.packetCanonRow.veiled == (Tryz.f6.params.toList ++ Rows.packetCanonSpec.plain.varTypes Tryz.pinned.checked.prog ++ Tryz.f6.resultTypes.toList).any (Tryz.pinned.checked.prog.veiledRec ·))) = true := by kernel_rfl
theorem packetCanon_k31 : (Rows.packetCanonRow.veiledFits Tryz.pinned.checked.prog Tryz.f6.params.toList (Tryz.f6.params.toList ++ Rows.packetCanonSpec.plain.varTypes Tryz.pinned.checked.prog ++ Tryz.f6.resultTypes.toList)) = true := by kernel_rfl
end Go.Proofs.YtlmnjnhmhacgkaaGreatDoor.Top
end
