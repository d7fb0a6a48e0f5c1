/-
  Closed facts of the row packetUnlike. Printed by a program (wip/pk/rowfacts.py).
-/
import Derived.Test.YtlmnjnhmhacgkaaGreatDoorPkK
section
set_option linter.unusedVariables false
set_option maxRecDepth 100000
namespace Go.Proofs.YtlmnjnhmhacgkaaGreatDoor.Top
open Go Go.Am Go.Proofs Go.Proofs.YtlmnjnhmhacgkaaGreatDoor.Am
theorem packetUnlike_k16 : ((Rows.packetUnlikeUptoRow.loops == (Tryz.f3.params.toList ++ Rows.packetUnlikeSpec.plain.varTypes Tryz.pinned.checked.prog).any (Tryz.pinned.checked.prog.loopsFrom ·))) = true := by kernel_rfl
theorem packetUnlike_k17 : ((Rows.packetUnlikeUptoRow.wideKeys == (Tryz.f3.params.toList ++ Rows.packetUnlikeSpec.plain.varTypes Tryz.pinned.checked.prog ++ Tryz.f3.resultTypes.toList).any (Tryz.pinned.checked.prog.wideKeysFrom ·))) = true := by kernel_rfl
theorem packetUnlike_k18 : (Rows.packetUnlikeSpec.vars.all (Tryz.pinned.checked.prog.varReadable ·)) = true := by kernel_rfl
theorem packetUnlike_k19 : (Tryz.f3.resultTypes.all (fun t => Tryz.pinned.checked.prog.readableRec t && decide (t < Tryz.pinned.checked.prog.types.size))) = true := by kernel_rfl
theorem packetUnlike_k20 : ((Rows.packetUnlikeUptoRow.ifacesOut == Tryz.f3.resultTypes.toList.any (Tryz.pinned.checked.prog.ifacesRec ·))) = true := by kernel_rfl
theorem packetUnlike_k21 : ((Rows.packetUnlikeUptoRow.loopsOut == Tryz.f3.resultTypes.toList.any (Tryz.pinned.checked.prog.loopsFrom ·))) = true := by kernel_rfl
theorem packetUnlike_k22 : ((Rows.packetUnlikeUptoRow.plainKeys == Tryz.pinned.checked.prog.plainKeys)) = true := by kernel_rfl
theorem packetUnlike_k23 : (Rows.packetUnlikeUptoRow.shortTexts.isNone) = true := by kernel_rfl
theorem packetUnlike_k24 : (Tryz.pinned.checked.prog.stopsHeard) = true := by kernel_rfl
theorem packetUnlike_k25 : (Tryz.pinned.checked.prog.mayEnter) = true := by kernel_rfl
theorem packetUnlike_k26 : ((Rows.packetUnlikeUptoRow.lifted == Tryz.pinned.checked.prog.liftsFinal)) = true := by kernel_rfl
theorem packetUnlike_k27 : ((Tryz.pinned.checked.prog.make == some Rows.packetUnlikeUptoRow.make)) = true := by kernel_rfl
theorem packetUnlike_k28 : ((Rows.packetUnlikeUptoRow.kinds == (if Rows.packetUnlikeUptoRow.domain.isEmpty then [] else Tryz.f3.params.toList.map fun t => match Tryz.pinned.checked.prog.underlying t with | some (.int k) => some k | _ => none))) = true := by kernel_rfl
theorem packetUnlike_k29 : ((Rows.packetUnlikeUptoRow.pinned == Rows.packetUnlikeUptoRow.pinnedBy)) = true := by kernel_rfl
theorem packetUnlike_k30 : ((Rows.packetUnlikeUptoRow.veiled == (Tryz.f3.params.toList ++ Rows.packetUnlikeSpec.plain.varTypes Tryz.pinned.checked.prog ++ Tryz.f3.resultTypes.toList).any (Tryz.pinned.checked.prog.veiledRec ·))) = true := by kernel_rfl
theorem packetUnlike_k31 : (Rows.packetUnlikeUptoRow.veiledFits Tryz.pinned.checked.prog Tryz.f3.params.toList (Tryz.f3.params.toList ++ Rows.packetUnlikeSpec.plain.varTypes Tryz.pinned.checked.prog ++ Tryz.f3.resultTypes.toList)) = true := by kernel_rfl
end Go.Proofs.YtlmnjnhmhacgkaaGreatDoor.Top
end
