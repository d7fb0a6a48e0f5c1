/-
  Closed facts of the row packetBack. Printed by a program (wip/pk/rowfacts.py).
-/
import Derived.Test.YtlmnjnhmhacgkaaGreatDoorPkK
section
set_option linter.unusedVariables false
set_option maxRecDepth 100000
namespace Go.Proofs.YtlmnjnhmhacgkaaGreatDoor.Top
open Go Go.Am Go.Proofs Go.Proofs.YtlmnjnhmhacgkaaGreatDoor.Am
theorem packetBack_k16 : ((Rows.packetBackUptoRow.loops == (Tryz.f5.params.toList ++ Rows.packetBackSpec.plain.varTypes Tryz.pinned.checked.prog).any (Tryz.pinned.checked.prog.loopsFrom ·))) = true := by kernel_rfl
theorem packetBack_k17 : ((Rows.packetBackUptoRow.wideKeys == (Tryz.f5.params.toList ++ Rows.packetBackSpec.plain.varTypes Tryz.pinned.checked.prog ++ Tryz.f5.resultTypes.toList).any (Tryz.pinned.checked.prog.wideKeysFrom ·))) = true := by kernel_rfl
theorem packetBack_k18 : (Rows.packetBackSpec.vars.all (Tryz.pinned.checked.prog.varReadable ·)) = true := by kernel_rfl
theorem packetBack_k19 : (Tryz.f5.resultTypes.all (fun t => Tryz.pinned.checked.prog.readableRec t && decide (t < Tryz.pinned.checked.prog.types.size))) = true := by kernel_rfl
theorem packetBack_k20 : ((Rows.packetBackUptoRow.ifacesOut == Tryz.f5.resultTypes.toList.any (Tryz.pinned.checked.prog.ifacesRec ·))) = true := by kernel_rfl
theorem packetBack_k21 : ((Rows.packetBackUptoRow.loopsOut == Tryz.f5.resultTypes.toList.any (Tryz.pinned.checked.prog.loopsFrom ·))) = true := by kernel_rfl
theorem packetBack_k22 : ((Rows.packetBackUptoRow.plainKeys == Tryz.pinned.checked.prog.plainKeys)) = true := by kernel_rfl
theorem packetBack_k23 : (Rows.packetBackUptoRow.shortTexts.isNone) = true := by kernel_rfl
theorem packetBack_k24 : (Tryz.pinned.checked.prog.stopsHeard) = true := by kernel_rfl
theorem packetBack_k25 : (Tryz.pinned.checked.prog.mayEnter) = true := by kernel_rfl
theorem packetBack_k26 : ((Rows.packetBackUptoRow.lifted == Tryz.pinned.checked.prog.liftsFinal)) = true := by kernel_rfl
theorem packetBack_k27 : ((Tryz.pinned.checked.prog.make == some Rows.packetBackUptoRow.make)) = true := by kernel_rfl
theorem packetBack_k28 : ((Rows.packetBackUptoRow.kinds == (if Rows.packetBackUptoRow.domain.isEmpty then [] else Tryz.f5.params.toList.map fun t => match Tryz.pinned.checked.prog.underlying t with | some (.int k) => some k | _ => none))) = true := by kernel_rfl
theorem packetBack_k29 : ((Rows.packetBackUptoRow.pinned == Rows.packetBackUptoRow.pinnedBy)) = true := by kernel_rfl
theorem packetBack_k30 : ((Rows.packetBackUptoRow.veiled == (Tryz.f5.params.toList ++ Rows.packetBackSpec.plain.varTypes Tryz.pinned.checked.prog ++ Tryz.f5.resultTypes.toList).any (Tryz.pinned.checked.prog.veiledRec ·))) = true := by kernel_rfl
theorem packetBack_k31 : (Rows.packetBackUptoRow.veiledFits Tryz.pinned.checked.prog Tryz.f5.params.toList (Tryz.f5.params.toList ++ Rows.packetBackSpec.plain.varTypes Tryz.pinned.checked.prog ++ Tryz.f5.resultTypes.toList)) = true := by kernel_rfl
end Go.Proofs.YtlmnjnhmhacgkaaGreatDoor.Top
end
