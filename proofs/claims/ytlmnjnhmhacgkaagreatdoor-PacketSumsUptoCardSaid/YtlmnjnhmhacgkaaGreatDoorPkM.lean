/-
  Closed facts of the row packetSums. Printed by a program (wip/pk/rowfacts.py).
-/
import Derived.Test.YtlmnjnhmhacgkaaGreatDoorPkK
section
set_option linter.unusedVariables false
set_option maxRecDepth 100000
namespace Go.Proofs.YtlmnjnhmhacgkaaGreatDoor.Top
open Go Go.Am Go.Proofs Go.Proofs.YtlmnjnhmhacgkaaGreatDoor.Am
theorem packetSums_k16 : ((Rows.packetSumsUptoRow.loops == (Tryz.f4.params.toList ++ Rows.packetSumsSpec.plain.varTypes Tryz.pinned.checked.prog).any (Tryz.pinned.checked.prog.loopsFrom ·))) = true := by kernel_rfl
theorem packetSums_k17 : ((Rows.packetSumsUptoRow.wideKeys == (Tryz.f4.params.toList ++ Rows.packetSumsSpec.plain.varTypes Tryz.pinned.checked.prog ++ Tryz.f4.resultTypes.toList).any (Tryz.pinned.checked.prog.wideKeysFrom ·))) = true := by kernel_rfl
theorem packetSums_k18 : (Rows.packetSumsSpec.vars.all (Tryz.pinned.checked.prog.varReadable ·)) = true := by kernel_rfl
theorem packetSums_k19 : (Tryz.f4.resultTypes.all (fun t => Tryz.pinned.checked.prog.readableRec t && decide (t < Tryz.pinned.checked.prog.types.size))) = true := by kernel_rfl
theorem packetSums_k20 : ((Rows.packetSumsUptoRow.ifacesOut == Tryz.f4.resultTypes.toList.any (Tryz.pinned.checked.prog.ifacesRec ·))) = true := by kernel_rfl
theorem packetSums_k21 : ((Rows.packetSumsUptoRow.loopsOut == Tryz.f4.resultTypes.toList.any (Tryz.pinned.checked.prog.loopsFrom ·))) = true := by kernel_rfl
theorem packetSums_k22 : ((Rows.packetSumsUptoRow.plainKeys == Tryz.pinned.checked.prog.plainKeys)) = true := by kernel_rfl
theorem packetSums_k23 : (Rows.packetSumsUptoRow.shortTexts.isNone) = true := by kernel_rfl
theorem packetSums_k24 : (Tryz.pinned.checked.prog.stopsHeard) = true := by kernel_rfl
theorem packetSums_k25 : (Tryz.pinned.checked.prog.mayEnter) = true := by kernel_rfl
theorem packetSums_k26 : ((Rows.packetSumsUptoRow.lifted == Tryz.pinned.checked.prog.liftsFinal)) = true := by kernel_rfl
theorem packetSums_k27 : ((Tryz.pinned.checked.prog.make == some Rows.packetSumsUptoRow.make)) = true := by kernel_rfl
theorem packetSums_k28 : ((Rows.packetSumsUptoRow.kinds == (if Rows.packetSumsUptoRow.domain.isEmpty then [] else Tryz.f4.params.toList.map fun t => match Tryz.pinned.checked.prog.underlying t with | some (.int k) => some k | _ => none))) = true := by kernel_rfl
theorem packetSums_k29 : ((Rows.packetSumsUptoRow.pinned == Rows.packetSumsUptoRow.pinnedBy)) = true := by kernel_rfl
theorem packetSums_k30 : ((Rows.packetSumsUptoRow.veiled == (Tryz.f4.params.toList ++ Rows.packetSumsSpec.plain.varTypes Tryz.pinned.checked.prog ++ Tryz.f4.resultTypes.toList).any (Tryz.pinned.checked.prog.veiledRec ·))) = true := by kernel_rfl
theorem packetSums_k31 : (Rows.packetSumsUptoRow.veiledFits Tryz.pinned.checked.prog Tryz.f4.params.toList (Tryz.f4.params.toList ++ Rows.packetSumsSpec.plain.varTypes Tryz.pinned.checked.prog ++ Tryz.f4.resultTypes.toList)) = true := by kernel_rfl
end Go.Proofs.YtlmnjnhmhacgkaaGreatDoor.Top
end
