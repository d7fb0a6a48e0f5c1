/-
  Closed facts of the row packetTuples. Printed by a program (wip/pk/rowfacts.py).
-/
import Derived.Test.YtlmnjnhmhacgkaaGreatDoorPkH
section
set_option linter.unusedVariables false
set_option maxRecDepth 100000
namespace Go.Proofs.YtlmnjnhmhacgkaaGreatDoor.Top
open Go Go.Am Go.Proofs Go.Proofs.YtlmnjnhmhacgkaaGreatDoor.Am

theorem packetTuples_k16 : ((Rows.packetTuplesRow.loops == (Tryz.f8.params.toList ++ Rows.packetTuplesSpec.plain.varTypes Tryz.pinned.checked.prog).any (Tryz.pinned.checked.prog.loopsFrom ·))) = true := by kernel_rfl
theorem packetTuples_k17 : ((Rows.packetTuplesRow.wideKeys == (Tryz.f8.params.toList ++ Rows.packetTuplesSpec.plain.varTypes Tryz.pinned.checked.prog ++ Tryz.f8.resultTypes.toList).any (Tryz.pinned.checked.prog.wideKeysFrom ·))) = true := by kernel_rfl
theorem packetTuples_k18 : (Rows.packetTuplesSpec.vars.all (Tryz.pinned.checked.prog.varReadable ·)) = true := by kernel_rfl
theorem packetTuples_k19 : (Tryz.f8.resultTypes.all (fun t => Tryz.pinned.checked.prog.readableRec t && decide (t < Tryz.pinned.checked.prog.types.size))) = true := by kernel_rfl
theorem packetTuples_k20 : ((Rows.packetTuplesRow.ifacesOut == Tryz.f8.resultTypes.toList.any (Tryz.pinned.checked.prog.ifacesRec ·))) = true := by kernel_rfl
theorem packetTuples_k21 : ((Rows.packetTuplesRow.loopsOut == Tryz.f8.resultTypes.toList.any (Tryz.pinned.checked.prog.loopsFrom ·))) = true := by kernel_rfl
theorem packetTuples_k22 : ((Rows.packetTuplesRow.plainKeys == Tryz.pinned.checked.prog.plainKeys)) = true := by kernel_rfl
theorem packetTuples_k23 : (Rows.packetTuplesRow.shortTexts.isNone) = true := by kernel_rfl
theorem packetTuples_k24 : (Tryz.pinned.checked.prog.stopsHeard) = true := by kernel_rfl
theorem packetTuples_k25 : (Tryz.pinned.checked.prog.mayEnter) = true := by kernel_rfl
theorem packetTuples_k26 : ((Rows.packetTuplesRow.lifted == Tryz.pinned.checked.prog.liftsFinal)) = true := by kernel_rfl
theorem packetTuples_k27 : ((Tryz.pinned.checked.prog.make == some Rows.packetTuplesRow.make)) = true := by kernel_rfl
theorem packetTuples_k28 : ((Rows.packetTuplesRow.kinds == (if Rows.packetTuplesRow.domain.isEmpty then [] else Tryz.f8.params.toList.map fun t => match Tryz.pinned.checked.prog.underlying t with | some (.int k) => some k | _ => none))) = true := by kernel_rfl
theorem packetTuples_k29 : ((Rows.packetTuplesRow.pinned == Rows.packetTuplesRow.pinnedBy)) = true := by kernel_rfl
theorem packetTuples_k30 : ((Rows.packetTuplesRow.veiled == (Tryz.f8.params.toList ++ Rows.packetTuplesSpec.plain.varTypes Tryz.pinned.checked.prog ++ Tryz.f8.resultTypes.toList).any (Tryz.pinned.checked.prog.veiledRec ·))) = true := by kernel_rfl
theorem packetTuples_k31 : (Rows.packetTuplesRow.veiledFits Tryz.pinned.checked.prog Tryz.f8.params.toList (Tryz.f8.params.toList ++ Rows.packetTuplesSpec.plain.varTypes Tryz.pinned.checked.prog ++ Tryz.f8.resultTypes.toList)) = true := by kernel_rfl
end Go.Proofs.YtlmnjnhmhacgkaaGreatDoor.Top
end
