/-
  Closed facts of the row packetOpens. Printed by a program (wip/pk/rowfacts.py).
-/
import Derived.Test.YtlmnjnhmhacgkaaGreatDoorPkK
section
set_option linter.unusedVariables false
set_option maxRecDepth 100000
namespace Go.Proofs.YtlmnjnhmhacgkaaGreatDoor.Top
open Go Go.Am Go.Proofs Go.Proofs.YtlmnjnhmhacgkaaGreatDoor.Am
theorem packetOpens_k16 : ((Rows.packetOpensUptoRow.loops == (Tryz.f7.params.toList ++ Rows.packetOpensSpec.plain.varTypes Tryz.pinned.checked.prog).any (Tryz.pinned.checked.prog.loopsFrom ·))) = true := by kernel_rfl
theorem packetOpens_k17 : ((Rows.packetOpensUptoRow.wideKeys == (Tryz.f7.params.toList ++ Rows.packetOpensSpec.plain.varTypes Tryz.pinned.checked.prog ++ Tryz.f7.resultTypes.toList).any (Tryz.pinned.checked.prog.wideKeysFrom ·))) = true := by kernel_rfl
theorem packetOpens_k18 : (Rows.packetOpensSpec.vars.all (Tryz.pinned.checked.prog.varReadable ·)) = true := by kernel_rfl
theorem packetOpens_k19 : (Tryz.f7.resultTypes.all (fun t => Tryz.pinned.checked.prog.readableRec t && decide (t < Tryz.pinned.checked.prog.types.size))) = true := by kernel_rfl
theorem packetOpens_k20 : ((Rows.packetOpensUptoRow.ifacesOut == Tryz.f7.resultTypes.toList.any (Tryz.pinned.checked.prog.ifacesRec ·))) = true := by kernel_rfl
theorem packetOpens_k21 : ((Rows.packetOpensUptoRow.loopsOut == Tryz.f7.resultTypes.toList.any (Tryz.pinned.checked.prog.loopsFrom ·))) = true := by kernel_rfl
theorem packetOpens_k22 : ((Rows.packetOpensUptoRow.plainKeys == Tryz.pinned.checked.prog.plainKeys)) = true := by kernel_rfl
theorem packetOpens_k23 : (Rows.packetOpensUptoRow.shortTexts.isNone) = true := by kernel_rfl
theorem packetOpens_k24 : (Tryz.pinned.checked.prog.stopsHeard) = true := by kernel_rfl
theorem packetOpens_k25 : (Tryz.pinned.checked.prog.mayEnter) = true := by kernel_rfl
theorem packetOpens_k26 : ((Rows.packetOpensUptoRow.lifted == Tryz.pinned.checked.prog.liftsFinal)) = true := by kernel_rfl
theorem packetOpens_k27 : ((Tryz.pinned.checked.prog.make == some Rows.packetOpensUptoRow.make)) = true := by kernel_rfl
theorem packetOpens_k28 : ((Rows.packetOpensUptoRow.kinds == (if Rows.packetOpensUptoRow.domain.isEmpty then [] else Tryz.f7.params.toList.map fun t => match Tryz.pinned.checked.prog.underlying t with | some (.int k) => some k | _ => none))) = true := by kernel_rfl
theorem packetOpens_k29 : ((Rows.packetOpensUptoRow.pinned == Rows.packetOpensUptoRow.pinnedBy)) = true := by kernel_rfl
theorem packetOpens_k30 : ((Rows.packetOpensUptoRow.veiled == (Tryz.f7.params.toList ++ Rows.packetOpensSpec.plain.varTypes Tryz.pinned.checked.prog ++ Tryz.f7.resultTypes.toList).any (Tryz.pinned.checked.prog.veiledRec ·))) = true := by kernel_rfl
theorem packetOpens_k31 : (Rows.packetOpensUptoRow.veiledFits Tryz.pinned.checked.prog Tryz.f7.params.toList (Tryz.f7.params.toList ++ Rows.packetOpensSpec.plain.varTypes Tryz.pinned.checked.prog ++ Tryz.f7.resultTypes.toList)) = true := by kernel_rfl
end Go.Proofs.YtlmnjnhmhacgkaaGreatDoor.Top
end
