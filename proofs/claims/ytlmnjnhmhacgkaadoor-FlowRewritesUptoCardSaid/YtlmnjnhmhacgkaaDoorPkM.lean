/-
  Closed facts of the row flowRewrites. Printed by a program (wip/pk/rowfacts.py).
-/
import Derived.Test.YtlmnjnhmhacgkaaDoorPkK
section
set_option linter.unusedVariables false
set_option maxRecDepth 100000
namespace Go.Proofs.YtlmnjnhmhacgkaaDoor.Top
open Go Go.Am Go.Proofs Go.Proofs.YtlmnjnhmhacgkaaDoor.Am
theorem flowRewrites_k16 : ((Rows.flowRewritesUptoRow.loops == (Tryd.f3.params.toList ++ Rows.flowRewritesSpec.plain.varTypes Tryd.pinned.checked.prog).any (Tryd.pinned.checked.prog.loopsFrom ·))) = true := by kernel_rfl
theorem flowRewrites_k17 : ((Rows.flowRewritesUptoRow.wideKeys == (Tryd.f3.params.toList ++ Rows.flowRewritesSpec.plain.varTypes Tryd.pinned.checked.prog ++ Tryd.f3.resultTypes.toList).any (Tryd.pinned.checked.prog.wideKeysFrom ·))) = true := by kernel_rfl
theorem flowRewrites_k18 : (Rows.flowRewritesSpec.vars.all (Tryd.pinned.checked.prog.varReadable ·)) = true := by kernel_rfl
theorem flowRewrites_k19 : (Tryd.f3.resultTypes.all (fun t => Tryd.pinned.checked.prog.readableRec t && decide (t < Tryd.pinned.checked.prog.types.size))) = true := by kernel_rfl
theorem flowRewrites_k20 : ((Rows.flowRewritesUptoRow.ifacesOut == Tryd.f3.resultTypes.toList.any (Tryd.pinned.checked.prog.ifacesRec ·))) = true := by kernel_rfl
theorem flowRewrites_k21 : ((Rows.flowRewritesUptoRow.loopsOut == Tryd.f3.resultTypes.toList.any (Tryd.pinned.checked.prog.loopsFrom ·))) = true := by kernel_rfl
theorem flowRewrites_k22 : ((Rows.flowRewritesUptoRow.plainKeys == Tryd.pinned.checked.prog.plainKeys)) = true := by kernel_rfl
theorem flowRewrites_k23 : (Rows.flowRewritesUptoRow.shortTexts.isNone) = true := by kernel_rfl
theorem flowRewrites_k24 : (Tryd.pinned.checked.prog.stopsHeard) = true := by kernel_rfl
theorem flowRewrites_k25 : (Tryd.pinned.checked.prog.mayEnter) = true := by kernel_rfl
theorem flowRewrites_k26 : ((Rows.flowRewritesUptoRow.lifted == Tryd.pinned.checked.prog.liftsFinal)) = true := by kernel_rfl
theorem flowRewrites_k27 : ((Tryd.pinned.checked.prog.make == some Rows.flowRewritesUptoRow.make)) = true := by kernel_rfl
theorem flowRewrites_k28 : ((Rows.flowRewritesUptoRow.kinds == (if Rows.flowRewritesUptoRow.domain.isEmpty then [] else Tryd.f3.params.toList.map fun t => match Tryd.pinned.checked.prog.underlying t with | some (.int k) => some k | _ => none))) = true := by kernel_rfl
theorem flowRewrites_k29 : ((Rows.flowRewritesUptoRow.pinned == Rows.flowRewritesUptoRow.pinnedBy)) = true := by kernel_rfl
theorem flowRewrites_k30 : ((Rows.flowRewritesUptoRow.veiled == (Tryd.f3.params.toList ++ Rows.flowRewritesSpec.plain.varTypes Tryd.pinned.checked.prog ++ Tryd.f3.resultTypes.toList).any (Tryd.pinned.checked.prog.veiledRec ·))) = true := by kernel_rfl
theorem flowRewrites_k31 : (Rows.flowRewritesUptoRow.veiledFits Tryd.pinned.checked.prog Tryd.f3.params.toList (Tryd.f3.params.toList ++ Rows.flowRewritesSpec.plain.varTypes Tryd.pinned.checked.prog ++ Tryd.f3.resultTypes.toList)) = true := by kernel_rfl
end Go.Proofs.YtlmnjnhmhacgkaaDoor.Top
end
