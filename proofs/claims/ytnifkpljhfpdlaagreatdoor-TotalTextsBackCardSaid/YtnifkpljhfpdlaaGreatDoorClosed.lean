/- What is proved: the closed facts of the row, one theorem each, by the kernel. No condition. -/
import Derived.Test.YtnifkpljhfpdlaaGreatDoorRows
import Derived.JoinedOf
import Derived.KernelRfl
set_option linter.unusedVariables false
set_option linter.unusedSimpArgs false
namespace Go.Proofs.YtnifkpljhfpdlaaGreatDoor
open Go
set_option maxRecDepth 100000
theorem joined_k1 : (Rows.totalTextsBackRow.wf (OpenSpec.ofChange Rows.totalTextsBackSpec)) = true := by kernel_rfl
theorem joined_k2 : (laidOutB Tryz.prog) = true := by kernel_rfl
theorem joined_k3 : (mapsRowed Tryz.prog) = true := by kernel_rfl
theorem joined_k4 : (Tryz.f3.params.all (Tryz.prog.readableRec ·)) = true := by kernel_rfl
theorem joined_k5 : (namedTie Tryz.prog Rows.totalTextsBackRow.named Rows.totalTextsBackSpec.vars) = true := by kernel_rfl
theorem joined_k6 : ((Rows.totalTextsBackRow.stops == [])) = true := by kernel_rfl
theorem joined_k7 : ((Tryz.prog.stops == [])) = true := by kernel_rfl
theorem joined_k8 : ((Rows.totalTextsBackRow.knobs == [])) = true := by kernel_rfl
theorem joined_k9 : ((Tryz.prog.stopKnobs == [])) = true := by kernel_rfl
theorem joined_k10 : ((Rows.totalTextsBackRow.inPlace == Tryz.prog.inPlace 3)) = true := by kernel_rfl
theorem joined_k11 : ((Rows.totalTextsBackRow.unfollowed == Tryz.prog.unfollowed 3)) = true := by kernel_rfl
theorem joined_k12 : ((Rows.totalTextsBackRow.recurses == Tryz.prog.recurses 3)) = true := by kernel_rfl
theorem joined_k13 : ((Rows.totalTextsBackRow.named == Tryz.prog.varsNamed 3)) = true := by kernel_rfl
theorem joined_k14 : ((Rows.totalTextsBackRow.maps == (Tryz.f3.params.toList ++ Rows.totalTextsBackSpec.plain.varTypes Tryz.prog).any (Tryz.prog.mapsRec ·))) = true := by kernel_rfl
theorem joined_k15 : ((Rows.totalTextsBackRow.ifaces == (Tryz.f3.params.toList ++ Rows.totalTextsBackSpec.plain.varTypes Tryz.prog).any (Tryz.prog.ifacesRec ·))) = true := by kernel_rfl
theorem joined_k16 : ((Rows.totalTextsBackRow.mapsOut == Tryz.prog.mapsAmong Tryz.f3.resultTypes.toList)) = true := by kernel_rfl
theorem joined_k17 : ((Rows.totalTextsBackRow.loops == (Tryz.f3.params.toList ++ Rows.totalTextsBackSpec.plain.varTypes Tryz.prog).any (Tryz.prog.loopsFrom ·))) = true := by kernel_rfl
theorem joined_k17b : ((Rows.totalTextsBackRow.wideKeys == (Tryz.f3.params.toList ++ Rows.totalTextsBackSpec.plain.varTypes Tryz.prog ++ Tryz.f3.resultTypes.toList).any (Tryz.prog.wideKeysFrom ·))) = true := by kernel_rfl
theorem joined_k18 : (Rows.totalTextsBackSpec.vars.all (Tryz.prog.varReadable ·)) = true := by kernel_rfl
theorem joined_k19 : (Tryz.f3.resultTypes.all (fun t => Tryz.prog.readableRec t && decide (t < Tryz.prog.types.size))) = true := by kernel_rfl
theorem joined_k20 : ((Rows.totalTextsBackRow.ifacesOut == Tryz.f3.resultTypes.toList.any (Tryz.prog.ifacesRec ·))) = true := by kernel_rfl
theorem joined_k21 : ((Rows.totalTextsBackRow.loopsOut == Tryz.f3.resultTypes.toList.any (Tryz.prog.loopsFrom ·))) = true := by kernel_rfl
theorem joined_k22 : ((Rows.totalTextsBackRow.plainKeys == Tryz.prog.plainKeys)) = true := by kernel_rfl
theorem joined_k23 : (Rows.totalTextsBackRow.shortTexts.isNone) = true := by kernel_rfl
theorem joined_k23b : (Tryz.prog.stopsHeard) = true := by kernel_rfl
theorem joined_k24 : (Tryz.prog.mayEnter) = true := by kernel_rfl
theorem joined_k24b : ((Rows.totalTextsBackRow.lifted == Tryz.prog.liftsFinal)) = true := by kernel_rfl
theorem joined_k24c : ((Tryz.prog.make == some Rows.totalTextsBackRow.make)) = true := by kernel_rfl
theorem joined_k25 : ((Rows.totalTextsBackRow.kinds == (if Rows.totalTextsBackRow.domain.isEmpty then [] else Tryz.f3.params.toList.map fun t => match Tryz.prog.underlying t with | some (.int k) => some k | _ => none))) = true := by kernel_rfl
theorem joined_k26 : ((Rows.totalTextsBackRow.pinned == Rows.totalTextsBackRow.pinnedBy)) = true := by kernel_rfl
theorem joined_k27 : ((Rows.totalTextsBackRow.veiled == (Tryz.f3.params.toList ++ Rows.totalTextsBackSpec.plain.varTypes Tryz.prog ++ Tryz.f3.resultTypes.toList).any (Tryz.prog.veiledRec ·))) = true := by kernel_rfl
theorem joined_k28 : (Rows.totalTextsBackRow.veiledFits Tryz.prog Tryz.f3.params.toList (Tryz.f3.params.toList ++ Rows.totalTextsBackSpec.plain.varTypes Tryz.prog ++ Tryz.f3.resultTypes.toList)) = true := by kernel_rfl
theorem and_true {a b : Bool} (x : a = true) (y : b = true) : (a && b) = true := by rw [x, y]; rfl
theorem closed : joinedFacts Tryz.prog 3 Tryz.f3 Rows.totalTextsBackSpec Rows.totalTextsBackRow = true := (and_true (and_true (and_true (and_true (and_true (and_true (and_true (and_true (and_true (and_true (and_true (and_true (and_true (and_true (and_true (and_true (and_true (and_true (and_true (and_true (and_true (and_true (and_true (and_true (and_true (and_true (and_true (and_true (and_true (and_true (and_true joined_k1 joined_k2) joined_k3) joined_k4) joined_k5) joined_k6) joined_k7) joined_k8) joined_k9) joined_k10) joined_k11) joined_k12) joined_k13) joined_k14) joined_k15) joined_k16) joined_k17) joined_k17b) joined_k18) joined_k19) joined_k20) joined_k21) joined_k22) joined_k23) joined_k23b) joined_k24) joined_k24b) joined_k24c) joined_k25) joined_k26) joined_k27) joined_k28)
end Go.Proofs.YtnifkpljhfpdlaaGreatDoor
