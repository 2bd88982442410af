/- What is proved: the closed facts of the row, one theorem each, by the kernel. No condition. -/
import Derived.Test.YtnifkpljhfpdlaaGreatDoorRows
import Derived.JoinedOf
import Derived.KernelRfl
set_option linter.unusedVariables false
set_option linter.unusedSimpArgs false
namespace Go.Proofs.YtnifkpljhfpdlaaGreatDoor
open Go
set_option maxRecDepth 100000
theorem joined_k1 : (Rows.totalTextsRow.wf (OpenSpec.ofChange Rows.totalTextsSpec)) = true := by kernel_rfl
theorem joined_k2 : (laidOutB Tryz.prog) = true := by kernel_rfl
theorem joined_k3 : (mapsRowed Tryz.prog) = true := by kernel_rfl
theorem joined_k4 : (Tryz.f4.params.all (Tryz.prog.readableRec ·)) = true := by kernel_rfl
theorem joined_k5 : (namedTie Tryz.prog Rows.totalTextsRow.named Rows.totalTextsSpec.vars) = true := by kernel_rfl
theorem joined_k6 : ((Rows.totalTextsRow.stops == [])) = true := by kernel_rfl
theorem joined_k7 : ((Tryz.prog.stops == [])) = true := by kernel_rfl
theorem joined_k8 : ((Rows.totalTextsRow.knobs == [])) = true := by kernel_rfl
theorem joined_k9 : ((Tryz.prog.stopKnobs == [])) = true := by kernel_rfl
theorem joined_k10 : ((Rows.totalTextsRow.inPlace == Tryz.prog.inPlace 4)) = true := by kernel_rfl
theorem joined_k11 : ((Rows.totalTextsRow.unfollowed == Tryz.prog.unfollowed 4)) = true := by kernel_rfl
theorem joined_k12 : ((Rows.totalTextsRow.recurses == Tryz.prog.recurses 4)) = true := by kernel_rfl
theorem joined_k13 : ((Rows.totalTextsRow.named == Tryz.prog.varsNamed 4)) = true := by kernel_rfl
theorem joined_k14 : ((Rows.totalTextsRow.maps == (Tryz.f4.params.toList ++ Rows.totalTextsSpec.plain.varTypes Tryz.prog).any (Tryz.prog.mapsRec ·))) = true := by kernel_rfl
theorem joined_k15 : ((Rows.totalTextsRow.ifaces == (Tryz.f4.params.toList ++ Rows.totalTextsSpec.plain.varTypes Tryz.prog).any (Tryz.prog.ifacesRec ·))) = true := by kernel_rfl
theorem joined_k16 : ((Rows.totalTextsRow.mapsOut == Tryz.prog.mapsAmong Tryz.f4.resultTypes.toList)) = true := by kernel_rfl
theorem joined_k17 : ((Rows.totalTextsRow.loops == (Tryz.f4.params.toList ++ Rows.totalTextsSpec.plain.varTypes Tryz.prog).any (Tryz.prog.loopsFrom ·))) = true := by kernel_rfl
theorem joined_k17b : ((Rows.totalTextsRow.wideKeys == (Tryz.f4.params.toList ++ Rows.totalTextsSpec.plain.varTypes Tryz.prog ++ Tryz.f4.resultTypes.toList).any (Tryz.prog.wideKeysFrom ·))) = true := by kernel_rfl
theorem joined_k18 : (Rows.totalTextsSpec.vars.all (Tryz.prog.varReadable ·)) = true := by kernel_rfl
theorem joined_k19 : (Tryz.f4.resultTypes.all (fun t => Tryz.prog.readableRec t && decide (t < Tryz.prog.types.size))) = true := by kernel_rfl
theorem joined_k20 : ((Rows.totalTextsRow.ifacesOut == Tryz.f4.resultTypes.toList.any (Tryz.prog.ifacesRec ·))) = true := by kernel_rfl
theorem joined_k21 : ((Rows.totalTextsRow.loopsOut == Tryz.f4.resultTypes.toList.any (Tryz.prog.loopsFrom ·))) = true := by kernel_rfl
theorem joined_k22 : ((Rows.totalTextsRow.plainKeys == Tryz.prog.plainKeys)) = true := by kernel_rfl
theorem joined_k23 : (Rows.totalTextsRow.shortTexts.isNone) = true := by kernel_rfl
theorem joined_k23b : (Tryz.prog.stopsHeard) = true := by kernel_rfl
theorem joined_k24 : (Tryz.prog.mayEnter) = true := by kernel_rfl
theorem joined_k24b : ((Rows.totalTextsRow.lifted == Tryz.prog.liftsFinal)) = true := by kernel_rfl
theorem joined_k24c : ((Tryz.prog.make == some Rows.totalTextsRow.make)) = true := by kernel_rfl
theorem joined_k25 : ((Rows.totalTextsRow.kinds == (if Rows.totalTextsRow.domain.isEmpty then [] else Tryz.f4.params.toList.map fun t => match Tryz.prog.underlying t with | some (.int k) => some k | _ => none))) = true := by kernel_rfl
theorem joined_k26 : ((Rows.totalTextsRow.pinned == Rows.totalTextsRow.pinnedBy)) = true := by kernel_rfl
theorem joined_k27 : ((Rows.totalTextsRow.veiled == (Tryz.f4.params.toList ++ Rows.totalTextsSpec.plain.varTypes Tryz.prog ++ Tryz.f4.resultTypes.toList).any (Tryz.prog.veiledRec ·))) = true := by kernel_rfl
theorem joined_k28 : (Rows.totalTextsRow.veiledFits Tryz.prog Tryz.f4.params.toList (Tryz.f4.params.toList ++ Rows.totalTextsSpec.plain.varTypes Tryz.prog ++ Tryz.f4.resultTypes.toList)) = true := by kernel_rfl
theorem and_true {a b : Bool} (x : a = true) (y : b = true) : (a && b) = true := by rw [x, y]; rfl
theorem closed : joinedFacts Tryz.prog 4 Tryz.f4 Rows.totalTextsSpec Rows.totalTextsRow = true := (and_true (and_true (and_true (and_true (and_true (and_true (and_true (and_true (and_true (and_true (and_true (and_true (and_true (and_true (and_true (and_true (and_true (and_true (and_true (and_true (and_true (and_true (and_true (and_true (and_true (and_true (and_true (and_true (and_true (and_true (and_true joined_k1 joined_k2) joined_k3) joined_k4) joined_k5) joined_k6) joined_k7) joined_k8) joined_k9) joined_k10) joined_k11) joined_k12) joined_k13) joined_k14) joined_k15) joined_k16) joined_k17) joined_k17b) joined_k18) joined_k19) joined_k20) joined_k21) joined_k22) joined_k23) joined_k23b) joined_k24) joined_k24b) joined_k24c) joined_k25) joined_k26) joined_k27) joined_k28)
end Go.Proofs.YtnifkpljhfpdlaaGreatDoor
