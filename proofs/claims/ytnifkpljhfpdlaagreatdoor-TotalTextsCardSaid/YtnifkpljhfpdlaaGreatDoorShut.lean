/- What is proved: the closed facts that the card asks, one theorem each, by the kernel. No condition. -/
import Derived.Test.YtnifkpljhfpdlaaGreatDoorClosed
import Derived.Test.YtnifkpljhfpdlaaGreatDoorCards
import Derived.Test.YtnifkpljhfpdlaaGreatDoorTie
import Derived.SevenTiedAt
set_option linter.unusedVariables false
set_option linter.unusedSimpArgs false
namespace Go.Proofs.YtnifkpljhfpdlaaGreatDoor
open Go
set_option maxRecDepth 100000
theorem named : Tryz.prog.funcNamed Rows.totalTextsRow.func = some 4 := by kernel_rfl
theorem inst : Tryz.f4.isInstance Tryz.prog Rows.totalTextsRow.origin Rows.totalTextsRow.targs := of_decide_eq_true (by kernel_rfl)
theorem wrap : Tryz.f4.isWrapper Tryz.prog Rows.totalTextsRow.wrapper Rows.totalTextsRow.mainSum := by unfold Func.isWrapper; first | (rw [if_pos (by decide +kernel)]; kernel_rfl) | (rw [if_neg (by decide +kernel)]; exact ⟨rfl, rfl⟩)
theorem wfText : Rows.totalTextsRow.wfByText (OpenSpec.ofChange Rows.totalTextsSpec) = true := by kernel_rfl
theorem mainIs : Tryz.prog.mainIs = some (true, "fa3c7dc565851a8464d8e603006aaf76192b1fc663709e091ee1cd96e0fb009a".toList) := by kernel_rfl
theorem looks : true = Tryz.prog.looks [] := by kernel_rfl
theorem wants26 : Tryz.prog.wantsStandIn 26 = false := by kernel_rfl
theorem wants3 : Tryz.prog.wantsStandIn 3 = false := by kernel_rfl
theorem wants24 : Tryz.prog.wantsStandIn 24 = false := by kernel_rfl
theorem wants9 : Tryz.prog.wantsStandIn 9 = false := by kernel_rfl
theorem goesBy : false = Rows.totalTextsRow.goesBy Tryz.prog := by kernel_rfl
end Go.Proofs.YtnifkpljhfpdlaaGreatDoor
