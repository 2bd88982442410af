/- What is proved: the closed facts that the card asks, one theorem each, by the kernel. No condition. -/
import Derived.Test.YtnifkpljhfpdlaaGreatDoorClosed
import Derived.Test.YtnifkpljhfpdlaaGreatDoorCards
import Derived.Test.YtnifkpljhfpdlaaGreatDoorTie
import Derived.SevenTiedAt
set_option linter.unusedVariables false
set_option linter.unusedSimpArgs false
namespace Go.Proofs.YtnifkpljhfpdlaaGreatDoor
open Go
set_option maxRecDepth 100000
theorem named : Tryz.prog.funcNamed Rows.totalTextsBackRow.func = some 3 := by kernel_rfl
theorem inst : Tryz.f3.isInstance Tryz.prog Rows.totalTextsBackRow.origin Rows.totalTextsBackRow.targs := of_decide_eq_true (by kernel_rfl)
theorem wrap : Tryz.f3.isWrapper Tryz.prog Rows.totalTextsBackRow.wrapper Rows.totalTextsBackRow.mainSum := by unfold Func.isWrapper; first | (rw [if_pos (by decide +kernel)]; kernel_rfl) | (rw [if_neg (by decide +kernel)]; exact ⟨rfl, rfl⟩)
theorem wfText : Rows.totalTextsBackRow.wfByText (OpenSpec.ofChange Rows.totalTextsBackSpec) = true := by kernel_rfl
theorem mainIs : Tryz.prog.mainIs = some (true, "fa3c7dc565851a8464d8e603006aaf76192b1fc663709e091ee1cd96e0fb009a".toList) := by kernel_rfl
theorem looks : true = Tryz.prog.looks [] := by kernel_rfl
theorem wants26 : Tryz.prog.wantsStandIn 26 = false := by kernel_rfl
theorem wants9 : Tryz.prog.wantsStandIn 9 = false := by kernel_rfl
theorem goesBy : false = Rows.totalTextsBackRow.goesBy Tryz.prog := by kernel_rfl
end Go.Proofs.YtnifkpljhfpdlaaGreatDoor
