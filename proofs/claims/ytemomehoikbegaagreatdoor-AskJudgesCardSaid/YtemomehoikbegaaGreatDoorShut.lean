/- What is proved: the closed facts that the card asks, one theorem each, by the kernel. No condition. -/
import Derived.Test.YtemomehoikbegaaGreatDoorClosed
import Derived.Test.YtemomehoikbegaaGreatDoorCards
import Derived.Test.YtemomehoikbegaaGreatDoorTie
import Derived.SevenTiedAt

namespace Go.Proofs.YtemomehoikbegaaGreatDoor
open Go
set_option maxRecDepth 100000
theorem named : Tryz.prog.funcNamed Rows.askJudgesRow.func = some 3 := by kernel_rfl
theorem inst : Tryz.f3.isInstance Tryz.prog Rows.askJudgesRow.origin Rows.askJudgesRow.targs := of_decide_eq_true (by kernel_rfl)
theorem wrap : Tryz.f3.isWrapper Tryz.prog Rows.askJudgesRow.wrapper Rows.askJudgesRow.mainSum := by unfold Func.isWrapper; first | (rw [if_pos (by decide +kernel)]; kernel_rfl) | (rw [if_neg (by decide +kernel)]; exact ⟨rfl, rfl⟩)
theorem wfText : Rows.askJudgesRow.wfByText (OpenSpec.ofChange Rows.askJudgesSpec) = true := by kernel_rfl
theorem mainIs : Tryz.prog.mainIs = some (true, "4537cea42f04e6d4bbe0e12e152a415ac6be5102f491286cbd7ba1533d766fa2".toList) := by kernel_rfl
theorem looks : true = Tryz.prog.looks [] := by kernel_rfl
theorem wants3 : Tryz.prog.wantsStandIn 3 = false := by kernel_rfl
theorem wants23 : Tryz.prog.wantsStandIn 23 = false := by kernel_rfl
theorem goesBy : false = Rows.askJudgesRow.goesBy Tryz.prog := by kernel_rfl
end Go.Proofs.YtemomehoikbegaaGreatDoor
