/- What is proved: the closed facts that the card asks, one theorem each, by the kernel. No condition. -/
import Derived.Test.YtjhjgkdmacndgaaGreatDoorClosed
import Derived.Test.YtjhjgkdmacndgaaGreatDoorCards
import Derived.Test.YtjhjgkdmacndgaaGreatDoorTie
import Derived.SevenTiedAt
set_option linter.unusedVariables false
set_option linter.unusedSimpArgs false
namespace Go.Proofs.YtjhjgkdmacndgaaGreatDoor
open Go
set_option maxRecDepth 100000
theorem named : Tryz.prog.funcNamed Rows.askLexesRow.func = some 3 := by kernel_rfl
theorem inst : Tryz.f3.isInstance Tryz.prog Rows.askLexesRow.origin Rows.askLexesRow.targs := of_decide_eq_true (by kernel_rfl)
theorem wrap : Tryz.f3.isWrapper Tryz.prog Rows.askLexesRow.wrapper Rows.askLexesRow.mainSum := by unfold Func.isWrapper; first | (rw [if_pos (by decide +kernel)]; kernel_rfl) | (rw [if_neg (by decide +kernel)]; exact ⟨rfl, rfl⟩)
theorem wfText : Rows.askLexesRow.wfByText (OpenSpec.ofChange Rows.askLexesSpec) = true := by kernel_rfl
theorem mainIs : Tryz.prog.mainIs = some (true, "52d6ec525ff360f66f36673e960c3be5d0891813c8e1ce9fb19b3b0679283973".toList) := by kernel_rfl
theorem looks : true = Tryz.prog.looks [] := by kernel_rfl
theorem wants9 : Tryz.prog.wantsStandIn 9 = false := by kernel_rfl
theorem goesBy : false = Rows.askLexesRow.goesBy Tryz.prog := by kernel_rfl
end Go.Proofs.YtjhjgkdmacndgaaGreatDoor
