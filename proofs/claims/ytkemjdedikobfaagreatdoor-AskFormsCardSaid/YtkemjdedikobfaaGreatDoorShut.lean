/- What is proved: the closed facts that the card asks, one theorem each, by the kernel. No condition. -/
import Derived.Test.YtkemjdedikobfaaGreatDoorClosed
import Derived.Test.YtkemjdedikobfaaGreatDoorCards
import Derived.Test.YtkemjdedikobfaaGreatDoorTie
import Derived.SevenTiedAt
set_option linter.unusedVariables false
set_option linter.unusedSimpArgs false
namespace Go.Proofs.YtkemjdedikobfaaGreatDoor
open Go
set_option maxRecDepth 100000
theorem named:Tryz.prog.funcNamed Rows.askFormsRow.func=some 3:=by kernel_rfl
theorem inst:Tryz.f3.isInstance Tryz.prog Rows.askFormsRow.origin Rows.askFormsRow.targs:=of_decide_eq_true (by kernel_rfl)
theorem wrap:Tryz.f3.isWrapper Tryz.prog Rows.askFormsRow.wrapper Rows.askFormsRow.mainSum:=by unfold Func.isWrapper;first | (rw [if_pos (by decide +kernel)];kernel_rfl) | (rw [if_neg (by decide +kernel)];exact ⟨rfl,rfl⟩)
theorem wfText:Rows.askFormsRow.wfByText (OpenSpec.ofChange Rows.askFormsSpec)=true:=by kernel_rfl
theorem mainIs:Tryz.prog.mainIs=some (true, "d02640f45e992c16605511064798ef803b706b4c5db77012d658fe766327cdf1".toList):=by kernel_rfl
theorem looks:true=Tryz.prog.looks []:=by kernel_rfl
theorem wants24:Tryz.prog.wantsStandIn 24=false:=by kernel_rfl
theorem wants3:Tryz.prog.wantsStandIn 3=false:=by kernel_rfl
theorem goesBy:false=Rows.askFormsRow.goesBy Tryz.prog:=by kernel_rfl
end Go.Proofs.YtkemjdedikobfaaGreatDoor
