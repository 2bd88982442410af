/- What is proved: runs of functions of this program on the abstract machine, over canonical arguments, by the kernel (printed by a program of this repository). No condition. -/
import Derived.Test.YtkemjdedikobfaaGreatDoorMem4c
set_option linter.unusedVariables false
set_option linter.unusedSimpArgs false
namespace Go.Ab
open Go.Proofs
def mem88:Memo:=⟨71,[q21,(za [(zi 0),(zs 11 0 2 capU)])],6,[q3,q1,q7,q5,q0,⟨q19,6⟩],(zu [(za [(zi 0),(zs 11 0 2 capU),(zs 6 0 2 2),(zs 7 0 3 3),(zs 8 0 1 1),(zs 9 0 1 1),(zs 10 0 5 5),(zs 94 0 3 capU),(zs 102 0 2 capU)]),(zi 0)]),[94,102,103,104],[.cells q13 [82] 2 true,.cells [(zs 103 0 1 1),(zs 104 0 1 1)] [] 1 true,.cells [(zi 1)] [] 1 true,.cells [(zi 2)] [] 1 true]⟩
theorem std88:Md mem88:=sd stub4
end Go.Ab
