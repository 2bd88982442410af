/- What is proved: runs of functions of this program on the abstract machine, over canonical arguments, by the kernel (printed by a program of this repository). No condition. -/
import Derived.Test.YtkemjdedikobfaaGreatDoorMem3a
set_option linter.unusedVariables false
set_option linter.unusedSimpArgs false
namespace Go.Ab
open Go.Proofs
def mem10:Memo:=⟨18,[(zs 6 0 3 capU)],6,q8,(zu [(zs 662 0 4 capU),(zi 0)]),[662,169,347,501,655],[.cells [(zi 0),(zi 0),(zs 169 0 2 capU),(zi 1),(zi 0),(zs 347 0 2 capU),(zi 1),(zi 0),(zs 501 0 2 capU),(zi 1),(zi 0),(zs 655 0 2 capU)] [508,354,179] 3 true,.cells q12 [] 6 true,.cells q19 [] 6 true,.cells [(zi 1),(zi 1),(zi 1),(.slice none 0 0),(zi 11),(zi 11),(zi (-1)),(zi 1),(zi 1),(.slice none 0 0),(zi 12),(zi 12)] [] 6 true,.cells [(zi 1),(zi 1),(zi 1),(.slice none 0 0),(zi 12),(zi 12),(zi (-1)),(zi 1),(zi 1),(.slice none 0 0),(zi 13),(zi 13)] [] 6 true]⟩
theorem std10:Md mem10:=sd stub3
end Go.Ab
