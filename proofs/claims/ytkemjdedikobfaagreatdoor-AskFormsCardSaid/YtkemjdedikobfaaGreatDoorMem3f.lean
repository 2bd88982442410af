/- What is proved: runs of functions of this program on the abstract machine, over canonical arguments, by the kernel (printed by a program of this repository). No condition. -/
import Derived.Test.YtkemjdedikobfaaGreatDoorMem3e
set_option linter.unusedVariables false
set_option linter.unusedSimpArgs false
namespace Go.Ab
open Go.Proofs
def mem95:Memo:=⟨72,[q23,(.bool false)],6,q47,(zu [(za [(.bool false),(zi 4),(zs 246 0 2 capU),(zi 0),(zs 399 0 2 capU)]),(zi 0)]),[246,399,125,243,291,397,42,95,152,210],[.cells [(zi 0),(.slice none 0 0),(zs 125 0 2 capU),(zi 0),(.slice none 0 0),(zs 243 0 2 capU)] [128] 3 true,.cells [(zs 291 0 6 6),(zs 397 0 4 4)] [369] 1 true,.cells [(zs 42 0 16 16),(zs 95 0 10 10)] [82] 1 true,.cells [(zs 152 0 16 16),(zs 210 0 10 10)] [192] 1 true,.cells q61 [] 1 true,.cells q27 [] 1 true,.cells q22 [] 1 true,.cells q20 [] 1 true,.cells q22 [] 1 true,.cells q20 [] 1 true]⟩
theorem std95:Md mem95:=sd stub3
end Go.Ab
