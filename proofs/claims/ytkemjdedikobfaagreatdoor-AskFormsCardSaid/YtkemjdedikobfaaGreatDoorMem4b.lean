/- What is proved: runs of functions of this program on the abstract machine, over canonical arguments, by the kernel (printed by a program of this repository). No condition. -/
import Derived.Test.YtkemjdedikobfaaGreatDoorMem4a
set_option linter.unusedVariables false
set_option linter.unusedSimpArgs false
namespace Go.Ab
open Go.Proofs
def mem54:Memo:=⟨72,[q18,(.bool false)],6,q37,(zu [(za [(.bool false),(zi 4),(zs 243 0 2 capU),(zi 1),(zs 403 0 2 capU)]),(zi 0)]),[243,403,180,240,278,368,42,62,201,210],[.cells [(zi 0),(.slice none 0 0),(zs 180 0 2 capU),(zi 0),(.slice none 0 0),(zs 240 0 2 capU)] [183] 3 true,.cells [(zs 278 0 5 5),(zs 368 0 4 4)] [344] 1 true,.cells [(zs 42 0 14 14),(zs 62 0 10 10)] [44] 1 true,.cells [(zs 201 0 14 14),(zs 210 0 10 10)] [203] 1 true,.cells q28 [] 1 true,.cells q27 [] 1 true,.cells q16 [] 1 true,.cells q34 [] 1 true,.cells q16 [] 1 true,.cells q30 [] 1 true]⟩
theorem std54:Md mem54:=sd stub4
end Go.Ab
