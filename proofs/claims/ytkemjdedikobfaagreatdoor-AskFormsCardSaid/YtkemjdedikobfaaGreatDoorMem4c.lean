/- What is proved: runs of functions of this program on the abstract machine, over canonical arguments, by the kernel (printed by a program of this repository). No condition. -/
import Derived.Test.YtkemjdedikobfaaGreatDoorMem4b
set_option linter.unusedVariables false
set_option linter.unusedSimpArgs false
namespace Go.Ab
open Go.Proofs
def mem57:Memo:=⟨72,[q18,(.bool true)],6,q37,(zu [(za [(.bool true),(zi 84),(zs 276 0 2 capU),(zi 0),(zs 500 0 2 capU)]),(zi 0)]),[276,500,153,273,311,465,36,48,174,186],[.cells [(zi 0),(.slice none 0 0),(zs 153 0 2 capU),(zi 0),(.slice none 0 0),(zs 273 0 2 capU)] [156] 3 true,.cells [(zs 311 0 5 5),(zs 465 0 4 4)] [361] 1 true,.cells [(zs 36 0 14 14),(zs 48 0 10 10)] [38] 1 true,.cells [(zs 174 0 14 14),(zs 186 0 10 10)] [176] 1 true,.cells q28 [] 1 true,.cells q27 [] 1 true,.cells q17 [] 1 true,.cells q35 [] 1 true,.cells q17 [] 1 true,.cells q36 [] 1 true]⟩
theorem std57:Md mem57:=sd stub4
end Go.Ab
