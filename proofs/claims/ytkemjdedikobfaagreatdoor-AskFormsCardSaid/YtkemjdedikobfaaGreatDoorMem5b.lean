/- What is proved: runs of functions of this program on the abstract machine, over canonical arguments, by the kernel (printed by a program of this repository). No condition. -/
import Derived.Test.YtkemjdedikobfaaGreatDoorMem5a
set_option linter.unusedVariables false
set_option linter.unusedSimpArgs false
namespace Go.Ab
open Go.Proofs
def mem97:Memo:=⟨39,[q21,(za [(zi 1),(zi 0),(zs 11 0 2 capU)])],6,[q3,q1,q7,q5,q0,⟨q19,6⟩],(za [(zi 0),(zi 4),(zi 34),(zi 2),(.bool false),(zi 4),(zs 20 0 2 capU),(zi 0),(zs 21 0 2 capU),(.bool true),(zi 34),(zs 237 0 2 capU),(zi 0),(zs 354 0 2 capU),(.slice none 0 0)]),[20,21,237,354,22,23,24,25,128,234,274,352,26,27,28,29,51,98,149,201],[.cells q65 [] 3 true,.cells [(zs 24 0 6 6),(zs 25 0 4 4)] [] 1 true,.cells [(zi 0),(.slice none 0 0),(zs 128 0 2 capU),(zi 0),(.slice none 0 0),(zs 234 0 2 capU)] [131] 3 true,.cells [(zs 274 0 6 6),(zs 352 0 4 4)] [330] 1 true,.cells [(zs 26 0 16 16),(zs 27 0 10 10)] [] 1 true,.cells [(zs 28 0 16 16),(zs 29 0 10 10)] [] 1 true,.cells q61 [] 1 true,.cells q27 [] 1 true,.cells [(zs 51 0 16 16),(zs 98 0 10 10)] [91] 1 true,.cells [(zs 149 0 16 16),(zs 201 0 10 10)] [189] 1 true,.cells [(zi 0),(zi 0),(zi 34),(zi 34),(zi 64),(zi 84)] [] 1 true,.cells q27 [] 1 true,.cells q22 [] 1 true,.cells q20 [] 1 true,.cells q22 [] 1 true,.cells q20 [] 1 true,.cells q24 [] 1 true,.cells q20 [] 1 true,.cells q24 [] 1 true,.cells q20 [] 1 true]⟩
theorem std97:Md mem97:=sd stub5
end Go.Ab
