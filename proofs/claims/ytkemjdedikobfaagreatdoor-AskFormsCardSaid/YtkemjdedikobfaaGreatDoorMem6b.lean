/- What is proved: runs of functions of this program on the abstract machine, over canonical arguments, by the kernel (printed by a program of this repository). No condition. -/
import Derived.Test.YtkemjdedikobfaaGreatDoorMem6a
set_option linter.unusedVariables false
set_option linter.unusedSimpArgs false
namespace Go.Ab
open Go.Proofs
def mem98:Memo:=⟨21,[q21,(za [(zi 1),(zi 0),(zs 11 0 2 capU)])],6,[q3,q1,q7,q5,q0,⟨q19,6⟩],(zu [(za [(zi 0),(zi 4),(zi 34),(zi 2),(.bool false),(zi 4),(zs 15 0 2 capU),(zi 0),(zs 16 0 2 capU),(.bool true),(zi 34),(zs 17 0 2 capU),(zi 0),(zs 18 0 2 capU),(.slice none 0 0)]),(zi 0)]),[15,16,17,18,19,20,21,22,23,24,25,26,27,28,29,30,31,32,33,34],[.cells q66 [] 3 true,.cells [(zs 21 0 6 6),(zs 22 0 4 4)] [] 1 true,.cells q67 [] 3 true,.cells [(zs 25 0 6 6),(zs 26 0 4 4)] [] 1 true,.cells [(zs 27 0 16 16),(zs 28 0 10 10)] [] 1 true,.cells [(zs 29 0 16 16),(zs 30 0 10 10)] [] 1 true,.cells q61 [] 1 true,.cells q27 [] 1 true,.cells [(zs 31 0 16 16),(zs 32 0 10 10)] [] 1 true,.cells [(zs 33 0 16 16),(zs 34 0 10 10)] [] 1 true,.cells [(zi 0),(zi 0),(zi 34),(zi 34),(zi 64),(zi 84)] [] 1 true,.cells q27 [] 1 true,.cells q22 [] 1 true,.cells q20 [] 1 true,.cells q22 [] 1 true,.cells q20 [] 1 true,.cells q24 [] 1 true,.cells q20 [] 1 true,.cells q24 [] 1 true,.cells q20 [] 1 true]⟩
theorem std98:Md mem98:=sd stub6
end Go.Ab
