/- What is proved: runs of functions of this program on the abstract machine, over canonical arguments, by the kernel (printed by a program of this repository). No condition. -/
import Derived.Test.YtkemjdedikobfaaGreatDoorMem3b
set_option linter.unusedVariables false
set_option linter.unusedSimpArgs false
namespace Go.Ab
open Go.Proofs
def mem21:Memo:=⟨147,[q18,(zs 14 0 1 1),(zi 1),(zi 1)],6,q37,(zs 18 0 5 5),[18],[.cells q39 [] 1 true]⟩
theorem std21:Md mem21:=sd stub3
def mem29:Memo:=⟨147,[q18,(zs 14 0 1 1),(zi 2),(zi 1)],6,q37,(zs 18 0 4 4),[18],[.cells [(zi 0),(zi 2),(zi (-2)),(zi 0)] [] 1 true]⟩
theorem std29:Md mem29:=sd stub3
def mem36:Memo:=⟨147,[q18,(zs 14 0 1 1),(zi 1),(zi 1)],6,q38,(zs 18 0 5 5),[18],[.cells q39 [] 1 true]⟩
theorem std36:Md mem36:=sd stub3
end Go.Ab
