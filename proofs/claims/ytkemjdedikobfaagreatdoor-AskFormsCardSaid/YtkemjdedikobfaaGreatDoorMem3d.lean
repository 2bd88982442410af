/- What is proved: runs of functions of this program on the abstract machine, over canonical arguments, by the kernel (printed by a program of this repository). No condition. -/
import Derived.Test.YtkemjdedikobfaaGreatDoorMem3c
set_option linter.unusedVariables false
set_option linter.unusedSimpArgs false
namespace Go.Ab
open Go.Proofs
def mem41:Memo:=⟨147,[q18,(zs 14 0 1 1),(zi 2),(zi 1)],6,q38,(zs 18 0 4 4),[18],[.cells [(zi 0),(zi 0),(zi 2),(zi (-2))] [] 1 true]⟩
theorem std41:Md mem41:=sd stub3
def mem50:Memo:=⟨147,[q18,(zs 14 0 1 1),(zi 1),(zi (-1))],6,q38,(zs 18 0 5 5),[18],[.cells q56 [] 1 true]⟩
theorem std50:Md mem50:=sd stub3
def mem51:Memo:=⟨147,[q18,(zs 14 0 1 1),(zi 2),(zi (-1))],6,q38,(zs 18 0 4 4),[18],[.cells [(zi 0),(zi 0),(zi (-2)),(zi 2)] [] 1 true]⟩
theorem std51:Md mem51:=sd stub3
def mem69:Memo:=⟨147,[q23,(zs 14 0 1 1),(zi 1),(zi 1)],6,q47,(zs 18 0 6 6),[18],[.cells q45 [] 1 true]⟩
theorem std69:Md mem69:=sd stub3
def mem77:Memo:=⟨147,[q23,(zs 14 0 1 1),(zi 2),(zi 1)],6,q47,(zs 18 0 4 4),[18],q32⟩
theorem std77:Md mem77:=sd stub3
end Go.Ab
