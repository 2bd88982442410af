/- What is proved: runs of functions of this program on the abstract machine, over canonical arguments, by the kernel (printed by a program of this repository). No condition. -/
import Derived.Test.YtkemjdedikobfaaGreatDoorMem3d
set_option linter.unusedVariables false
set_option linter.unusedSimpArgs false
namespace Go.Ab
open Go.Proofs
def mem82:Memo:=⟨147,[q23,(zs 14 0 1 1),(zi 1),(zi 1)],6,q59,(zs 18 0 6 6),[18],[.cells q45 [] 1 true]⟩
theorem std82:Md mem82:=sd stub3
def mem87:Memo:=⟨147,[q23,(zs 14 0 1 1),(zi 2),(zi 1)],6,q59,(zs 18 0 4 4),[18],q32⟩
theorem std87:Md mem87:=sd stub3
end Go.Ab
