/- What is proved: runs of functions of this program on the abstract machine, over canonical arguments, by the kernel (printed by a program of this repository). No condition. -/
import Derived.Test.YtkemjdedikobfaaGreatDoorMem6b
set_option linter.unusedVariables false
set_option linter.unusedSimpArgs false
namespace Go.Ab
open Go.Proofs
def mem101:Memo:=⟨22,[q21,q57,q49],6,[q3,q1,q7,q5,q0,⟨q12,6⟩,q62,⟨[(zs 18 0 5 5),(zs 19 0 4 4)],1⟩,q63,⟨[(zs 22 0 5 5),(zs 23 0 4 4)],1⟩,⟨[(zs 24 0 14 14),(zs 25 0 10 10)],1⟩,⟨[(zs 26 0 14 14),(zs 27 0 10 10)],1⟩,⟨q28,1⟩,⟨q27,1⟩,⟨[(zs 28 0 14 14),(zs 29 0 10 10)],1⟩,⟨[(zs 30 0 14 14),(zs 31 0 10 10)],1⟩,⟨q28,1⟩,⟨q27,1⟩,⟨q16,1⟩,⟨q34,1⟩,⟨q16,1⟩,⟨q30,1⟩,⟨q17,1⟩,⟨q35,1⟩,⟨q17,1⟩,⟨q36,1⟩],(zi 0),[],[]⟩
theorem std101:Md mem101:=sd stub6
end Go.Ab
