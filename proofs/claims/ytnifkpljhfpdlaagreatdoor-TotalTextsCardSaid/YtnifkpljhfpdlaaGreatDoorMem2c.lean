/- What is proved: runs of functions of this program on the abstract machine, over canonical arguments, by the kernel (printed by a program of this repository). No condition. -/
import Derived.Test.YtnifkpljhfpdlaaGreatDoorMem2b
set_option linter.unusedVariables false
set_option linter.unusedSimpArgs false
namespace Go.Ab
open Go.Proofs
def mem92:Memo:=⟨192,[q4,(zs 14 0 1 1)],8,[q2,q1,q6,q5,q11,q10,⟨[(zi 1)],1⟩],(.bool true),[],[]⟩
theorem std92:Md mem92:=sd stub2
def mem93:Memo:=⟨192,[q4,(zs 14 0 1 1)],8,[q2,q1,q6,q5,q11,q10,⟨[(zi 2)],1⟩],(.bool true),[],[]⟩
theorem std93:Md mem93:=sd stub2
def mem99:Memo:=⟨80,[q4,(zs 14 0 1 1),(.slice none 0 0),(zs 15 0 1 1)],8,[q2,q1,q6,q5,q11,q10,q25,⟨[(zi 1)],1⟩,⟨[(zi 2),(zi 1)],2⟩],q55,[],[]⟩
theorem std99:Md mem99:=sd stub2
def mem102:Memo:=⟨80,[q4,(zs 14 0 1 1),(.slice none 0 0),(zs 15 0 1 1)],8,[q2,q1,q6,q5,q11,q10,q25,⟨[(zi 2)],1⟩,⟨[(zi 2),(zi 1)],2⟩],q53,[],[]⟩
theorem std102:Md mem102:=sd stub2
def mem110:Memo:=⟨192,[q4,(zs 14 0 1 1)],8,[q2,q1,q6,q5,q12,q10,⟨[(zi 1)],1⟩],(.bool true),[],[]⟩
theorem std110:Md mem110:=sd stub2
def mem111:Memo:=⟨192,[q4,(zs 14 0 1 1)],8,[q2,q1,q6,q5,q12,q10,⟨[(zi 2)],1⟩],(.bool true),[],[]⟩
theorem std111:Md mem111:=sd stub2
def mem117:Memo:=⟨80,[q4,(zs 14 0 1 1),(.slice none 0 0),(zs 15 0 1 1)],8,[q2,q1,q6,q5,q12,q10,q25,⟨[(zi 1)],1⟩,⟨[(zi 2),(zi 1)],2⟩],q55,[],[]⟩
theorem std117:Md mem117:=sd stub2
end Go.Ab
