/- What is proved: runs of functions of this program on the abstract machine, over canonical arguments, by the kernel (printed by a program of this repository). No condition. -/
import Derived.Test.YtnifkpljhfpdlaaGreatDoorMem2c
set_option linter.unusedVariables false
set_option linter.unusedSimpArgs false
namespace Go.Ab
open Go.Proofs
def mem120:Memo:=⟨80,[q4,(zs 14 0 1 1),(.slice none 0 0),(zs 15 0 1 1)],8,[q2,q1,q6,q5,q12,q10,q25,⟨[(zi 2)],1⟩,⟨[(zi 2),(zi 1)],2⟩],q53,[],[]⟩
theorem std120:Md mem120:=sd stub2
def mem128:Memo:=⟨192,[q4,(zs 14 0 1 1)],8,[q2,q1,q6,q5,q13,q10,⟨[(zi 1)],1⟩],(.bool true),[],[]⟩
theorem std128:Md mem128:=sd stub2
def mem129:Memo:=⟨192,[q4,(zs 14 0 1 1)],8,[q2,q1,q6,q5,q13,q10,⟨[(zi 2)],1⟩],(.bool true),[],[]⟩
theorem std129:Md mem129:=sd stub2
def mem135:Memo:=⟨80,[q4,(zs 14 0 1 1),(.slice none 0 0),(zs 15 0 1 1)],8,[q2,q1,q6,q5,q13,q10,q25,⟨[(zi 1)],1⟩,⟨[(zi 2),(zi 1)],2⟩],q55,[],[]⟩
theorem std135:Md mem135:=sd stub2
def mem138:Memo:=⟨80,[q4,(zs 14 0 1 1),(.slice none 0 0),(zs 15 0 1 1)],8,[q2,q1,q6,q5,q13,q10,q25,⟨[(zi 2)],1⟩,⟨[(zi 2),(zi 1)],2⟩],q53,[],[]⟩
theorem std138:Md mem138:=sd stub2
def mem145:Memo:=⟨192,[q4,(zs 14 0 1 1)],8,[q2,q1,q6,q5,q8,q10,⟨[(zi 1)],1⟩],(.bool true),[],[]⟩
theorem std145:Md mem145:=sd stub2
def mem148:Memo:=⟨192,[q4,(zs 14 0 1 1)],8,[q2,q1,q6,q5,q8,q10,⟨[(zi 2)],1⟩],(.bool true),[],[]⟩
theorem std148:Md mem148:=sd stub2
def mem154:Memo:=⟨122,[q4,(zs 14 0 1 1),(.slice none 0 0),(zs 15 0 1 1)],8,[q2,q1,q6,q5,q8,q10,q25,⟨[(zi 1)],1⟩,⟨[(zi 2),(zi 1)],2⟩],q47,[],[]⟩
theorem std154:Md mem154:=sd stub2
end Go.Ab
