/- What is proved: runs of functions of this program on the abstract machine, over canonical arguments, by the kernel (printed by a program of this repository). No condition. -/
import Derived.Test.YtnifkpljhfpdlaaGreatDoorMem2d
set_option linter.unusedVariables false
set_option linter.unusedSimpArgs false
namespace Go.Ab
open Go.Proofs
def mem155:Memo:=⟨122,[q4,(.slice none 0 0),(zs 14 0 1 1),(zs 15 0 1 1)],8,[q2,q1,q6,q5,q8,q10,q25,⟨[(zi 1)],1⟩,⟨[(zi 2),(zi 1)],2⟩],q47,[],[]⟩
theorem std155:Md mem155:=sd stub2
def mem160:Memo:=⟨122,[q4,(zs 14 0 1 1),(.slice none 0 0),(zs 15 0 1 1)],8,[q2,q1,q6,q5,q8,q10,q25,⟨[(zi 2)],1⟩,⟨[(zi 2),(zi 1)],2⟩],(zu [(zi 3000),(zi 0)]),[],[]⟩
theorem std160:Md mem160:=sd stub2
def mem161:Memo:=⟨122,[q4,(.slice none 0 0),(zs 14 0 1 1),(zs 15 0 1 1)],8,[q2,q1,q6,q5,q8,q10,q25,⟨[(zi 2)],1⟩,⟨[(zi 2),(zi 1)],2⟩],q47,[],[]⟩
theorem std161:Md mem161:=sd stub2
def mem170:Memo:=⟨192,[q4,(zs 14 0 1 1)],8,[q2,q1,q6,q5,q7,q10,⟨[(zi 1)],1⟩],(.bool true),[],[]⟩
theorem std170:Md mem170:=sd stub2
def mem173:Memo:=⟨192,[q4,(zs 14 0 1 1)],8,[q2,q1,q6,q5,q7,q10,⟨[(zi 2)],1⟩],(.bool true),[],[]⟩
theorem std173:Md mem173:=sd stub2
def mem179:Memo:=⟨122,[q4,(zs 14 0 1 1),(.slice none 0 0),(zs 15 0 1 1)],8,[q2,q1,q6,q5,q7,q10,q25,⟨[(zi 1)],1⟩,⟨[(zi 2),(zi 1)],2⟩],(zu [(zi 3000),(zi 0)]),[],[]⟩
theorem std179:Md mem179:=sd stub2
def mem180:Memo:=⟨122,[q4,(.slice none 0 0),(zs 14 0 1 1),(zs 15 0 1 1)],8,[q2,q1,q6,q5,q7,q10,q25,⟨[(zi 1)],1⟩,⟨[(zi 2),(zi 1)],2⟩],q47,[],[]⟩
theorem std180:Md mem180:=sd stub2
def mem185:Memo:=⟨122,[q4,(zs 14 0 1 1),(.slice none 0 0),(zs 15 0 1 1)],8,[q2,q1,q6,q5,q7,q10,q25,⟨[(zi 2)],1⟩,⟨[(zi 2),(zi 1)],2⟩],(zu [(zi 40),(zi 0)]),[],[]⟩
theorem std185:Md mem185:=sd stub2
def mem186:Memo:=⟨122,[q4,(.slice none 0 0),(zs 14 0 1 1),(zs 15 0 1 1)],8,[q2,q1,q6,q5,q7,q10,q25,⟨[(zi 2)],1⟩,⟨[(zi 2),(zi 1)],2⟩],(zu [(zi (-40)),(zi 0)]),[],[]⟩
theorem std186:Md mem186:=sd stub2
end Go.Ab
