/- What is proved: runs of functions of this program on the abstract machine, over canonical arguments, by the kernel (printed by a program of this repository). No condition. -/
import Derived.Test.YtnifkpljhfpdlaaGreatDoorMem2a
set_option linter.unusedVariables false
set_option linter.unusedSimpArgs false
namespace Go.Ab
open Go.Proofs
def mem42:Memo:=⟨80,[q9,(zs 14 0 1 1),(.slice none 0 0),(zs 15 0 1 1)],8,[q2,q1,q6,q5,q0,q33,⟨[(zi 11),(zi 11),(zs 16 0 1 1)],3⟩,⟨[(zi 2)],1⟩,⟨[(zi 1),(zi 1)],2⟩],q59,[],[]⟩
theorem std42:Md mem42:=sd stub2
def mem47:Memo:=⟨192,[q9,(zs 14 0 1 1)],8,[q2,q1,q6,q5,q0,q10,⟨[(zi 1)],1⟩],(.bool true),[],[]⟩
theorem std47:Md mem47:=sd stub2
def mem48:Memo:=⟨192,[q9,(zs 14 0 1 1)],8,[q2,q1,q6,q5,q0,q10,⟨[(zi 2)],1⟩],(.bool true),[],[]⟩
theorem std48:Md mem48:=sd stub2
def mem58:Memo:=⟨80,[q9,(zs 14 0 1 1),(.slice none 0 0),(zs 15 0 1 1)],8,[q2,q1,q6,q5,q0,q10,q25,⟨[(zi 1)],1⟩,⟨[(zi 2),(zi 1)],2⟩],q55,[],[]⟩
theorem std58:Md mem58:=sd stub2
def mem65:Memo:=⟨80,[q9,(zs 14 0 1 1),(.slice none 0 0),(zs 15 0 1 1)],8,[q2,q1,q6,q5,q0,q10,q25,⟨[(zi 2)],1⟩,⟨[(zi 2),(zi 1)],2⟩],q53,[],[]⟩
theorem std65:Md mem65:=sd stub2
def mem68:Memo:=⟨192,[q15,(zs 14 0 1 1)],8,[q2,q1,q6,q5,q0,q20,⟨[(zi 1)],1⟩],(.bool true),[],[]⟩
theorem std68:Md mem68:=sd stub2
def mem69:Memo:=⟨192,[q15,(zs 14 0 1 1)],8,[q2,q1,q6,q5,q0,q20,⟨[(zi 2)],1⟩],(.bool true),[],[]⟩
theorem std69:Md mem69:=sd stub2
def mem76:Memo:=⟨122,[q15,(zs 14 0 1 1),(zs 15 0 1 1),(zs 16 0 1 1)],8,[q2,q1,q6,q5,q0,q20,q60,q62,⟨[(zi 1)],1⟩,⟨[(zi 1),(zi 1)],2⟩,⟨[(zi 2),(zi 1)],2⟩],(zu [(zi 84),(zi 0)]),[],[]⟩
theorem std76:Md mem76:=sd stub2
def mem77:Memo:=⟨122,[q15,(zs 14 0 1 1),(zs 15 0 1 1),(zs 16 0 1 1)],8,[q2,q1,q6,q5,q0,q20,⟨[(zi 4),(zi 4),(zs 17 0 1 1)],3⟩,⟨[(zi 10),(zi 13),(zs 18 0 1 1)],3⟩,⟨[(zi 1)],1⟩,⟨[(zi 2),(zi 1)],2⟩,⟨[(zi 1),(zi 1)],2⟩],(zu [(zi (-84)),(zi 0)]),[],[]⟩
theorem std77:Md mem77:=sd stub2
def mem83:Memo:=⟨122,[q15,(zs 14 0 1 1),(zs 15 0 1 1),(zs 16 0 1 1)],8,[q2,q1,q6,q5,q0,q20,q60,q62,⟨[(zi 2)],1⟩,⟨[(zi 1),(zi 1)],2⟩,⟨[(zi 2),(zi 1)],2⟩],(zu [(zi 44),(zi 0)]),[],[]⟩
theorem std83:Md mem83:=sd stub2
def mem84:Memo:=⟨122,[q15,(zs 14 0 1 1),(zs 15 0 1 1),(zs 16 0 1 1)],8,[q2,q1,q6,q5,q0,q20,⟨[(zi 4),(zi 4),(zs 17 0 1 1)],3⟩,⟨[(zi 10),(zi 13),(zs 18 0 1 1)],3⟩,⟨[(zi 2)],1⟩,⟨[(zi 2),(zi 1)],2⟩,⟨[(zi 1),(zi 1)],2⟩],(zu [(zi (-44)),(zi 0)]),[],[]⟩
theorem std84:Md mem84:=sd stub2
end Go.Ab
