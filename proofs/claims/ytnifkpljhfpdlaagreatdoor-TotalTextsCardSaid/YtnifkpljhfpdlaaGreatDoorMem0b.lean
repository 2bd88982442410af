/- What is proved: runs of functions of this program on the abstract machine, over canonical arguments, by the kernel (printed by a program of this repository). No condition. -/
import Derived.Test.YtnifkpljhfpdlaaGreatDoorMem0a
set_option linter.unusedVariables false
set_option linter.unusedSimpArgs false
namespace Go.Ab
open Go.Proofs
def mem67:Memo:=⟨75,[q15],8,[q2,q1,q6,q5,q0,q20],(zi 0),[],[]⟩
theorem std67:Md mem67:=sd stub0
def mem87:Memo:=⟨75,q34,8,[q2,q1,q6,q5,q11],(zi 0),[],[]⟩
theorem std87:Md mem87:=sd stub0
def mem88:Memo:=⟨75,[q4],8,[q2,q1,q6,q5,q11,q10],(zi 0),[],[]⟩
theorem std88:Md mem88:=sd stub0
def mem90:Memo:=⟨197,[(za q31)],8,[q28],(zi 0),[],[]⟩
theorem std90:Md mem90:=sd stub0
def mem91:Memo:=⟨199,q31,8,[q28],q48,[9],[.cells [(zi (-50)),(zi (-50)),(zi (-20)),(zi 0)] [] 1 true]⟩
theorem std91:Md mem91:=sd stub0
def mem105:Memo:=⟨75,q34,8,[q2,q1,q6,q5,q12],(zi 0),[],[]⟩
theorem std105:Md mem105:=sd stub0
def mem106:Memo:=⟨75,[q4],8,[q2,q1,q6,q5,q12,q10],(zi 0),[],[]⟩
theorem std106:Md mem106:=sd stub0
def mem108:Memo:=⟨197,[(za q31)],8,[q29],(zi 0),[],[]⟩
theorem std108:Md mem108:=sd stub0
def mem109:Memo:=⟨199,q31,8,[q29],q48,[9],[.cells [(zi (-64)),(zi (-64)),(zi (-30)),(zi 0)] [] 1 true]⟩
theorem std109:Md mem109:=sd stub0
end Go.Ab
