/- What is proved: runs of functions of this program on the abstract machine, over canonical arguments, by the kernel (printed by a program of this repository). No condition. -/
import Derived.Test.YtnifkpljhfpdlaaGreatDoorMem0b
set_option linter.unusedVariables false
set_option linter.unusedSimpArgs false
namespace Go.Ab
open Go.Proofs
def mem123:Memo:=⟨75,q34,8,[q2,q1,q6,q5,q13],(zi 0),[],[]⟩
theorem std123:Md mem123:=sd stub0
def mem124:Memo:=⟨75,[q4],8,[q2,q1,q6,q5,q13,q10],(zi 0),[],[]⟩
theorem std124:Md mem124:=sd stub0
def mem126:Memo:=⟨197,[(za q31)],8,[q30],(zi 0),[],[]⟩
theorem std126:Md mem126:=sd stub0
def mem127:Memo:=⟨199,q31,8,[q30],q48,[9],[.cells [(zi (-84)),(zi (-84)),(zi (-50)),(zi 0)] [] 1 true]⟩
theorem std127:Md mem127:=sd stub0
def mem141:Memo:=⟨75,q34,8,[q2,q1,q6,q5,q8],(zi 0),[],[]⟩
theorem std141:Md mem141:=sd stub0
def mem142:Memo:=⟨75,[q4],8,[q2,q1,q6,q5,q8,q10],(zi 0),[],[]⟩
theorem std142:Md mem142:=sd stub0
def mem144:Memo:=⟨197,[(za [(zi 3),(zs 8 0 6 capU)])],8,[⟨[(zi 0),(zi 1),(zi 12000),(zi 1),(zi 0),(zi 0),(zi 1),(zi 2),(zi 3000),(zi 2),(zi 1),(zi 0),(zi 1),(zi 2),(zi 0),(zi 2),(zi 1),(zi 0)],3⟩],(zi 0),[],[]⟩
theorem std144:Md mem144:=sd stub0
def mem146:Memo:=⟨197,[(za [(zi 4),(zs 8 0 8 capU)])],8,q45,(zi 0),[],[]⟩
theorem std146:Md mem146:=sd stub0
def mem147:Memo:=⟨199,[(zi 4),(zs 8 0 8 capU)],8,q45,q48,[9],[.cells q54 [] 1 true]⟩
theorem std147:Md mem147:=sd stub0
def mem165:Memo:=⟨75,q34,8,[q2,q1,q6,q5,q7],(zi 0),[],[]⟩
theorem std165:Md mem165:=sd stub0
end Go.Ab
