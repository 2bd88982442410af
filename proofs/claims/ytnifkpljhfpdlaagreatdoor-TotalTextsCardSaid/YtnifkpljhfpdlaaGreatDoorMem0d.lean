/- What is proved: runs of functions of this program on the abstract machine, over canonical arguments, by the kernel (printed by a program of this repository). No condition. -/
import Derived.Test.YtnifkpljhfpdlaaGreatDoorMem0c
set_option linter.unusedVariables false
set_option linter.unusedSimpArgs false
namespace Go.Ab
open Go.Proofs
def mem166:Memo:=⟨75,[q4],8,[q2,q1,q6,q5,q7,q10],(zi 0),[],[]⟩
theorem std166:Md mem166:=sd stub0
def mem168:Memo:=⟨197,[(za [(zi 4),(zs 8 0 8 capU)])],8,q41,(zi 0),[],[]⟩
theorem std168:Md mem168:=sd stub0
def mem169:Memo:=⟨199,[(zi 4),(zs 8 0 8 capU)],8,q41,q48,[9],q57⟩
theorem std169:Md mem169:=sd stub0
def mem171:Memo:=⟨197,[(za [(zi 3),(zs 8 0 6 capU)])],8,q51,(zi 0),[],[]⟩
theorem std171:Md mem171:=sd stub0
def mem172:Memo:=⟨199,[(zi 3),(zs 8 0 6 capU)],8,q51,(zu [(zs 9 0 3 3),(.bool true)]),[9],[.cells [(zi (-40)),(zi (-40)),(zi 0)] [] 1 true]⟩
theorem std172:Md mem172:=sd stub0
def mem192:Memo:=⟨200,[(zi 5),(zs 8 0 14 capU),(zi 2)],8,[⟨q3,3⟩],(zs 9 0 5 5),[9],[.cells [(zi (-34)),(zi (-34)),(zi 0),(zi 30),(zi 50)] [] 1 true]⟩
theorem std192:Md mem192:=sd stub0
def mem194:Memo:=⟨200,[(zi 5),(zs 8 0 14 capU),(zi 3)],8,[⟨q3,3⟩],(zs 9 0 5 5),[9],[.cells [(zi (-64)),(zi (-64)),(zi (-30)),(zi 0),(zi 20)] [] 1 true]⟩
theorem std194:Md mem194:=sd stub0
end Go.Ab
