/- What is proved: runs of functions of this program on the abstract machine, over canonical arguments, by the kernel (printed by a program of this repository). No condition. -/
import Derived.Test.YtkemjdedikobfaaGreatDoorMem1
set_option linter.unusedVariables false
set_option linter.unusedSimpArgs false
namespace Go.Ab
open Go.Proofs
def tab2:List (Nat × List Memo):=[(32,[mem0]),(185,[mem1]),(90,[mem2,mem3]),(8,[mem7,mem8,mem9]),(102,[mem11,mem12,mem13,mem60,mem61]),(104,[mem14,mem62]),(146,[mem15,mem25,mem32,mem37,mem63,mem73,mem78,mem83]),(211,[mem16,mem26,mem33,mem38,mem64,mem74,mem79,mem84]),(143,[mem17,mem19,mem65,mem67]),(166,[mem22,mem30,mem42,mem70]),(148,[mem23,mem31,mem43,mem45,mem71,mem89]),(151,[mem46,mem49,mem52,mem90]),(149,[mem53,mem93]),(170,[mem92,mem94]),(174,[mem99])]
theorem tabOk2:StandsAll Tryz.prog (ctxOf Tryz.prog) tab2:=(sa1 (sl1 rfl std0 sl0) (sa1 (sl1 rfl std1 sl0) (sa1 (sl1 rfl std2 (sl1 rfl std3 sl0)) (sa1 (sl1 rfl std7 (sl1 rfl std8 (sl1 rfl std9 sl0))) (sa1 (sl1 rfl std11 (sl1 rfl std12 (sl1 rfl std13 (sl1 rfl std60 (sl1 rfl std61 sl0))))) (sa1 (sl1 rfl std14 (sl1 rfl std62 sl0)) (sa1 (sl1 rfl std15 (sl1 rfl std25 (sl1 rfl std32 (sl1 rfl std37 (sl1 rfl std63 (sl1 rfl std73 (sl1 rfl std78 (sl1 rfl std83 sl0)))))))) (sa1 (sl1 rfl std16 (sl1 rfl std26 (sl1 rfl std33 (sl1 rfl std38 (sl1 rfl std64 (sl1 rfl std74 (sl1 rfl std79 (sl1 rfl std84 sl0)))))))) (sa1 (sl1 rfl std17 (sl1 rfl std19 (sl1 rfl std65 (sl1 rfl std67 sl0)))) (sa1 (sl1 rfl std22 (sl1 rfl std30 (sl1 rfl std42 (sl1 rfl std70 sl0)))) (sa1 (sl1 rfl std23 (sl1 rfl std31 (sl1 rfl std43 (sl1 rfl std45 (sl1 rfl std71 (sl1 rfl std89 sl0)))))) (sa1 (sl1 rfl std46 (sl1 rfl std49 (sl1 rfl std52 (sl1 rfl std90 sl0)))) (sa1 (sl1 rfl std53 (sl1 rfl std93 sl0)) (sa1 (sl1 rfl std92 (sl1 rfl std94 sl0)) (sa1 (sl1 rfl std99 sl0) sa0)))))))))))))))
noncomputable def env2:Env:=⟨Tryz.prog,ctxOf Tryz.prog,memoStub (tabOf tab2) (stubOf ix)⟩
theorem stub2:StubOk env2:=stubOk_of (memoStub_ok (stub_says libFacts) (tabOf_ok tabOk2))
def mem4:Memo:=⟨33,[(zs 6 0 58 capU),(zi 127)],6,[⟨q6,4⟩],(zu [(zs 699 0 3 capU),(zi 0),(zi (-1))]),[699,137,301,373,685,123,296,678,293,493,664,287,603,658],[.cells [(zi 1),(zt [97]),(zi 0),(zs 137 0 1 1),(.slice none 0 0),(zi 2),(zt []),(zi 0),(zs 301 0 1 1),(.slice none 0 0),(zi 4),(zt [100]),(zi 0),(zs 373 0 2 2),(zs 685 0 1 capU)] [309,144] 5 true,.cells [(zi 3),(zi 0),(zt []),(.slice none 0 0),(zs 123 0 3 capU)] [] 5 true,.cells [(zi 7),(zi 0),(zt []),(.slice none 0 0),(zs 296 0 2 2)] [] 5 true,.cells q53 [] 5 true,.cells [(zi 3),(zt []),(zi 1),(zs 678 0 2 2),(.slice none 0 0)] [] 5 true,.cells q48 [96,69] 5 true,.cells [(zi 2),(zi 0),(zt [97]),(.slice none 0 0),(.slice none 0 0),(zi 8),(zi 0),(zt []),(.slice none 0 0),(zs 293 0 2 2)] [] 5 true,.cells [(zi 3),(zi 0),(zt []),(.slice none 0 0),(zs 493 0 3 capU),(zi 3),(zi 0),(zt []),(.slice none 0 0),(zs 664 0 3 capU)] [] 5 true,.cells [(zi 1),(zi 2),(zt []),(.slice none 0 0),(.slice none 0 0),(zi 3),(zi 0),(zt []),(.slice none 0 0),(zs 287 0 3 capU)] [] 5 true,.cells q46 [460,427] 5 true,.cells [(zi 1),(zi 1),(zt []),(.slice none 0 0),(.slice none 0 0),(zi 6),(zi 0),(zt []),(.slice none 0 0),(zs 603 0 2 2),(zi 6),(zi 0),(zt []),(.slice none 0 0),(zs 658 0 2 2)] [609,554] 5 true,.cells q50 [260,233] 5 true,.cells q29 [] 5 true,.cells q29 [] 5 true]⟩
theorem std4:Md mem4:=sd stub2
def mem5:Memo:=⟨34,[(zs 6 0 3 capU)],6,q8,(zi 0),[],[]⟩
theorem std5:Md mem5:=sd stub2
def mem18:Memo:=⟨212,[q10,(zs 12 0 1 1),q41,(zi 1)],6,[q3,q1,q7,q5,q0,⟨q9,2⟩,⟨[(zi 1)],1⟩],(zu [(zs 137 0 5 capU),(zi 0)]),[137],[.cells q39 [] 1 true]⟩
theorem std18:Md mem18:=sd stub2
def mem20:Memo:=⟨212,[q10,(zs 12 0 1 1),q44,(zi 1)],6,[q3,q1,q7,q5,q0,⟨q9,2⟩,⟨[(zi 1)],1⟩],(zu [(zs 29 0 5 5),(zi 0)]),[29],[.cells [(zi 0),(zi 0),(zi 0),(zi 0),(zi 0)] [] 1 true]⟩
theorem std20:Md mem20:=sd stub2
def mem24:Memo:=⟨106,[q40,(zs 7 0 5 5)],6,[⟨q2,3⟩,⟨q39,1⟩],(zi 0),[],[]⟩
theorem std24:Md mem24:=sd stub2
def mem27:Memo:=⟨212,[q10,(zs 12 0 1 1),q41,(zi 2)],6,[q3,q1,q7,q5,q0,⟨q9,2⟩,⟨[(zi 1)],1⟩],q54,[30],q32⟩
theorem std27:Md mem27:=sd stub2
def mem28:Memo:=⟨212,[q10,(zs 12 0 1 1),q44,(zi 2)],6,[q3,q1,q7,q5,q0,⟨q9,2⟩,⟨[(zi 1)],1⟩],(zu [(zs 131 0 4 capU),(zi 0)]),[131],[.cells [(zi 0),(zi (-1)),(zi 1),(zi 0)] [] 1 true]⟩
theorem std28:Md mem28:=sd stub2
def mem34:Memo:=⟨212,[q10,(zs 12 0 1 1),q41,(zi 1)],6,[q3,q1,q7,q5,q0,⟨q9,2⟩,⟨[(zi 2)],1⟩],(zu [(zs 137 0 5 capU),(zi 0)]),[137],[.cells q39 [] 1 true]⟩
theorem std34:Md mem34:=sd stub2
def mem35:Memo:=⟨212,[q10,(zs 12 0 1 1),q44,(zi 1)],6,[q3,q1,q7,q5,q0,⟨q9,2⟩,⟨[(zi 2)],1⟩],(zu [(zs 29 0 5 5),(zi 0)]),[29],[.cells [(zi 0),(zi 0),(zi 0),(zi 0),(zi 0)] [] 1 true]⟩
theorem std35:Md mem35:=sd stub2
def mem39:Memo:=⟨212,[q10,(zs 12 0 1 1),q41,(zi 2)],6,[q3,q1,q7,q5,q0,⟨q9,2⟩,⟨[(zi 2)],1⟩],q54,[30],q32⟩
theorem std39:Md mem39:=sd stub2
def mem40:Memo:=⟨212,[q10,(zs 12 0 1 1),q44,(zi 2)],6,[q3,q1,q7,q5,q0,⟨q9,2⟩,⟨[(zi 2)],1⟩],(zu [(zs 131 0 4 capU),(zi 0)]),[131],[.cells [(zi 0),(zi 0),(zi (-1)),(zi 1)] [] 1 true]⟩
theorem std40:Md mem40:=sd stub2
def mem47:Memo:=⟨149,[q40,(zs 7 0 5 5)],6,[⟨q2,3⟩,⟨q56,1⟩],(zu [(zs 11 0 14 14),(zi 0)]),[11],[.cells q16 [] 1 true]⟩
theorem std47:Md mem47:=sd stub2
def mem48:Memo:=⟨150,[q40,(zs 7 0 5 5),(zs 8 0 14 14)],6,[⟨q2,3⟩,⟨q56,1⟩,⟨q16,1⟩],(zu [(zi (-84)),(zi 0)]),[],[]⟩
theorem std48:Md mem48:=sd stub2
def mem55:Memo:=⟨149,[q40,(zs 7 0 5 5)],6,[⟨q2,3⟩,⟨q39,1⟩],(zu [(zs 11 0 14 14),(zi 0)]),[11],[.cells q17 [] 1 true]⟩
theorem std55:Md mem55:=sd stub2
def mem56:Memo:=⟨150,[q40,(zs 7 0 5 5),(zs 8 0 14 14)],6,[⟨q2,3⟩,⟨q39,1⟩,⟨q17,1⟩],(zu [(zi 84),(zi 0)]),[],[]⟩
theorem std56:Md mem56:=sd stub2
def mem66:Memo:=⟨212,[q11,(zs 12 0 1 1),q42,(zi 1)],6,[q3,q1,q7,q5,q0,⟨q13,2⟩,⟨[(zi 1)],1⟩],q64,[137],[.cells [(zi 0),(zi (-1)),(zi 1),(zi 0),(zi 0),(zi 0)] [] 1 true]⟩
theorem std66:Md mem66:=sd stub2
def mem68:Memo:=⟨212,[q11,(zs 12 0 1 1),q43,(zi 1)],6,[q3,q1,q7,q5,q0,⟨q13,2⟩,⟨[(zi 1)],1⟩],q64,[137],[.cells [(zi 0),(zi 0),(zi (-1)),(zi 1),(zi 0),(zi 0)] [] 1 true]⟩
theorem std68:Md mem68:=sd stub2
def mem72:Memo:=⟨106,q51,6,[⟨q4,3⟩,⟨q45,1⟩],(zi 0),[],[]⟩
theorem std72:Md mem72:=sd stub2
def mem75:Memo:=⟨212,[q11,(zs 12 0 1 1),q42,(zi 2)],6,[q3,q1,q7,q5,q0,⟨q13,2⟩,⟨[(zi 1)],1⟩],q54,[30],q32⟩
theorem std75:Md mem75:=sd stub2
def mem76:Memo:=⟨212,[q11,(zs 12 0 1 1),q43,(zi 2)],6,[q3,q1,q7,q5,q0,⟨q13,2⟩,⟨[(zi 1)],1⟩],q54,[30],q32⟩
theorem std76:Md mem76:=sd stub2
def mem80:Memo:=⟨212,[q11,(zs 12 0 1 1),q42,(zi 1)],6,[q3,q1,q7,q5,q0,⟨q13,2⟩,⟨[(zi 2)],1⟩],q64,[137],[.cells [(zi 0),(zi (-1)),(zi 1),(zi 0),(zi 0),(zi 0)] [] 1 true]⟩
theorem std80:Md mem80:=sd stub2
def mem81:Memo:=⟨212,[q11,(zs 12 0 1 1),q43,(zi 1)],6,[q3,q1,q7,q5,q0,⟨q13,2⟩,⟨[(zi 2)],1⟩],q64,[137],[.cells [(zi 0),(zi 0),(zi (-1)),(zi 1),(zi 0),(zi 0)] [] 1 true]⟩
theorem std81:Md mem81:=sd stub2
def mem85:Memo:=⟨212,[q11,(zs 12 0 1 1),q42,(zi 2)],6,[q3,q1,q7,q5,q0,⟨q13,2⟩,⟨[(zi 2)],1⟩],q54,[30],q32⟩
theorem std85:Md mem85:=sd stub2
def mem86:Memo:=⟨212,[q11,(zs 12 0 1 1),q43,(zi 2)],6,[q3,q1,q7,q5,q0,⟨q13,2⟩,⟨[(zi 2)],1⟩],q54,[30],q32⟩
theorem std86:Md mem86:=sd stub2
def mem91:Memo:=⟨149,q51,6,[⟨q4,3⟩,⟨[(zi 0),(zi 1),(zi (-2)),(zi 1),(zi 0),(zi 0)],1⟩],(zu [(zs 11 0 16 16),(zi 0)]),[11],[.cells q22 [] 1 true]⟩
theorem std91:Md mem91:=sd stub2
def mem96:Memo:=⟨149,q51,6,[⟨q4,3⟩,⟨q45,1⟩],(zu [(zs 11 0 16 16),(zi 0)]),[11],[.cells q24 [] 1 true]⟩
theorem std96:Md mem96:=sd stub2
end Go.Ab
