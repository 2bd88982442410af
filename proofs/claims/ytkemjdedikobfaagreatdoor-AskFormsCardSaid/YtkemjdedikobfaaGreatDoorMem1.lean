/- What is proved: runs of functions of this program on the abstract machine, over canonical arguments, by the kernel (printed by a program of this repository). No condition. -/
import Derived.Test.YtkemjdedikobfaaGreatDoorMem0
set_option linter.unusedVariables false
set_option linter.unusedSimpArgs false
namespace Go.Ab
open Go.Proofs
def tab1:List (Nat × List Memo):=[(32,[mem0]),(185,[mem1]),(8,[mem7,mem8,mem9]),(102,[mem11,mem12,mem13,mem60,mem61]),(166,[mem22,mem30,mem42,mem70]),(151,[mem46,mem49,mem52,mem90]),(170,[mem92,mem94]),(174,[mem99])]
theorem tabOk1:StandsAll Tryz.prog (ctxOf Tryz.prog) tab1:=(sa1 (sl1 rfl std0 sl0) (sa1 (sl1 rfl std1 sl0) (sa1 (sl1 rfl std7 (sl1 rfl std8 (sl1 rfl std9 sl0))) (sa1 (sl1 rfl std11 (sl1 rfl std12 (sl1 rfl std13 (sl1 rfl std60 (sl1 rfl std61 sl0))))) (sa1 (sl1 rfl std22 (sl1 rfl std30 (sl1 rfl std42 (sl1 rfl std70 sl0)))) (sa1 (sl1 rfl std46 (sl1 rfl std49 (sl1 rfl std52 (sl1 rfl std90 sl0)))) (sa1 (sl1 rfl std92 (sl1 rfl std94 sl0)) (sa1 (sl1 rfl std99 sl0) sa0))))))))
noncomputable def env1:Env:=⟨Tryz.prog,ctxOf Tryz.prog,memoStub (tabOf tab1) (stubOf ix)⟩
theorem stub1:StubOk env1:=stubOk_of (memoStub_ok (stub_says libFacts) (tabOf_ok tabOk1))
def mem2:Memo:=⟨90,[(zt [97])],6,[],(.bool true),[],[]⟩
theorem std2:Md mem2:=sd stub1
def mem3:Memo:=⟨90,[(zt [100])],6,[],(.bool true),[],[]⟩
theorem std3:Md mem3:=sd stub1
def mem14:Memo:=⟨104,[q10],6,[q3,q1,q7,q5,q0,⟨q9,2⟩],(zu [(zs 36 0 2 capU),(zi 0)]),[36,26,34],q58⟩
theorem std14:Md mem14:=sd stub1
def mem15:Memo:=⟨146,[q10,(zs 12 0 1 1),(zi 1)],6,[q3,q1,q7,q5,q0,⟨q9,2⟩,⟨[(zi 1)],1⟩],(zu [(za [(zi 5),(zs 188 0 14 capU)]),(zs 190 0 14 capU),(zi 0)]),[188,190],q33⟩
theorem std15:Md mem15:=sd stub1
def mem16:Memo:=⟨211,[q10,(zs 12 0 1 1),(zi 1)],6,[q3,q1,q7,q5,q0,⟨q9,2⟩,⟨[(zi 1)],1⟩],(zu [(zs 107 0 5 capU),(zi 0)]),[107],[.cells [(zi 0),(zi 10),(zi 11),(zi 13),(zi 14)] [] 1 true]⟩
theorem std16:Md mem16:=sd stub1
def mem17:Memo:=⟨143,[q10,q41],6,[q3,q1,q7,q5,q0,⟨q9,2⟩],(zu [(za [(zs 24 0 1 1),(zs 6 0 2 2),(zs 7 0 3 3),(zs 8 0 1 1),(zs 9 0 1 1),(zs 10 0 5 5),(zs 29 0 4 capU)]),(zi 0)]),[24,29,23],[.cells [(zi 10),(zi 13),(zs 23 0 1 1)] [] 3 true,.cells q9 [] 2 true,.cells [(zi 1),(zi 1)] [] 2 true]⟩
theorem std17:Md mem17:=sd stub1
def mem19:Memo:=⟨143,[q10,q44],6,[q3,q1,q7,q5,q0,⟨q9,2⟩],(zu [(za [(zs 25 0 1 1),(zs 6 0 2 2),(zs 7 0 3 3),(zs 8 0 1 1),(zs 9 0 1 1),(zs 10 0 5 5),(zs 30 0 4 capU)]),(zi 0)]),[25,30,24],[.cells [(zi 4),(zi 4),(zs 24 0 1 1)] [] 3 true,.cells q9 [] 2 true,.cells [(zi 2),(zi 1)] [] 2 true]⟩
theorem std19:Md mem19:=sd stub1
def mem23:Memo:=⟨148,[q40,(zs 7 0 5 5)],6,[⟨q2,3⟩,⟨q39,1⟩],(zi 0),[],[]⟩
theorem std23:Md mem23:=sd stub1
def mem25:Memo:=⟨146,[q10,(zs 12 0 1 1),(zi 2)],6,[q3,q1,q7,q5,q0,⟨q9,2⟩,⟨[(zi 1)],1⟩],(zu [(za [(zi 4),(zs 158 0 10 capU)]),(zs 160 0 10 capU),(zi 0)]),[158,160],[.cells q14 [140,120,115,110] 3 true,.cells q26 [142,122,117,112] 2 true]⟩
theorem std25:Md mem25:=sd stub1
def mem26:Memo:=⟨211,[q10,(zs 12 0 1 1),(zi 2)],6,[q3,q1,q7,q5,q0,⟨q9,2⟩,⟨[(zi 1)],1⟩],(zu [(zs 100 0 4 capU),(zi 0)]),[100],[.cells [(zi 0),(zi 4),(zi 5),(zi 6)] [] 1 true]⟩
theorem std26:Md mem26:=sd stub1
def mem31:Memo:=⟨148,[(za q52),(zs 7 0 4 4)],6,[⟨q14,3⟩,⟨[(zi 0),(zi 2),(zi (-2)),(zi 0)],1⟩],(zi 0),[],[]⟩
theorem std31:Md mem31:=sd stub1
def mem32:Memo:=⟨146,[q10,(zs 12 0 1 1),(zi 1)],6,[q3,q1,q7,q5,q0,⟨q9,2⟩,⟨[(zi 2)],1⟩],(zu [(za [(zi 5),(zs 188 0 14 capU)]),(zs 190 0 14 capU),(zi 0)]),[188,190],q33⟩
theorem std32:Md mem32:=sd stub1
def mem33:Memo:=⟨211,[q10,(zs 12 0 1 1),(zi 1)],6,[q3,q1,q7,q5,q0,⟨q9,2⟩,⟨[(zi 2)],1⟩],(zu [(zs 107 0 5 capU),(zi 0)]),[107],[.cells [(zi 0),(zi 10),(zi 11),(zi 13),(zi 14)] [] 1 true]⟩
theorem std33:Md mem33:=sd stub1
def mem37:Memo:=⟨146,[q10,(zs 12 0 1 1),(zi 2)],6,[q3,q1,q7,q5,q0,⟨q9,2⟩,⟨[(zi 2)],1⟩],(zu [(za [(zi 4),(zs 158 0 10 capU)]),(zs 160 0 10 capU),(zi 0)]),[158,160],[.cells q15 [140,120,115,110] 3 true,.cells q26 [142,122,117,112] 2 true]⟩
theorem std37:Md mem37:=sd stub1
def mem38:Memo:=⟨211,[q10,(zs 12 0 1 1),(zi 2)],6,[q3,q1,q7,q5,q0,⟨q9,2⟩,⟨[(zi 2)],1⟩],(zu [(zs 100 0 4 capU),(zi 0)]),[100],[.cells [(zi 0),(zi 3),(zi 4),(zi 5)] [] 1 true]⟩
theorem std38:Md mem38:=sd stub1
def mem43:Memo:=⟨148,[(za q52),(zs 7 0 4 4)],6,[⟨q15,3⟩,⟨[(zi 0),(zi 0),(zi 2),(zi (-2))],1⟩],(zi 0),[],[]⟩
theorem std43:Md mem43:=sd stub1
def mem45:Memo:=⟨148,[q40,(zs 7 0 5 5)],6,[⟨q2,3⟩,⟨q56,1⟩],(zi 0),[],[]⟩
theorem std45:Md mem45:=sd stub1
def mem53:Memo:=⟨149,[(za q52),(zs 7 0 4 4)],6,[⟨q15,3⟩,⟨[(zi 0),(zi 0),(zi (-2)),(zi 2)],1⟩],(zu [(zs 13 0 10 10),(zi 0)]),[13],[.cells q30 [] 1 true]⟩
theorem std53:Md mem53:=sd stub1
def mem62:Memo:=⟨104,[q11],6,[q3,q1,q7,q5,q0,⟨q13,2⟩],(zu [(zs 36 0 2 capU),(zi 0)]),[36,26,34],q58⟩
theorem std62:Md mem62:=sd stub1
def mem63:Memo:=⟨146,[q11,(zs 12 0 1 1),(zi 1)],6,[q3,q1,q7,q5,q0,⟨q13,2⟩,⟨[(zi 1)],1⟩],(zu [(za [(zi 6),(zs 193 0 16 capU)]),(zs 195 0 16 capU),(zi 0)]),[193,195],q31⟩
theorem std63:Md mem63:=sd stub1
def mem64:Memo:=⟨211,[q11,(zs 12 0 1 1),(zi 1)],6,[q3,q1,q7,q5,q0,⟨q13,2⟩,⟨[(zi 1)],1⟩],(zu [(zs 107 0 6 capU),(zi 0)]),[107],[.cells [(zi 0),(zi 10),(zi 11),(zi 12),(zi 13),(zi 14)] [] 1 true]⟩
theorem std64:Md mem64:=sd stub1
def mem65:Memo:=⟨143,[q11,q42],6,[q3,q1,q7,q5,q0,⟨q13,2⟩],q55,[24,29,23],[.cells [(zi 10),(zi 10),(zs 23 0 1 1)] [] 3 true,.cells q13 [] 2 true,.cells [(zi 1),(zi 1)] [] 2 true]⟩
theorem std65:Md mem65:=sd stub1
def mem67:Memo:=⟨143,[q11,q43],6,[q3,q1,q7,q5,q0,⟨q13,2⟩],q55,[24,29,23],[.cells [(zi 11),(zi 11),(zs 23 0 1 1)] [] 3 true,.cells q13 [] 2 true,.cells [(zi 1),(zi 1)] [] 2 true]⟩
theorem std67:Md mem67:=sd stub1
def mem71:Memo:=⟨148,q51,6,[⟨q4,3⟩,⟨q45,1⟩],(zi 0),[],[]⟩
theorem std71:Md mem71:=sd stub1
def mem73:Memo:=⟨146,[q11,(zs 12 0 1 1),(zi 2)],6,[q3,q1,q7,q5,q0,⟨q13,2⟩,⟨[(zi 1)],1⟩],(zu [(za [(zi 4),(zs 155 0 10 capU)]),(zs 157 0 10 capU),(zi 0)]),[155,157],[.cells q14 [137,117,112,107] 3 true,.cells q26 [139,119,114,109] 2 true]⟩
theorem std73:Md mem73:=sd stub1
def mem74:Memo:=⟨211,[q11,(zs 12 0 1 1),(zi 2)],6,[q3,q1,q7,q5,q0,⟨q13,2⟩,⟨[(zi 1)],1⟩],(zu [(zs 97 0 4 capU),(zi 0)]),[97],[.cells [(zi 0),(zi 4),(zi 5),(zi 6)] [] 1 true]⟩
theorem std74:Md mem74:=sd stub1
def mem78:Memo:=⟨146,[q11,(zs 12 0 1 1),(zi 1)],6,[q3,q1,q7,q5,q0,⟨q13,2⟩,⟨[(zi 2)],1⟩],(zu [(za [(zi 6),(zs 193 0 16 capU)]),(zs 195 0 16 capU),(zi 0)]),[193,195],q31⟩
theorem std78:Md mem78:=sd stub1
def mem79:Memo:=⟨211,[q11,(zs 12 0 1 1),(zi 1)],6,[q3,q1,q7,q5,q0,⟨q13,2⟩,⟨[(zi 2)],1⟩],(zu [(zs 107 0 6 capU),(zi 0)]),[107],[.cells [(zi 0),(zi 10),(zi 11),(zi 12),(zi 13),(zi 14)] [] 1 true]⟩
theorem std79:Md mem79:=sd stub1
def mem83:Memo:=⟨146,[q11,(zs 12 0 1 1),(zi 2)],6,[q3,q1,q7,q5,q0,⟨q13,2⟩,⟨[(zi 2)],1⟩],(zu [(za [(zi 4),(zs 155 0 10 capU)]),(zs 157 0 10 capU),(zi 0)]),[155,157],[.cells q15 [137,117,112,107] 3 true,.cells q26 [139,119,114,109] 2 true]⟩
theorem std83:Md mem83:=sd stub1
def mem84:Memo:=⟨211,[q11,(zs 12 0 1 1),(zi 2)],6,[q3,q1,q7,q5,q0,⟨q13,2⟩,⟨[(zi 2)],1⟩],(zu [(zs 97 0 4 capU),(zi 0)]),[97],[.cells [(zi 0),(zi 3),(zi 4),(zi 5)] [] 1 true]⟩
theorem std84:Md mem84:=sd stub1
def mem89:Memo:=⟨148,q51,6,[⟨q4,3⟩,⟨[(zi 0),(zi 1),(zi (-2)),(zi 1),(zi 0),(zi 0)],1⟩],(zi 0),[],[]⟩
theorem std89:Md mem89:=sd stub1
def mem93:Memo:=⟨149,[(za q52),(zs 7 0 4 4)],6,[⟨q14,3⟩,⟨[(zi 0),(zi 0),(zi 0),(zi 0)],1⟩],(zu [(zs 13 0 10 10),(zi 0)]),[13],[.cells q20 [] 1 true]⟩
theorem std93:Md mem93:=sd stub1
end Go.Ab
