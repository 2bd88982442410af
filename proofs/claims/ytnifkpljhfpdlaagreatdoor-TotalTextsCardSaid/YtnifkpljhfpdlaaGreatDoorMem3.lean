/- What is proved: runs of functions of this program on the abstract machine, over canonical arguments, by the kernel (printed by a program of this repository). No condition. -/
import Derived.Test.YtnifkpljhfpdlaaGreatDoorMem2e
set_option linter.unusedVariables false
set_option linter.unusedSimpArgs false
namespace Go.Ab
open Go.Proofs
def tab3 : List (Nat × List Memo) := [(75, [mem0,mem1,mem27,mem45,mem67,mem87,mem88,mem105,mem106,mem123,mem124,mem141,mem142,mem165,mem166]),(42, [mem2,mem46,mem89,mem107,mem125,mem143,mem167]),(197, [mem3,mem6,mem9,mem28,mem90,mem108,mem126,mem144,mem146,mem168,mem171]),(199, [mem4,mem7,mem10,mem29,mem91,mem109,mem127,mem147,mem169,mem172]),(244, [mem5,mem8,mem11]),(79, [mem12]),(124, [mem13,mem20,mem34,mem39,mem51,mem54,mem59,mem61,mem72,mem74,mem79,mem81,mem151,mem157,mem176,mem182]),(123, [mem14,mem16,mem21,mem22,mem35,mem37,mem40,mem41,mem52,mem55,mem60,mem62,mem73,mem75,mem80,mem82,mem96,mem98,mem100,mem101,mem114,mem116,mem118,mem119,mem132,mem134,mem136,mem137,mem152,mem153,mem158,mem159,mem177,mem178,mem183,mem184]),(193, [mem15,mem17,mem18,mem23,mem36,mem53,mem56,mem57,mem63,mem64,mem97,mem115,mem133]),(80, [mem19,mem24,mem38,mem42,mem58,mem65,mem99,mem102,mem117,mem120,mem135,mem138]),(192, [mem30,mem31,mem47,mem48,mem68,mem69,mem92,mem93,mem110,mem111,mem128,mem129,mem145,mem148,mem170,mem173]),(122, [mem76,mem77,mem83,mem84,mem154,mem155,mem160,mem161,mem179,mem180,mem185,mem186]),(125, [mem191,mem193,mem195,mem196]),(200, [mem192,mem194])]
theorem tabOk3 : StandsAll Tryz.prog (ctxOf Tryz.prog) tab3 := (sa1 (sl1 rfl std0 (sl1 rfl std1 (sl1 rfl std27 (sl1 rfl std45 (sl1 rfl std67 (sl1 rfl std87 (sl1 rfl std88 (sl1 rfl std105 (sl1 rfl std106 (sl1 rfl std123 (sl1 rfl std124 (sl1 rfl std141 (sl1 rfl std142 (sl1 rfl std165 (sl1 rfl std166 sl0))))))))))))))) (sa1 (sl1 rfl std2 (sl1 rfl std46 (sl1 rfl std89 (sl1 rfl std107 (sl1 rfl std125 (sl1 rfl std143 (sl1 rfl std167 sl0))))))) (sa1 (sl1 rfl std3 (sl1 rfl std6 (sl1 rfl std9 (sl1 rfl std28 (sl1 rfl std90 (sl1 rfl std108 (sl1 rfl std126 (sl1 rfl std144 (sl1 rfl std146 (sl1 rfl std168 (sl1 rfl std171 sl0))))))))))) (sa1 (sl1 rfl std4 (sl1 rfl std7 (sl1 rfl std10 (sl1 rfl std29 (sl1 rfl std91 (sl1 rfl std109 (sl1 rfl std127 (sl1 rfl std147 (sl1 rfl std169 (sl1 rfl std172 sl0)))))))))) (sa1 (sl1 rfl std5 (sl1 rfl std8 (sl1 rfl std11 sl0))) (sa1 (sl1 rfl std12 sl0) (sa1 (sl1 rfl std13 (sl1 rfl std20 (sl1 rfl std34 (sl1 rfl std39 (sl1 rfl std51 (sl1 rfl std54 (sl1 rfl std59 (sl1 rfl std61 (sl1 rfl std72 (sl1 rfl std74 (sl1 rfl std79 (sl1 rfl std81 (sl1 rfl std151 (sl1 rfl std157 (sl1 rfl std176 (sl1 rfl std182 sl0)))))))))))))))) (sa1 (sl1 rfl std14 (sl1 rfl std16 (sl1 rfl std21 (sl1 rfl std22 (sl1 rfl std35 (sl1 rfl std37 (sl1 rfl std40 (sl1 rfl std41 (sl1 rfl std52 (sl1 rfl std55 (sl1 rfl std60 (sl1 rfl std62 (sl1 rfl std73 (sl1 rfl std75 (sl1 rfl std80 (sl1 rfl std82 (sl1 rfl std96 (sl1 rfl std98 (sl1 rfl std100 (sl1 rfl std101 (sl1 rfl std114 (sl1 rfl std116 (sl1 rfl std118 (sl1 rfl std119 (sl1 rfl std132 (sl1 rfl std134 (sl1 rfl std136 (sl1 rfl std137 (sl1 rfl std152 (sl1 rfl std153 (sl1 rfl std158 (sl1 rfl std159 (sl1 rfl std177 (sl1 rfl std178 (sl1 rfl std183 (sl1 rfl std184 sl0)))))))))))))))))))))))))))))))))))) (sa1 (sl1 rfl std15 (sl1 rfl std17 (sl1 rfl std18 (sl1 rfl std23 (sl1 rfl std36 (sl1 rfl std53 (sl1 rfl std56 (sl1 rfl std57 (sl1 rfl std63 (sl1 rfl std64 (sl1 rfl std97 (sl1 rfl std115 (sl1 rfl std133 sl0))))))))))))) (sa1 (sl1 rfl std19 (sl1 rfl std24 (sl1 rfl std38 (sl1 rfl std42 (sl1 rfl std58 (sl1 rfl std65 (sl1 rfl std99 (sl1 rfl std102 (sl1 rfl std117 (sl1 rfl std120 (sl1 rfl std135 (sl1 rfl std138 sl0)))))))))))) (sa1 (sl1 rfl std30 (sl1 rfl std31 (sl1 rfl std47 (sl1 rfl std48 (sl1 rfl std68 (sl1 rfl std69 (sl1 rfl std92 (sl1 rfl std93 (sl1 rfl std110 (sl1 rfl std111 (sl1 rfl std128 (sl1 rfl std129 (sl1 rfl std145 (sl1 rfl std148 (sl1 rfl std170 (sl1 rfl std173 sl0)))))))))))))))) (sa1 (sl1 rfl std76 (sl1 rfl std77 (sl1 rfl std83 (sl1 rfl std84 (sl1 rfl std154 (sl1 rfl std155 (sl1 rfl std160 (sl1 rfl std161 (sl1 rfl std179 (sl1 rfl std180 (sl1 rfl std185 (sl1 rfl std186 sl0)))))))))))) (sa1 (sl1 rfl std191 (sl1 rfl std193 (sl1 rfl std195 (sl1 rfl std196 sl0)))) (sa1 (sl1 rfl std192 (sl1 rfl std194 sl0)) sa0))))))))))))))
noncomputable def env3 : Env := ⟨Tryz.prog, ctxOf Tryz.prog, memoStub (tabOf tab3) (stubOf ix)⟩
theorem stub3 : StubOk env3 := stubOk_of (memoStub_ok (stub_says libFacts) (tabOf_ok tabOk3))
def mem25:Memo:=⟨43,[q9,(zs 14 0 1 1),(.slice none 0 0)],8,[q2,q1,q6,q5,q0,q36,⟨[(zi 10),(zi 13),(zs 15 0 1 1)],3⟩,⟨[(zi 1),(zi 1)],2⟩],q52,[],[]⟩
theorem std25:Md mem25:=sd stub3
def mem32:Memo:=⟨121,[q9],8,[q2,q1,q6,q5,q0,q33],(zs 38 0 2 capU),[38,28,36],q22⟩
theorem std32:Md mem32:=sd stub3
def mem49:Memo:=⟨121,[q9],8,[q2,q1,q6,q5,q0,q10],(zs 38 0 2 capU),[38,28,36],q22⟩
theorem std49:Md mem49:=sd stub3
def mem70:Memo:=⟨121,[q15],8,[q2,q1,q6,q5,q0,q20],(zs 38 0 2 capU),[38,28,36],q22⟩
theorem std70:Md mem70:=sd stub3
def mem78:Memo:=⟨80,[q15,(zs 14 0 1 1),(zs 15 0 1 1),(zs 16 0 1 1)],8,[q2,q1,q6,q5,q0,q20,q60,q62,⟨[(zi 1)],1⟩,⟨[(zi 1),(zi 1)],2⟩,⟨[(zi 2),(zi 1)],2⟩],q52,[],[]⟩
theorem std78:Md mem78:=sd stub3
def mem85:Memo:=⟨80,[q15,(zs 14 0 1 1),(zs 15 0 1 1),(zs 16 0 1 1)],8,[q2,q1,q6,q5,q0,q20,q60,q62,⟨[(zi 2)],1⟩,⟨[(zi 1),(zi 1)],2⟩,⟨[(zi 2),(zi 1)],2⟩],(zu [(za [(zi 44),(zi 44)]),(zi 0)]),[],[]⟩
theorem std85:Md mem85:=sd stub3
def mem94:Memo:=⟨121,[q4],8,[q2,q1,q6,q5,q11,q10],(zs 38 0 2 capU),[38,28,36],q22⟩
theorem std94:Md mem94:=sd stub3
def mem112:Memo:=⟨121,[q4],8,[q2,q1,q6,q5,q12,q10],(zs 38 0 2 capU),[38,28,36],q22⟩
theorem std112:Md mem112:=sd stub3
def mem130:Memo:=⟨121,[q4],8,[q2,q1,q6,q5,q13,q10],(zs 38 0 2 capU),[38,28,36],q22⟩
theorem std130:Md mem130:=sd stub3
def mem149:Memo:=⟨121,[q4],8,[q2,q1,q6,q5,q8,q10],(zs 38 0 2 capU),[38,28,36],q22⟩
theorem std149:Md mem149:=sd stub3
def mem156:Memo:=⟨80,[q4,(zs 14 0 1 1),(.slice none 0 0),(zs 15 0 1 1)],8,[q2,q1,q6,q5,q8,q10,q25,⟨[(zi 1)],1⟩,⟨[(zi 2),(zi 1)],2⟩],q55,[],[]⟩
theorem std156:Md mem156:=sd stub3
def mem162:Memo:=⟨80,[q4,(zs 14 0 1 1),(.slice none 0 0),(zs 15 0 1 1)],8,[q2,q1,q6,q5,q8,q10,q25,⟨[(zi 2)],1⟩,⟨[(zi 2),(zi 1)],2⟩],q49,[],[]⟩
theorem std162:Md mem162:=sd stub3
def mem174:Memo:=⟨121,[q4],8,[q2,q1,q6,q5,q7,q10],(zs 38 0 2 capU),[38,28,36],q22⟩
theorem std174:Md mem174:=sd stub3
def mem181:Memo:=⟨80,[q4,(zs 14 0 1 1),(.slice none 0 0),(zs 15 0 1 1)],8,[q2,q1,q6,q5,q7,q10,q25,⟨[(zi 1)],1⟩,⟨[(zi 2),(zi 1)],2⟩],q49,[],[]⟩
theorem std181:Md mem181:=sd stub3
def mem187:Memo:=⟨80,[q4,(zs 14 0 1 1),(.slice none 0 0),(zs 15 0 1 1)],8,[q2,q1,q6,q5,q7,q10,q25,⟨[(zi 2)],1⟩,⟨[(zi 2),(zi 1)],2⟩],q53,[],[]⟩
theorem std187:Md mem187:=sd stub3
def mem197:Memo:=⟨47,[q21,(zi 1),(za [(zi 10),(zi 13)])],8,[q2,q1,q6,q5,q0],(zu [(zs 69 0 2 capU),(zi 0)]),[69,43,67],[.cells [(zs 43 0 3 capU),(zs 67 0 3 capU)] [45] 1 true,.cells q61 [36,29] 4 true,.cells q61 [60,53] 4 true]⟩
theorem std197:Md mem197:=sd stub3
end Go.Ab
