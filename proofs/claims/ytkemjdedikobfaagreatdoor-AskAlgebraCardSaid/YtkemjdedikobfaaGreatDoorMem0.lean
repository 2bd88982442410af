/- What is proved: runs of functions of this program on the abstract machine, over canonical arguments, by the kernel (printed by a program of this repository). No condition. -/
import Derived.Test.YtkemjdedikobfaaGreatDoorFacts
set_option linter.unusedVariables false
set_option linter.unusedSimpArgs false
namespace Go.Ab
open Go.Proofs
def tab0:List (Nat × List Memo):=[]
theorem tabOk0:StandsAll Tryz.prog (ctxOf Tryz.prog) tab0:=sa0
noncomputable def env0:Env:=⟨Tryz.prog,ctxOf Tryz.prog,memoStub (tabOf tab0) (stubOf ix)⟩
theorem stub0:StubOk env0:=stubOk_of (memoStub_ok (stub_says libFacts) (tabOf_ok tabOk0))
def mem0:Memo:=⟨32,[(zt [108,101,116,32,97,32,61,32,115,105,116,101,40,49,44,32,49,48,44,32,49,51,41,59,10,116,101,108,108,32,97,32,45,32,50,32,42,32,115,105,116,101,40,50,44,32,52,44,32,52,41,59,10,102,111,114,32,100,32,102,114,111,109,32,49,48,32,116,111,32,49,50,32,100,111,10,32,32,116,101,115,116,32,115,105,116,101,40,49,44,32,100,44,32,100,41,32,60,32,115,105,116,101,40,49,44,32,100,32,43,32,49,44,32,100,32,43,32,49,41,59,10,101,110,100,59,10])],6,[],(zu [(zs 259 0 58 capU),(zi 0),(zi (-1))]),[259],[.cells [(zi 1),(zt [108,101,116]),(zi 0),(zi 0),(zi 1),(zt [97]),(zi 0),(zi 4),(zi 3),(zt [61]),(zi 0),(zi 6),(zi 1),(zt [115,105,116,101]),(zi 0),(zi 8),(zi 3),(zt [40]),(zi 0),(zi 12),(zi 2),(zt [49]),(zi 1),(zi 13),(zi 3),(zt [44]),(zi 0),(zi 14),(zi 2),(zt [49,48]),(zi 10),(zi 16),(zi 3),(zt [44]),(zi 0),(zi 18),(zi 2),(zt [49,51]),(zi 13),(zi 20),(zi 3),(zt [41]),(zi 0),(zi 22),(zi 3),(zt [59]),(zi 0),(zi 23),(zi 1),(zt [116,101,108,108]),(zi 0),(zi 25),(zi 1),(zt [97]),(zi 0),(zi 30),(zi 3),(zt [45]),(zi 0),(zi 32),(zi 2),(zt [50]),(zi 2),(zi 34),(zi 3),(zt [42]),(zi 0),(zi 36),(zi 1),(zt [115,105,116,101]),(zi 0),(zi 38),(zi 3),(zt [40]),(zi 0),(zi 42),(zi 2),(zt [50]),(zi 2),(zi 43),(zi 3),(zt [44]),(zi 0),(zi 44),(zi 2),(zt [52]),(zi 4),(zi 46),(zi 3),(zt [44]),(zi 0),(zi 47),(zi 2),(zt [52]),(zi 4),(zi 49),(zi 3),(zt [41]),(zi 0),(zi 50),(zi 3),(zt [59]),(zi 0),(zi 51),(zi 1),(zt [102,111,114]),(zi 0),(zi 53),(zi 1),(zt [100]),(zi 0),(zi 57),(zi 1),(zt [102,114,111,109]),(zi 0),(zi 59),(zi 2),(zt [49,48]),(zi 10),(zi 64),(zi 1),(zt [116,111]),(zi 0),(zi 67),(zi 2),(zt [49,50]),(zi 12),(zi 70),(zi 1),(zt [100,111]),(zi 0),(zi 73),(zi 1),(zt [116,101,115,116]),(zi 0),(zi 78),(zi 1),(zt [115,105,116,101]),(zi 0),(zi 83),(zi 3),(zt [40]),(zi 0),(zi 87),(zi 2),(zt [49]),(zi 1),(zi 88),(zi 3),(zt [44]),(zi 0),(zi 89),(zi 1),(zt [100]),(zi 0),(zi 91),(zi 3),(zt [44]),(zi 0),(zi 92),(zi 1),(zt [100]),(zi 0),(zi 94),(zi 3),(zt [41]),(zi 0),(zi 95),(zi 3),(zt [60]),(zi 0),(zi 97),(zi 1),(zt [115,105,116,101]),(zi 0),(zi 99),(zi 3),(zt [40]),(zi 0),(zi 103),(zi 2),(zt [49]),(zi 1),(zi 104),(zi 3),(zt [44]),(zi 0),(zi 105),(zi 1),(zt [100]),(zi 0),(zi 107),(zi 3),(zt [43]),(zi 0),(zi 109),(zi 2),(zt [49]),(zi 1),(zi 111),(zi 3),(zt [44]),(zi 0),(zi 112),(zi 1),(zt [100]),(zi 0),(zi 114),(zi 3),(zt [43]),(zi 0),(zi 116),(zi 2),(zt [49]),(zi 1),(zi 118),(zi 3),(zt [41]),(zi 0),(zi 119),(zi 3),(zt [59]),(zi 0),(zi 120),(zi 1),(zt [101,110,100]),(zi 0),(zi 122),(zi 3),(zt [59]),(zi 0),(zi 125)] [256,251,248,245,239,235,230,227,221,217,212,209,204,201,196,192,189,184,181,176,173,168,165,160,153,148,142,137,131,126,121,116,113,110,104,101,95,92,87,84,79,75,69,65,60,55,52,49,43,40,34,31,26,23,18,14,9] 4 true]⟩
theorem fin0:mem0.fine env0=true:=by kernel_rfl
theorem ran0:mem0.run env0 14 60=some (mem0.res,someAll mem0.news,[]):=by kernel_rfl
theorem std0:Stands Tryz.prog (ctxOf Tryz.prog) mem0:=⟨env0,rfl,rfl,goodC _,stub0,fin0,14,60,ran0⟩
def mem1:Memo:=⟨185,[(zt [108,101,116,32,116,101,108,108,32,116,101,115,116,32,102,111,114,32,102,114,111,109,32,116,111,32,100,111,32,101,110,100,32,115,105,116,101,32,97,114,101,97]),(zt [32])],6,[],(zs 6 0 10 10),[6],[.cells [(zt [108,101,116]),(zt [116,101,108,108]),(zt [116,101,115,116]),(zt [102,111,114]),(zt [102,114,111,109]),(zt [116,111]),(zt [100,111]),(zt [101,110,100]),(zt [115,105,116,101]),(zt [97,114,101,97])] [] 1 true]⟩
theorem fin1:mem1.fine env0=true:=by kernel_rfl
theorem ran1:mem1.run env0 14 60=some (mem1.res,someAll mem1.news,[]):=by kernel_rfl
theorem std1:Stands Tryz.prog (ctxOf Tryz.prog) mem1:=⟨env0,rfl,rfl,goodC _,stub0,fin1,14,60,ran1⟩
def mem7:Memo:=⟨8,[(za [(zi 10),(.slice none 0 0)]),(za [(zi 1),(.slice none 0 0)])],6,[],(zu [(za [(zi 11),(.slice none 0 0)]),(zi 0)]),[],[]⟩
theorem fin7:mem7.fine env0=true:=by kernel_rfl
theorem ran7:mem7.run env0 14 60=some (mem7.res,someAll mem7.news,[]):=by kernel_rfl
theorem std7:Stands Tryz.prog (ctxOf Tryz.prog) mem7:=⟨env0,rfl,rfl,goodC _,stub0,fin7,14,60,ran7⟩
def mem8:Memo:=⟨8,[(za [(zi 11),(.slice none 0 0)]),(za [(zi 1),(.slice none 0 0)])],6,[],(zu [(za [(zi 12),(.slice none 0 0)]),(zi 0)]),[],[]⟩
theorem fin8:mem8.fine env0=true:=by kernel_rfl
theorem ran8:mem8.run env0 14 60=some (mem8.res,someAll mem8.news,[]):=by kernel_rfl
theorem std8:Stands Tryz.prog (ctxOf Tryz.prog) mem8:=⟨env0,rfl,rfl,goodC _,stub0,fin8,14,60,ran8⟩
def mem9:Memo:=⟨8,[(za [(zi 12),(.slice none 0 0)]),(za [(zi 1),(.slice none 0 0)])],6,[],(zu [(za [(zi 13),(.slice none 0 0)]),(zi 0)]),[],[]⟩
theorem fin9:mem9.fine env0=true:=by kernel_rfl
theorem ran9:mem9.run env0 14 60=some (mem9.res,someAll mem9.news,[]):=by kernel_rfl
theorem std9:Stands Tryz.prog (ctxOf Tryz.prog) mem9:=⟨env0,rfl,rfl,goodC _,stub0,fin9,14,60,ran9⟩
def mem11:Memo:=⟨102,[(za [(zs 6 0 2 2),(zs 7 0 3 3),(zs 8 0 1 1),(zs 9 0 1 1),(zs 10 0 5 5),(.slice none 0 0)])],6,[⟨[(zi 1),(zi 10),(zi 10),(zi 2),(zi 40),(zi 20)],3⟩,⟨[(zi 11),(zi 1),(zi 0),(zi 1000),(zi 12),(zi 1),(zi 0),(zi 1000),(zi 21),(zi 2),(zi 0),(zi 1000)],4⟩,⟨[(zi 21),(zi 0),(zi 20),(zi 3)],4⟩,⟨[(zi 21),(zi 5),(zi 20),(zi 50),(zi 100)],5⟩,⟨[(zi 11),(zi 10),(zi 1),(zi 1),(zi 34),(zi 1),(zi 11),(zi 13),(zi 3),(zi 1),(zi 50),(zi 1),(zi 12),(zi 12),(zi 2),(zi 1),(zi 30),(zi 1),(zi 21),(zi 5),(zi 1),(zi 1),(zi 40),(zi 1),(zi 21),(zi 4),(zi 1),(zi 3),(zi 0),(zi 0)],6⟩],(zi 0),[],[]⟩
theorem fin11:mem11.fine env0=true:=by kernel_rfl
theorem ran11:mem11.run env0 14 60=some (mem11.res,someAll mem11.news,[]):=by kernel_rfl
theorem std11:Stands Tryz.prog (ctxOf Tryz.prog) mem11:=⟨env0,rfl,rfl,goodC _,stub0,fin11,14,60,ran11⟩
def mem12:Memo:=⟨102,[(za [(zs 6 0 2 2),(zs 7 0 3 3),(zs 8 0 1 1),(zs 9 0 1 1),(zs 10 0 5 5),(zs 11 0 2 capU)])],6,[⟨[(zi 1),(zi 10),(zi 10),(zi 2),(zi 40),(zi 20)],3⟩,⟨[(zi 11),(zi 1),(zi 0),(zi 1000),(zi 12),(zi 1),(zi 0),(zi 1000),(zi 21),(zi 2),(zi 0),(zi 1000)],4⟩,⟨[(zi 21),(zi 0),(zi 20),(zi 3)],4⟩,⟨[(zi 21),(zi 5),(zi 20),(zi 50),(zi 100)],5⟩,⟨[(zi 11),(zi 10),(zi 1),(zi 1),(zi 34),(zi 1),(zi 11),(zi 13),(zi 3),(zi 1),(zi 50),(zi 1),(zi 12),(zi 12),(zi 2),(zi 1),(zi 30),(zi 1),(zi 21),(zi 5),(zi 1),(zi 1),(zi 40),(zi 1),(zi 21),(zi 4),(zi 1),(zi 3),(zi 0),(zi 0)],6⟩,⟨[(zi 1),(zi 10),(zi 1),(zi 14)],2⟩],(zi 0),[],[]⟩
theorem fin12:mem12.fine env0=true:=by kernel_rfl
theorem ran12:mem12.run env0 14 60=some (mem12.res,someAll mem12.news,[]):=by kernel_rfl
theorem std12:Stands Tryz.prog (ctxOf Tryz.prog) mem12:=⟨env0,rfl,rfl,goodC _,stub0,fin12,14,60,ran12⟩
def mem13:Memo:=⟨102,[(za [(zs 6 0 2 2),(zs 7 0 3 3),(zs 8 0 1 1),(zs 9 0 1 1),(zs 10 0 5 5),(zs 11 0 4 capU)])],6,[⟨[(zi 1),(zi 10),(zi 10),(zi 2),(zi 40),(zi 20)],3⟩,⟨[(zi 11),(zi 1),(zi 0),(zi 1000),(zi 12),(zi 1),(zi 0),(zi 1000),(zi 21),(zi 2),(zi 0),(zi 1000)],4⟩,⟨[(zi 21),(zi 0),(zi 20),(zi 3)],4⟩,⟨[(zi 21),(zi 5),(zi 20),(zi 50),(zi 100)],5⟩,⟨[(zi 11),(zi 10),(zi 1),(zi 1),(zi 34),(zi 1),(zi 11),(zi 13),(zi 3),(zi 1),(zi 50),(zi 1),(zi 12),(zi 12),(zi 2),(zi 1),(zi 30),(zi 1),(zi 21),(zi 5),(zi 1),(zi 1),(zi 40),(zi 1),(zi 21),(zi 4),(zi 1),(zi 3),(zi 0),(zi 0)],6⟩,⟨[(zi 1),(zi 10),(zi 1),(zi 14),(zi 2),(zi 4),(zi 2),(zi 5)],2⟩],(zi 0),[],[]⟩
theorem fin13:mem13.fine env0=true:=by kernel_rfl
theorem ran13:mem13.run env0 14 60=some (mem13.res,someAll mem13.news,[]):=by kernel_rfl
theorem std13:Stands Tryz.prog (ctxOf Tryz.prog) mem13:=⟨env0,rfl,rfl,goodC _,stub0,fin13,14,60,ran13⟩
def mem22:Memo:=⟨166,[(za [(zi 5),(zs 6 0 14 capU)])],6,[⟨[(zi 0),(zi 1),(zi 30000),(zi 1),(zi 0),(zi 0),(zi 1),(zi 2),(zi 3000),(zi 2),(zi 1),(zi 0),(zi 2),(zi 3),(zi 6000),(zi 3),(zi 2),(zi 0),(zi 3),(zi 4),(zi 3000),(zi 4),(zi 3),(zi 0),(zi 1),(zi 2),(zi 34),(zi 2),(zi 1),(zi (-34)),(zi 2),(zi 4),(zi 50),(zi 4),(zi 2),(zi (-50)),(zi 2),(zi 3),(zi 30),(zi 3),(zi 2),(zi (-30))],3⟩],(zi 0),[],[]⟩
theorem fin22:mem22.fine env0=true:=by kernel_rfl
theorem ran22:mem22.run env0 14 60=some (mem22.res,someAll mem22.news,[]):=by kernel_rfl
theorem std22:Stands Tryz.prog (ctxOf Tryz.prog) mem22:=⟨env0,rfl,rfl,goodC _,stub0,fin22,14,60,ran22⟩
def mem30:Memo:=⟨166,[(za [(zi 4),(zs 6 0 10 capU)])],6,[⟨[(zi 0),(zi 1),(zi 12000),(zi 1),(zi 0),(zi 0),(zi 1),(zi 2),(zi 3000),(zi 2),(zi 1),(zi 0),(zi 2),(zi 3),(zi 3000),(zi 3),(zi 2),(zi 0),(zi 2),(zi 3),(zi 80),(zi 3),(zi 2),(zi (-40)),(zi 1),(zi 2),(zi 0),(zi 2),(zi 1),(zi 0)],3⟩],(zi 0),[],[]⟩
theorem fin30:mem30.fine env0=true:=by kernel_rfl
theorem ran30:mem30.run env0 14 60=some (mem30.res,someAll mem30.news,[]):=by kernel_rfl
theorem std30:Stands Tryz.prog (ctxOf Tryz.prog) mem30:=⟨env0,rfl,rfl,goodC _,stub0,fin30,14,60,ran30⟩
def mem42:Memo:=⟨166,[(za [(zi 4),(zs 6 0 10 capU)])],6,[⟨[(zi 0),(zi 1),(zi 9000),(zi 1),(zi 0),(zi 0),(zi 1),(zi 2),(zi 3000),(zi 2),(zi 1),(zi 0),(zi 2),(zi 3),(zi 3000),(zi 3),(zi 2),(zi 0),(zi 2),(zi 3),(zi 40),(zi 3),(zi 2),(zi (-40)),(zi 1),(zi 2),(zi 0),(zi 2),(zi 1),(zi 0)],3⟩],(zi 0),[],[]⟩
theorem fin42:mem42.fine env0=true:=by kernel_rfl
theorem ran42:mem42.run env0 14 60=some (mem42.res,someAll mem42.news,[]):=by kernel_rfl
theorem std42:Stands Tryz.prog (ctxOf Tryz.prog) mem42:=⟨env0,rfl,rfl,goodC _,stub0,fin42,14,60,ran42⟩
def mem46:Memo:=⟨151,[(zi 5),(zs 6 0 14 capU)],6,[⟨[(zi 0),(zi 1),(zi 30000),(zi 1),(zi 0),(zi 0),(zi 1),(zi 2),(zi 3000),(zi 2),(zi 1),(zi 0),(zi 2),(zi 3),(zi 6000),(zi 3),(zi 2),(zi 0),(zi 3),(zi 4),(zi 3000),(zi 4),(zi 3),(zi 0),(zi 1),(zi 2),(zi 34),(zi 2),(zi 1),(zi (-34)),(zi 2),(zi 4),(zi 50),(zi 4),(zi 2),(zi (-50)),(zi 2),(zi 3),(zi 30),(zi 3),(zi 2),(zi (-30))],3⟩],(zu [(zs 7 0 5 5),(.bool true)]),[7],[.cells [(zi (-84)),(zi (-84)),(zi (-50)),(zi (-20)),(zi 0)] [] 1 true]⟩
theorem fin46:mem46.fine env0=true:=by kernel_rfl
theorem ran46:mem46.run env0 14 60=some (mem46.res,someAll mem46.news,[]):=by kernel_rfl
theorem std46:Stands Tryz.prog (ctxOf Tryz.prog) mem46:=⟨env0,rfl,rfl,goodC _,stub0,fin46,14,60,ran46⟩
def mem49:Memo:=⟨151,[(zi 4),(zs 6 0 10 capU)],6,[⟨[(zi 0),(zi 1),(zi 12000),(zi 1),(zi 0),(zi 0),(zi 1),(zi 2),(zi 3000),(zi 2),(zi 1),(zi 0),(zi 2),(zi 3),(zi 3000),(zi 3),(zi 2),(zi 0),(zi 2),(zi 3),(zi 80),(zi 3),(zi 2),(zi (-40)),(zi 1),(zi 2),(zi 0),(zi 2),(zi 1),(zi 0)],3⟩],(zu [(zs 7 0 4 4),(.bool true)]),[7],[.cells [(zi (-40)),(zi (-40)),(zi (-40)),(zi 0)] [] 1 true]⟩
theorem fin49:mem49.fine env0=true:=by kernel_rfl
theorem ran49:mem49.run env0 14 60=some (mem49.res,someAll mem49.news,[]):=by kernel_rfl
theorem std49:Stands Tryz.prog (ctxOf Tryz.prog) mem49:=⟨env0,rfl,rfl,goodC _,stub0,fin49,14,60,ran49⟩
def mem52:Memo:=⟨151,[(zi 4),(zs 6 0 10 capU)],6,[⟨[(zi 0),(zi 1),(zi 9000),(zi 1),(zi 0),(zi 0),(zi 1),(zi 2),(zi 3000),(zi 2),(zi 1),(zi 0),(zi 2),(zi 3),(zi 3000),(zi 3),(zi 2),(zi 0),(zi 2),(zi 3),(zi 40),(zi 3),(zi 2),(zi (-40)),(zi 1),(zi 2),(zi 0),(zi 2),(zi 1),(zi 0)],3⟩],(zu [(zs 7 0 4 4),(.bool true)]),[7],[.cells [(zi (-40)),(zi (-40)),(zi (-40)),(zi 0)] [] 1 true]⟩
theorem fin52:mem52.fine env0=true:=by kernel_rfl
theorem ran52:mem52.run env0 14 60=some (mem52.res,someAll mem52.news,[]):=by kernel_rfl
theorem std52:Stands Tryz.prog (ctxOf Tryz.prog) mem52:=⟨env0,rfl,rfl,goodC _,stub0,fin52,14,60,ran52⟩
def mem60:Memo:=⟨102,[(za [(zs 6 0 2 2),(zs 7 0 3 3),(zs 8 0 1 1),(zs 9 0 1 1),(zs 10 0 5 5),(zs 11 0 2 capU)])],6,[⟨[(zi 1),(zi 10),(zi 10),(zi 2),(zi 40),(zi 20)],3⟩,⟨[(zi 11),(zi 1),(zi 0),(zi 1000),(zi 12),(zi 1),(zi 0),(zi 1000),(zi 21),(zi 2),(zi 0),(zi 1000)],4⟩,⟨[(zi 21),(zi 0),(zi 20),(zi 3)],4⟩,⟨[(zi 21),(zi 5),(zi 20),(zi 50),(zi 100)],5⟩,⟨[(zi 11),(zi 10),(zi 1),(zi 1),(zi 34),(zi 1),(zi 11),(zi 13),(zi 3),(zi 1),(zi 50),(zi 1),(zi 12),(zi 12),(zi 2),(zi 1),(zi 30),(zi 1),(zi 21),(zi 5),(zi 1),(zi 1),(zi 40),(zi 1),(zi 21),(zi 4),(zi 1),(zi 3),(zi 0),(zi 0)],6⟩,⟨[(zi 1),(zi 10),(zi 1),(zi 11)],2⟩],(zi 0),[],[]⟩
theorem fin60:mem60.fine env0=true:=by kernel_rfl
theorem ran60:mem60.run env0 14 60=some (mem60.res,someAll mem60.news,[]):=by kernel_rfl
theorem std60:Stands Tryz.prog (ctxOf Tryz.prog) mem60:=⟨env0,rfl,rfl,goodC _,stub0,fin60,14,60,ran60⟩
def mem61:Memo:=⟨102,[(za [(zs 6 0 2 2),(zs 7 0 3 3),(zs 8 0 1 1),(zs 9 0 1 1),(zs 10 0 5 5),(zs 11 0 3 capU)])],6,[⟨[(zi 1),(zi 10),(zi 10),(zi 2),(zi 40),(zi 20)],3⟩,⟨[(zi 11),(zi 1),(zi 0),(zi 1000),(zi 12),(zi 1),(zi 0),(zi 1000),(zi 21),(zi 2),(zi 0),(zi 1000)],4⟩,⟨[(zi 21),(zi 0),(zi 20),(zi 3)],4⟩,⟨[(zi 21),(zi 5),(zi 20),(zi 50),(zi 100)],5⟩,⟨[(zi 11),(zi 10),(zi 1),(zi 1),(zi 34),(zi 1),(zi 11),(zi 13),(zi 3),(zi 1),(zi 50),(zi 1),(zi 12),(zi 12),(zi 2),(zi 1),(zi 30),(zi 1),(zi 21),(zi 5),(zi 1),(zi 1),(zi 40),(zi 1),(zi 21),(zi 4),(zi 1),(zi 3),(zi 0),(zi 0)],6⟩,⟨[(zi 1),(zi 10),(zi 1),(zi 11),(zi 1),(zi 12)],2⟩],(zi 0),[],[]⟩
theorem fin61:mem61.fine env0=true:=by kernel_rfl
theorem ran61:mem61.run env0 14 60=some (mem61.res,someAll mem61.news,[]):=by kernel_rfl
theorem std61:Stands Tryz.prog (ctxOf Tryz.prog) mem61:=⟨env0,rfl,rfl,goodC _,stub0,fin61,14,60,ran61⟩
def mem70:Memo:=⟨166,[(za [(zi 6),(zs 6 0 16 capU)])],6,[⟨[(zi 0),(zi 1),(zi 30000),(zi 1),(zi 0),(zi 0),(zi 1),(zi 2),(zi 3000),(zi 2),(zi 1),(zi 0),(zi 2),(zi 3),(zi 3000),(zi 3),(zi 2),(zi 0),(zi 3),(zi 4),(zi 3000),(zi 4),(zi 3),(zi 0),(zi 4),(zi 5),(zi 3000),(zi 5),(zi 4),(zi 0),(zi 1),(zi 2),(zi 34),(zi 2),(zi 1),(zi (-34)),(zi 2),(zi 5),(zi 50),(zi 5),(zi 2),(zi (-50)),(zi 2),(zi 4),(zi 30),(zi 4),(zi 2),(zi (-30))],3⟩],(zi 0),[],[]⟩
theorem fin70:mem70.fine env0=true:=by kernel_rfl
theorem ran70:mem70.run env0 14 60=some (mem70.res,someAll mem70.news,[]):=by kernel_rfl
theorem std70:Stands Tryz.prog (ctxOf Tryz.prog) mem70:=⟨env0,rfl,rfl,goodC _,stub0,fin70,14,60,ran70⟩
def mem90:Memo:=⟨151,[(zi 6),(zs 6 0 16 capU)],6,[⟨[(zi 0),(zi 1),(zi 30000),(zi 1),(zi 0),(zi 0),(zi 1),(zi 2),(zi 3000),(zi 2),(zi 1),(zi 0),(zi 2),(zi 3),(zi 3000),(zi 3),(zi 2),(zi 0),(zi 3),(zi 4),(zi 3000),(zi 4),(zi 3),(zi 0),(zi 4),(zi 5),(zi 3000),(zi 5),(zi 4),(zi 0),(zi 1),(zi 2),(zi 34),(zi 2),(zi 1),(zi (-34)),(zi 2),(zi 5),(zi 50),(zi 5),(zi 2),(zi (-50)),(zi 2),(zi 4),(zi 30),(zi 4),(zi 2),(zi (-30))],3⟩],(zu [(zs 7 0 6 6),(.bool true)]),[7],[.cells [(zi (-84)),(zi (-84)),(zi (-50)),(zi (-20)),(zi (-20)),(zi 0)] [] 1 true]⟩
theorem fin90:mem90.fine env0=true:=by kernel_rfl
theorem ran90:mem90.run env0 14 60=some (mem90.res,someAll mem90.news,[]):=by kernel_rfl
theorem std90:Stands Tryz.prog (ctxOf Tryz.prog) mem90:=⟨env0,rfl,rfl,goodC _,stub0,fin90,14,60,ran90⟩
def mem92:Memo:=⟨170,[(zs 6 0 6 capU),(zf 272 [] [])],6,[⟨[(zi 0),(zi 0),(zi 0),(zi 0),(zi 0),(zi 0)],1⟩],(.bool false),[],[]⟩
theorem fin92:mem92.fine env0=true:=by kernel_rfl
theorem ran92:mem92.run env0 14 60=some (mem92.res,someAll mem92.news,[]):=by kernel_rfl
theorem std92:Stands Tryz.prog (ctxOf Tryz.prog) mem92:=⟨env0,rfl,rfl,goodC _,stub0,fin92,14,60,ran92⟩
def mem94:Memo:=⟨170,[(zs 6 0 10 10),(zf 271 [] [])],6,[⟨[(zi 0),(zi 0),(zi 0),(zi 0),(zi 0),(zi 0),(zi 0),(zi 0),(zi 0),(zi 0)],1⟩],(.bool false),[],[]⟩
theorem fin94:mem94.fine env0=true:=by kernel_rfl
theorem ran94:mem94.run env0 14 60=some (mem94.res,someAll mem94.news,[]):=by kernel_rfl
theorem std94:Stands Tryz.prog (ctxOf Tryz.prog) mem94:=⟨env0,rfl,rfl,goodC _,stub0,fin94,14,60,ran94⟩
def mem99:Memo:=⟨174,[(za [(zi 5),(zs 6 0 14 capU)]),(zs 7 0 5 5)],6,[⟨[(zi 0),(zi 1),(zi 30000),(zi 1),(zi 0),(zi 0),(zi 1),(zi 2),(zi 3000),(zi 2),(zi 1),(zi 0),(zi 2),(zi 3),(zi 6000),(zi 3),(zi 2),(zi 0),(zi 3),(zi 4),(zi 3000),(zi 4),(zi 3),(zi 0),(zi 1),(zi 2),(zi 34),(zi 2),(zi 1),(zi (-34)),(zi 2),(zi 4),(zi 50),(zi 4),(zi 2),(zi (-50)),(zi 2),(zi 3),(zi 30),(zi 3),(zi 2),(zi (-30))],3⟩,⟨[(zi 0),(zi 0),(zi 34),(zi 64),(zi 84)],1⟩],(.bool true),[],[]⟩
theorem fin99:mem99.fine env0=true:=by kernel_rfl
theorem ran99:mem99.run env0 14 60=some (mem99.res,someAll mem99.news,[]):=by kernel_rfl
theorem std99:Stands Tryz.prog (ctxOf Tryz.prog) mem99:=⟨env0,rfl,rfl,goodC _,stub0,fin99,14,60,ran99⟩
end Go.Ab
