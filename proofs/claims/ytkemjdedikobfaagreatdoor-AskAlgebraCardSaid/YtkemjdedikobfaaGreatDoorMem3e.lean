/- What is proved: runs of functions of this program on the abstract machine, over canonical arguments, by the kernel (printed by a program of this repository). No condition. -/
import Derived.Test.YtkemjdedikobfaaGreatDoorMem3d
set_option linter.unusedVariables false
set_option linter.unusedSimpArgs false
namespace Go.Ab
open Go.Proofs
def mem82:Memo:=⟨147,[(za [(zi 0),(zs 6 0 2 capU),(zs 7 0 2 2),(zs 8 0 3 3),(zs 9 0 1 1),(zs 10 0 1 1),(zs 11 0 5 5),(zs 12 0 3 capU),(zs 13 0 2 capU)]),(zs 14 0 1 1),(zi 1),(zi 1)],6,[⟨[(zi 1),(zi 1),(zi 1),(.slice none 0 0),(zi 10),(zi 10),(zi (-1)),(zi 1),(zi 1),(.slice none 0 0),(zi 11),(zi 11)],6⟩,⟨[(zi 1),(zi 10),(zi 10),(zi 2),(zi 40),(zi 20)],3⟩,⟨[(zi 11),(zi 1),(zi 0),(zi 1000),(zi 12),(zi 1),(zi 0),(zi 1000),(zi 21),(zi 2),(zi 0),(zi 1000)],4⟩,⟨[(zi 21),(zi 0),(zi 20),(zi 3)],4⟩,⟨[(zi 21),(zi 5),(zi 20),(zi 50),(zi 100)],5⟩,⟨[(zi 11),(zi 10),(zi 1),(zi 1),(zi 34),(zi 1),(zi 11),(zi 13),(zi 3),(zi 1),(zi 50),(zi 1),(zi 12),(zi 12),(zi 2),(zi 1),(zi 30),(zi 1),(zi 21),(zi 5),(zi 1),(zi 1),(zi 40),(zi 1),(zi 21),(zi 4),(zi 1),(zi 3),(zi 0),(zi 0)],6⟩,⟨[(zi 1),(zi 10),(zi 1),(zi 11),(zi 1),(zi 12)],2⟩,⟨[(zs 15 0 1 1),(zs 14 0 1 1)],1⟩,⟨[(zi 2)],1⟩,⟨[(zi 1)],1⟩],(zs 18 0 6 6),[18],[.cells [(zi 0),(zi (-1)),(zi 2),(zi (-1)),(zi 0),(zi 0)] [] 1 true]⟩
theorem fin82:mem82.fine env3=true:=by kernel_rfl
theorem ran82:mem82.run env3 14 60=some (mem82.res,someAll mem82.news,[]):=by kernel_rfl
theorem std82:Stands Tryz.prog (ctxOf Tryz.prog) mem82:=⟨env3,rfl,rfl,goodC _,stub3,fin82,14,60,ran82⟩
def mem87:Memo:=⟨147,[(za [(zi 0),(zs 6 0 2 capU),(zs 7 0 2 2),(zs 8 0 3 3),(zs 9 0 1 1),(zs 10 0 1 1),(zs 11 0 5 5),(zs 12 0 3 capU),(zs 13 0 2 capU)]),(zs 14 0 1 1),(zi 2),(zi 1)],6,[⟨[(zi 1),(zi 1),(zi 1),(.slice none 0 0),(zi 10),(zi 10),(zi (-1)),(zi 1),(zi 1),(.slice none 0 0),(zi 11),(zi 11)],6⟩,⟨[(zi 1),(zi 10),(zi 10),(zi 2),(zi 40),(zi 20)],3⟩,⟨[(zi 11),(zi 1),(zi 0),(zi 1000),(zi 12),(zi 1),(zi 0),(zi 1000),(zi 21),(zi 2),(zi 0),(zi 1000)],4⟩,⟨[(zi 21),(zi 0),(zi 20),(zi 3)],4⟩,⟨[(zi 21),(zi 5),(zi 20),(zi 50),(zi 100)],5⟩,⟨[(zi 11),(zi 10),(zi 1),(zi 1),(zi 34),(zi 1),(zi 11),(zi 13),(zi 3),(zi 1),(zi 50),(zi 1),(zi 12),(zi 12),(zi 2),(zi 1),(zi 30),(zi 1),(zi 21),(zi 5),(zi 1),(zi 1),(zi 40),(zi 1),(zi 21),(zi 4),(zi 1),(zi 3),(zi 0),(zi 0)],6⟩,⟨[(zi 1),(zi 10),(zi 1),(zi 11),(zi 1),(zi 12)],2⟩,⟨[(zs 15 0 1 1),(zs 14 0 1 1)],1⟩,⟨[(zi 2)],1⟩,⟨[(zi 1)],1⟩],(zs 18 0 4 4),[18],[.cells [(zi 0),(zi 0),(zi 0),(zi 0)] [] 1 true]⟩
theorem fin87:mem87.fine env3=true:=by kernel_rfl
theorem ran87:mem87.run env3 14 60=some (mem87.res,someAll mem87.news,[]):=by kernel_rfl
theorem std87:Stands Tryz.prog (ctxOf Tryz.prog) mem87:=⟨env3,rfl,rfl,goodC _,stub3,fin87,14,60,ran87⟩
end Go.Ab
