/- What is proved: runs of functions of this program on the abstract machine, over canonical arguments, by the kernel (printed by a program of this repository). No condition. -/
import Derived.Test.YtkemjdedikobfaaGreatDoorMem4c
set_option linter.unusedVariables false
set_option linter.unusedSimpArgs false
namespace Go.Ab
open Go.Proofs
def mem88:Memo:=⟨71,[(za [(zs 6 0 2 2),(zs 7 0 3 3),(zs 8 0 1 1),(zs 9 0 1 1),(zs 10 0 5 5),(.slice none 0 0)]),(za [(zi 0),(zs 11 0 2 capU)])],6,[⟨[(zi 1),(zi 10),(zi 10),(zi 2),(zi 40),(zi 20)],3⟩,⟨[(zi 11),(zi 1),(zi 0),(zi 1000),(zi 12),(zi 1),(zi 0),(zi 1000),(zi 21),(zi 2),(zi 0),(zi 1000)],4⟩,⟨[(zi 21),(zi 0),(zi 20),(zi 3)],4⟩,⟨[(zi 21),(zi 5),(zi 20),(zi 50),(zi 100)],5⟩,⟨[(zi 11),(zi 10),(zi 1),(zi 1),(zi 34),(zi 1),(zi 11),(zi 13),(zi 3),(zi 1),(zi 50),(zi 1),(zi 12),(zi 12),(zi 2),(zi 1),(zi 30),(zi 1),(zi 21),(zi 5),(zi 1),(zi 1),(zi 40),(zi 1),(zi 21),(zi 4),(zi 1),(zi 3),(zi 0),(zi 0)],6⟩,⟨[(zi 1),(zi 1),(zi 1),(.slice none 0 0),(zi 10),(zi 10),(zi (-1)),(zi 1),(zi 1),(.slice none 0 0),(zi 11),(zi 11)],6⟩],(zu [(za [(zi 0),(zs 11 0 2 capU),(zs 6 0 2 2),(zs 7 0 3 3),(zs 8 0 1 1),(zs 9 0 1 1),(zs 10 0 5 5),(zs 94 0 3 capU),(zs 102 0 2 capU)]),(zi 0)]),[94,102,103,104],[.cells [(zi 1),(zi 10),(zi 1),(zi 11),(zi 1),(zi 12)] [82] 2 true,.cells [(zs 103 0 1 1),(zs 104 0 1 1)] [] 1 true,.cells [(zi 1)] [] 1 true,.cells [(zi 2)] [] 1 true]⟩
theorem fin88:mem88.fine env4=true:=by kernel_rfl
theorem ran88:mem88.run env4 14 60=some (mem88.res,someAll mem88.news,[]):=by kernel_rfl
theorem std88:Stands Tryz.prog (ctxOf Tryz.prog) mem88:=⟨env4,rfl,rfl,goodC _,stub4,fin88,14,60,ran88⟩
end Go.Ab
