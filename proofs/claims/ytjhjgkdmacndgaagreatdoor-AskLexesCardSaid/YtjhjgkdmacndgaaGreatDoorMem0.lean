/- What is proved: runs of functions of this program on the abstract machine, over canonical arguments, by the kernel (printed by a program of this repository). No condition. -/
import Derived.Test.YtjhjgkdmacndgaaGreatDoorFacts
set_option linter.unusedVariables false
set_option linter.unusedSimpArgs false
namespace Go.Ab
open Go.Proofs
def tab0 : List (Nat × List Memo) := []
theorem tabOk0 : StandsAll Tryz.prog (ctxOf Tryz.prog) tab0 := sa0
noncomputable def env0 : Env := ⟨Tryz.prog, ctxOf Tryz.prog, memoStub (tabOf tab0) (stubOf ix)⟩
theorem stub0 : StubOk env0 := stubOk_of (memoStub_ok (stub_says libFacts) (tabOf_ok tabOk0))
-- udometer/ask.Lex: 7111 items, 1 times
def mem0 : Memo := ⟨5, [(zt [108, 101, 116, 32, 97, 32, 61, 32, 115, 105, 116, 101, 40, 49, 44, 32, 49, 48, 44, 32, 49, 51, 41, 59, 10, 116, 101, 108, 108, 32, 97, 32, 45, 32, 50, 32, 42, 32, 115, 105, 116, 101, 40, 50, 44, 32, 52, 44, 32, 52, 41, 59, 10, 102, 111, 114, 32, 100, 32, 102, 114, 111, 109, 32, 49, 48, 32, 116, 111, 32, 49, 50, 32, 100, 111, 10, 32, 32, 116, 101, 115, 116, 32, 115, 105, 116, 101, 40, 49, 44, 32, 100, 44, 32, 100, 41, 32, 60, 32, 115, 105, 116, 101, 40, 49, 44, 32, 100, 32, 43, 32, 49, 44, 32, 100, 32, 43, 32, 49, 41, 59, 10, 101, 110, 100, 59, 10])], 6, [], (zu [(zs 259 0 58 capU), (zi (0)), (zi (-1))]), [259], [.cells [(zi (1)), (zt [108, 101, 116]), (zi (0)), (zi (0)), (zi (1)), (zt [97]), (zi (0)), (zi (4)), (zi (3)), (zt [61]), (zi (0)), (zi (6)), (zi (1)), (zt [115, 105, 116, 101]), (zi (0)), (zi (8)), (zi (3)), (zt [40]), (zi (0)), (zi (12)), (zi (2)), (zt [49]), (zi (1)), (zi (13)), (zi (3)), (zt [44]), (zi (0)), (zi (14)), (zi (2)), (zt [49, 48]), (zi (10)), (zi (16)), (zi (3)), (zt [44]), (zi (0)), (zi (18)), (zi (2)), (zt [49, 51]), (zi (13)), (zi (20)), (zi (3)), (zt [41]), (zi (0)), (zi (22)), (zi (3)), (zt [59]), (zi (0)), (zi (23)), (zi (1)), (zt [116, 101, 108, 108]), (zi (0)), (zi (25)), (zi (1)), (zt [97]), (zi (0)), (zi (30)), (zi (3)), (zt [45]), (zi (0)), (zi (32)), (zi (2)), (zt [50]), (zi (2)), (zi (34)), (zi (3)), (zt [42]), (zi (0)), (zi (36)), (zi (1)), (zt [115, 105, 116, 101]), (zi (0)), (zi (38)), (zi (3)), (zt [40]), (zi (0)), (zi (42)), (zi (2)), (zt [50]), (zi (2)), (zi (43)), (zi (3)), (zt [44]), (zi (0)), (zi (44)), (zi (2)), (zt [52]), (zi (4)), (zi (46)), (zi (3)), (zt [44]), (zi (0)), (zi (47)), (zi (2)), (zt [52]), (zi (4)), (zi (49)), (zi (3)), (zt [41]), (zi (0)), (zi (50)), (zi (3)), (zt [59]), (zi (0)), (zi (51)), (zi (1)), (zt [102, 111, 114]), (zi (0)), (zi (53)), (zi (1)), (zt [100]), (zi (0)), (zi (57)), (zi (1)), (zt [102, 114, 111, 109]), (zi (0)), (zi (59)), (zi (2)), (zt [49, 48]), (zi (10)), (zi (64)), (zi (1)), (zt [116, 111]), (zi (0)), (zi (67)), (zi (2)), (zt [49, 50]), (zi (12)), (zi (70)), (zi (1)), (zt [100, 111]), (zi (0)), (zi (73)), (zi (1)), (zt [116, 101, 115, 116]), (zi (0)), (zi (78)), (zi (1)), (zt [115, 105, 116, 101]), (zi (0)), (zi (83)), (zi (3)), (zt [40]), (zi (0)), (zi (87)), (zi (2)), (zt [49]), (zi (1)), (zi (88)), (zi (3)), (zt [44]), (zi (0)), (zi (89)), (zi (1)), (zt [100]), (zi (0)), (zi (91)), (zi (3)), (zt [44]), (zi (0)), (zi (92)), (zi (1)), (zt [100]), (zi (0)), (zi (94)), (zi (3)), (zt [41]), (zi (0)), (zi (95)), (zi (3)), (zt [60]), (zi (0)), (zi (97)), (zi (1)), (zt [115, 105, 116, 101]), (zi (0)), (zi (99)), (zi (3)), (zt [40]), (zi (0)), (zi (103)), (zi (2)), (zt [49]), (zi (1)), (zi (104)), (zi (3)), (zt [44]), (zi (0)), (zi (105)), (zi (1)), (zt [100]), (zi (0)), (zi (107)), (zi (3)), (zt [43]), (zi (0)), (zi (109)), (zi (2)), (zt [49]), (zi (1)), (zi (111)), (zi (3)), (zt [44]), (zi (0)), (zi (112)), (zi (1)), (zt [100]), (zi (0)), (zi (114)), (zi (3)), (zt [43]), (zi (0)), (zi (116)), (zi (2)), (zt [49]), (zi (1)), (zi (118)), (zi (3)), (zt [41]), (zi (0)), (zi (119)), (zi (3)), (zt [59]), (zi (0)), (zi (120)), (zi (1)), (zt [101, 110, 100]), (zi (0)), (zi (122)), (zi (3)), (zt [59]), (zi (0)), (zi (125))] [256, 251, 248, 245, 239, 235, 230, 227, 221, 217, 212, 209, 204, 201, 196, 192, 189, 184, 181, 176, 173, 168, 165, 160, 153, 148, 142, 137, 131, 126, 121, 116, 113, 110, 104, 101, 95, 92, 87, 84, 79, 75, 69, 65, 60, 55, 52, 49, 43, 40, 34, 31, 26, 23, 18, 14, 9] 4 true]⟩
theorem fin0 : mem0.fine env0 = true := by kernel_rfl
theorem ran0 : mem0.run env0 14 60 = some (mem0.res, someAll mem0.news, []) := by kernel_rfl
theorem std0 : Stands Tryz.prog (ctxOf Tryz.prog) mem0 := ⟨env0, rfl, rfl, goodC _, stub0, fin0, 14, 60, ran0⟩
-- strings.Split: 492 items, 7 times
def mem1 : Memo := ⟨164, [(zt [108, 101, 116, 32, 116, 101, 108, 108, 32, 116, 101, 115, 116, 32, 102, 111, 114, 32, 102, 114, 111, 109, 32, 116, 111, 32, 100, 111, 32, 101, 110, 100, 32, 115, 105, 116, 101, 32, 97, 114, 101, 97]), (zt [32])], 6, [], (zs 6 0 10 10), [6], [.cells [(zt [108, 101, 116]), (zt [116, 101, 108, 108]), (zt [116, 101, 115, 116]), (zt [102, 111, 114]), (zt [102, 114, 111, 109]), (zt [116, 111]), (zt [100, 111]), (zt [101, 110, 100]), (zt [115, 105, 116, 101]), (zt [97, 114, 101, 97])] [] 1 true]⟩
theorem fin1 : mem1.fine env0 = true := by kernel_rfl
theorem ran1 : mem1.run env0 14 60 = some (mem1.res, someAll mem1.news, []) := by kernel_rfl
theorem std1 : Stands Tryz.prog (ctxOf Tryz.prog) mem1 := ⟨env0, rfl, rfl, goodC _, stub0, fin1, 14, 60, ran1⟩
-- udometer/ask.lines: 2304 items, 1 times
def mem7 : Memo := ⟨26, [(zs 6 0 3 capU), (zt [])], 6, [⟨[(zi (1)), (zt [97]), (zi (0)), (zs 7 0 1 1), (.slice none 0 0), (zi (2)), (zt []), (zi (0)), (zs 8 0 1 1), (.slice none 0 0), (zi (4)), (zt [100]), (zi (0)), (zs 9 0 2 2), (zs 10 0 1 capU)], 5⟩, ⟨[(zi (3)), (zi (0)), (zt []), (.slice none 0 0), (zs 11 0 3 capU)], 5⟩, ⟨[(zi (7)), (zi (0)), (zt []), (.slice none 0 0), (zs 12 0 2 2)], 5⟩, ⟨[(zi (1)), (zi (10)), (zt []), (.slice none 0 0), (.slice none 0 0), (zi (1)), (zi (12)), (zt []), (.slice none 0 0), (.slice none 0 0)], 5⟩, ⟨[(zi (3)), (zt []), (zi (1)), (zs 13 0 2 2), (.slice none 0 0)], 5⟩, ⟨[(zi (1)), (zi (1)), (zt []), (.slice none 0 0), (.slice none 0 0), (zi (1)), (zi (10)), (zt []), (.slice none 0 0), (.slice none 0 0), (zi (1)), (zi (13)), (zt []), (.slice none 0 0), (.slice none 0 0)], 5⟩, ⟨[(zi (2)), (zi (0)), (zt [97]), (.slice none 0 0), (.slice none 0 0), (zi (8)), (zi (0)), (zt []), (.slice none 0 0), (zs 14 0 2 2)], 5⟩, ⟨[(zi (3)), (zi (0)), (zt []), (.slice none 0 0), (zs 15 0 3 capU), (zi (3)), (zi (0)), (zt []), (.slice none 0 0), (zs 16 0 3 capU)], 5⟩, ⟨[(zi (1)), (zi (2)), (zt []), (.slice none 0 0), (.slice none 0 0), (zi (3)), (zi (0)), (zt []), (.slice none 0 0), (zs 17 0 3 capU)], 5⟩, ⟨[(zi (1)), (zi (1)), (zt []), (.slice none 0 0), (.slice none 0 0), (zi (2)), (zi (0)), (zt [100]), (.slice none 0 0), (.slice none 0 0), (zi (2)), (zi (0)), (zt [100]), (.slice none 0 0), (.slice none 0 0)], 5⟩, ⟨[(zi (1)), (zi (1)), (zt []), (.slice none 0 0), (.slice none 0 0), (zi (6)), (zi (0)), (zt []), (.slice none 0 0), (zs 18 0 2 2), (zi (6)), (zi (0)), (zt []), (.slice none 0 0), (zs 19 0 2 2)], 5⟩, ⟨[(zi (1)), (zi (2)), (zt []), (.slice none 0 0), (.slice none 0 0), (zi (1)), (zi (4)), (zt []), (.slice none 0 0), (.slice none 0 0), (zi (1)), (zi (4)), (zt []), (.slice none 0 0), (.slice none 0 0)], 5⟩, ⟨[(zi (2)), (zi (0)), (zt [100]), (.slice none 0 0), (.slice none 0 0), (zi (1)), (zi (1)), (zt []), (.slice none 0 0), (.slice none 0 0)], 5⟩, ⟨[(zi (2)), (zi (0)), (zt [100]), (.slice none 0 0), (.slice none 0 0), (zi (1)), (zi (1)), (zt []), (.slice none 0 0), (.slice none 0 0)], 5⟩], (zt [108, 101, 116, 32, 97, 32, 61, 32, 115, 105, 116, 101, 40, 49, 44, 32, 49, 48, 44, 32, 49, 51, 41, 59, 10, 116, 101, 108, 108, 32, 97, 32, 45, 32, 50, 32, 42, 32, 115, 105, 116, 101, 40, 50, 44, 32, 52, 44, 32, 52, 41, 59, 10, 102, 111, 114, 32, 100, 32, 102, 114, 111, 109, 32, 49, 48, 32, 116, 111, 32, 49, 50, 32, 100, 111, 10, 32, 32, 116, 101, 115, 116, 32, 115, 105, 116, 101, 40, 49, 44, 32, 100, 44, 32, 100, 41, 32, 60, 32, 115, 105, 116, 101, 40, 49, 44, 32, 100, 32, 43, 32, 49, 44, 32, 100, 32, 43, 32, 49, 41, 59, 10, 101, 110, 100, 59, 10]), [], []⟩
theorem fin7 : mem7.fine env0 = true := by kernel_rfl
theorem ran7 : mem7.run env0 14 60 = some (mem7.res, someAll mem7.news, []) := by kernel_rfl
theorem std7 : Stands Tryz.prog (ctxOf Tryz.prog) mem7 := ⟨env0, rfl, rfl, goodC _, stub0, fin7, 14, 60, ran7⟩
-- udometer/ask.Sum: 266 items, 3 times
def mem9 : Memo := ⟨73, [(za [(zi (10)), (.slice none 0 0)]), (za [(zi (1)), (.slice none 0 0)])], 6, [], (zu [(za [(zi (11)), (.slice none 0 0)]), (zi (0))]), [], []⟩
theorem fin9 : mem9.fine env0 = true := by kernel_rfl
theorem ran9 : mem9.run env0 14 60 = some (mem9.res, someAll mem9.news, []) := by kernel_rfl
theorem std9 : Stands Tryz.prog (ctxOf Tryz.prog) mem9 := ⟨env0, rfl, rfl, goodC _, stub0, fin9, 14, 60, ran9⟩
-- udometer/ask.Sum: 266 items, 3 times
def mem10 : Memo := ⟨73, [(za [(zi (11)), (.slice none 0 0)]), (za [(zi (1)), (.slice none 0 0)])], 6, [], (zu [(za [(zi (12)), (.slice none 0 0)]), (zi (0))]), [], []⟩
theorem fin10 : mem10.fine env0 = true := by kernel_rfl
theorem ran10 : mem10.run env0 14 60 = some (mem10.res, someAll mem10.news, []) := by kernel_rfl
theorem std10 : Stands Tryz.prog (ctxOf Tryz.prog) mem10 := ⟨env0, rfl, rfl, goodC _, stub0, fin10, 14, 60, ran10⟩
-- udometer/ask.Sum: 266 items, 3 times
def mem11 : Memo := ⟨73, [(za [(zi (12)), (.slice none 0 0)]), (za [(zi (1)), (.slice none 0 0)])], 6, [], (zu [(za [(zi (13)), (.slice none 0 0)]), (zi (0))]), [], []⟩
theorem fin11 : mem11.fine env0 = true := by kernel_rfl
theorem ran11 : mem11.run env0 14 60 = some (mem11.res, someAll mem11.news, []) := by kernel_rfl
theorem std11 : Stands Tryz.prog (ctxOf Tryz.prog) mem11 := ⟨env0, rfl, rfl, goodC _, stub0, fin11, 14, 60, ran11⟩
-- udometer/gauge.Check: 9284 items, 7 times
def mem13 : Memo := ⟨78, [(za [(zs 6 0 2 2), (zs 7 0 3 3), (zs 8 0 1 1), (zs 9 0 1 1), (zs 10 0 5 5), (.slice none 0 0)])], 6, [⟨[(zi (1)), (zi (10)), (zi (10)), (zi (2)), (zi (40)), (zi (20))], 3⟩, ⟨[(zi (11)), (zi (1)), (zi (0)), (zi (1000)), (zi (12)), (zi (1)), (zi (0)), (zi (1000)), (zi (21)), (zi (2)), (zi (0)), (zi (1000))], 4⟩, ⟨[(zi (21)), (zi (0)), (zi (20)), (zi (3))], 4⟩, ⟨[(zi (21)), (zi (5)), (zi (20)), (zi (50)), (zi (100))], 5⟩, ⟨[(zi (11)), (zi (10)), (zi (1)), (zi (1)), (zi (34)), (zi (1)), (zi (11)), (zi (13)), (zi (3)), (zi (1)), (zi (50)), (zi (1)), (zi (12)), (zi (12)), (zi (2)), (zi (1)), (zi (30)), (zi (1)), (zi (21)), (zi (5)), (zi (1)), (zi (1)), (zi (40)), (zi (1)), (zi (21)), (zi (4)), (zi (1)), (zi (3)), (zi (0)), (zi (0))], 6⟩], (zi (0)), [], []⟩
theorem fin13 : mem13.fine env0 = true := by kernel_rfl
theorem ran13 : mem13.run env0 14 60 = some (mem13.res, someAll mem13.news, []) := by kernel_rfl
theorem std13 : Stands Tryz.prog (ctxOf Tryz.prog) mem13 := ⟨env0, rfl, rfl, goodC _, stub0, fin13, 14, 60, ran13⟩
-- udometer/gauge.Check: 9656 items, 3 times
def mem14 : Memo := ⟨78, [(za [(zs 6 0 2 2), (zs 7 0 3 3), (zs 8 0 1 1), (zs 9 0 1 1), (zs 10 0 5 5), (zs 11 0 2 capU)])], 6, [⟨[(zi (1)), (zi (10)), (zi (10)), (zi (2)), (zi (40)), (zi (20))], 3⟩, ⟨[(zi (11)), (zi (1)), (zi (0)), (zi (1000)), (zi (12)), (zi (1)), (zi (0)), (zi (1000)), (zi (21)), (zi (2)), (zi (0)), (zi (1000))], 4⟩, ⟨[(zi (21)), (zi (0)), (zi (20)), (zi (3))], 4⟩, ⟨[(zi (21)), (zi (5)), (zi (20)), (zi (50)), (zi (100))], 5⟩, ⟨[(zi (11)), (zi (10)), (zi (1)), (zi (1)), (zi (34)), (zi (1)), (zi (11)), (zi (13)), (zi (3)), (zi (1)), (zi (50)), (zi (1)), (zi (12)), (zi (12)), (zi (2)), (zi (1)), (zi (30)), (zi (1)), (zi (21)), (zi (5)), (zi (1)), (zi (1)), (zi (40)), (zi (1)), (zi (21)), (zi (4)), (zi (1)), (zi (3)), (zi (0)), (zi (0))], 6⟩, ⟨[(zi (1)), (zi (10)), (zi (1)), (zi (14))], 2⟩], (zi (0)), [], []⟩
theorem fin14 : mem14.fine env0 = true := by kernel_rfl
theorem ran14 : mem14.run env0 14 60 = some (mem14.res, someAll mem14.news, []) := by kernel_rfl
theorem std14 : Stands Tryz.prog (ctxOf Tryz.prog) mem14 := ⟨env0, rfl, rfl, goodC _, stub0, fin14, 14, 60, ran14⟩
-- udometer/gauge.Check: 10072 items, 35 times
def mem15 : Memo := ⟨78, [(za [(zs 6 0 2 2), (zs 7 0 3 3), (zs 8 0 1 1), (zs 9 0 1 1), (zs 10 0 5 5), (zs 11 0 4 capU)])], 6, [⟨[(zi (1)), (zi (10)), (zi (10)), (zi (2)), (zi (40)), (zi (20))], 3⟩, ⟨[(zi (11)), (zi (1)), (zi (0)), (zi (1000)), (zi (12)), (zi (1)), (zi (0)), (zi (1000)), (zi (21)), (zi (2)), (zi (0)), (zi (1000))], 4⟩, ⟨[(zi (21)), (zi (0)), (zi (20)), (zi (3))], 4⟩, ⟨[(zi (21)), (zi (5)), (zi (20)), (zi (50)), (zi (100))], 5⟩, ⟨[(zi (11)), (zi (10)), (zi (1)), (zi (1)), (zi (34)), (zi (1)), (zi (11)), (zi (13)), (zi (3)), (zi (1)), (zi (50)), (zi (1)), (zi (12)), (zi (12)), (zi (2)), (zi (1)), (zi (30)), (zi (1)), (zi (21)), (zi (5)), (zi (1)), (zi (1)), (zi (40)), (zi (1)), (zi (21)), (zi (4)), (zi (1)), (zi (3)), (zi (0)), (zi (0))], 6⟩, ⟨[(zi (1)), (zi (10)), (zi (1)), (zi (14)), (zi (2)), (zi (4)), (zi (2)), (zi (5))], 2⟩], (zi (0)), [], []⟩
theorem fin15 : mem15.fine env0 = true := by kernel_rfl
theorem ran15 : mem15.run env0 14 60 = some (mem15.res, someAll mem15.news, []) := by kernel_rfl
theorem std15 : Stands Tryz.prog (ctxOf Tryz.prog) mem15 := ⟨env0, rfl, rfl, goodC _, stub0, fin15, 14, 60, ran15⟩
-- udometer/flow.Check: 676 items, 7 times
def mem24 : Memo := ⟨149, [(za [(zi (5)), (zs 6 0 14 capU)])], 6, [⟨[(zi (0)), (zi (1)), (zi (30000)), (zi (1)), (zi (0)), (zi (0)), (zi (1)), (zi (2)), (zi (3000)), (zi (2)), (zi (1)), (zi (0)), (zi (2)), (zi (3)), (zi (6000)), (zi (3)), (zi (2)), (zi (0)), (zi (3)), (zi (4)), (zi (3000)), (zi (4)), (zi (3)), (zi (0)), (zi (1)), (zi (2)), (zi (34)), (zi (2)), (zi (1)), (zi (-34)), (zi (2)), (zi (4)), (zi (50)), (zi (4)), (zi (2)), (zi (-50)), (zi (2)), (zi (3)), (zi (30)), (zi (3)), (zi (2)), (zi (-30))], 3⟩], (zi (0)), [], []⟩
theorem fin24 : mem24.fine env0 = true := by kernel_rfl
theorem ran24 : mem24.run env0 14 60 = some (mem24.res, someAll mem24.news, []) := by kernel_rfl
theorem std24 : Stands Tryz.prog (ctxOf Tryz.prog) mem24 := ⟨env0, rfl, rfl, goodC _, stub0, fin24, 14, 60, ran24⟩
-- udometer/flow.Check: 492 items, 13 times
def mem32 : Memo := ⟨149, [(za [(zi (4)), (zs 6 0 10 capU)])], 6, [⟨[(zi (0)), (zi (1)), (zi (12000)), (zi (1)), (zi (0)), (zi (0)), (zi (1)), (zi (2)), (zi (3000)), (zi (2)), (zi (1)), (zi (0)), (zi (2)), (zi (3)), (zi (3000)), (zi (3)), (zi (2)), (zi (0)), (zi (2)), (zi (3)), (zi (80)), (zi (3)), (zi (2)), (zi (-40)), (zi (1)), (zi (2)), (zi (0)), (zi (2)), (zi (1)), (zi (0))], 3⟩], (zi (0)), [], []⟩
theorem fin32 : mem32.fine env0 = true := by kernel_rfl
theorem ran32 : mem32.run env0 14 60 = some (mem32.res, someAll mem32.news, []) := by kernel_rfl
theorem std32 : Stands Tryz.prog (ctxOf Tryz.prog) mem32 := ⟨env0, rfl, rfl, goodC _, stub0, fin32, 14, 60, ran32⟩
-- udometer/flow.Check: 492 items, 17 times
def mem44 : Memo := ⟨149, [(za [(zi (4)), (zs 6 0 10 capU)])], 6, [⟨[(zi (0)), (zi (1)), (zi (9000)), (zi (1)), (zi (0)), (zi (0)), (zi (1)), (zi (2)), (zi (3000)), (zi (2)), (zi (1)), (zi (0)), (zi (2)), (zi (3)), (zi (3000)), (zi (3)), (zi (2)), (zi (0)), (zi (2)), (zi (3)), (zi (40)), (zi (3)), (zi (2)), (zi (-40)), (zi (1)), (zi (2)), (zi (0)), (zi (2)), (zi (1)), (zi (0))], 3⟩], (zi (0)), [], []⟩
theorem fin44 : mem44.fine env0 = true := by kernel_rfl
theorem ran44 : mem44.run env0 14 60 = some (mem44.res, someAll mem44.news, []) := by kernel_rfl
theorem std44 : Stands Tryz.prog (ctxOf Tryz.prog) mem44 := ⟨env0, rfl, rfl, goodC _, stub0, fin44, 14, 60, ran44⟩
-- udometer/flow.solution: 1034 items, 3 times
def mem48 : Memo := ⟨134, [(zi (5)), (zs 6 0 14 capU)], 6, [⟨[(zi (0)), (zi (1)), (zi (30000)), (zi (1)), (zi (0)), (zi (0)), (zi (1)), (zi (2)), (zi (3000)), (zi (2)), (zi (1)), (zi (0)), (zi (2)), (zi (3)), (zi (6000)), (zi (3)), (zi (2)), (zi (0)), (zi (3)), (zi (4)), (zi (3000)), (zi (4)), (zi (3)), (zi (0)), (zi (1)), (zi (2)), (zi (34)), (zi (2)), (zi (1)), (zi (-34)), (zi (2)), (zi (4)), (zi (50)), (zi (4)), (zi (2)), (zi (-50)), (zi (2)), (zi (3)), (zi (30)), (zi (3)), (zi (2)), (zi (-30))], 3⟩], (zu [(zs 7 0 5 5), (.bool true)]), [7], [.cells [(zi (-84)), (zi (-84)), (zi (-50)), (zi (-20)), (zi (0))] [] 1 true]⟩
theorem fin48 : mem48.fine env0 = true := by kernel_rfl
theorem ran48 : mem48.run env0 14 60 = some (mem48.res, someAll mem48.news, []) := by kernel_rfl
theorem std48 : Stands Tryz.prog (ctxOf Tryz.prog) mem48 := ⟨env0, rfl, rfl, goodC _, stub0, fin48, 14, 60, ran48⟩
-- udometer/flow.solution: 584 items, 11 times
def mem51 : Memo := ⟨134, [(zi (4)), (zs 6 0 10 capU)], 6, [⟨[(zi (0)), (zi (1)), (zi (12000)), (zi (1)), (zi (0)), (zi (0)), (zi (1)), (zi (2)), (zi (3000)), (zi (2)), (zi (1)), (zi (0)), (zi (2)), (zi (3)), (zi (3000)), (zi (3)), (zi (2)), (zi (0)), (zi (2)), (zi (3)), (zi (80)), (zi (3)), (zi (2)), (zi (-40)), (zi (1)), (zi (2)), (zi (0)), (zi (2)), (zi (1)), (zi (0))], 3⟩], (zu [(zs 7 0 4 4), (.bool true)]), [7], [.cells [(zi (-40)), (zi (-40)), (zi (-40)), (zi (0))] [] 1 true]⟩
theorem fin51 : mem51.fine env0 = true := by kernel_rfl
theorem ran51 : mem51.run env0 14 60 = some (mem51.res, someAll mem51.news, []) := by kernel_rfl
theorem std51 : Stands Tryz.prog (ctxOf Tryz.prog) mem51 := ⟨env0, rfl, rfl, goodC _, stub0, fin51, 14, 60, ran51⟩
-- udometer/flow.solution: 584 items, 7 times
def mem58 : Memo := ⟨134, [(zi (4)), (zs 6 0 10 capU)], 6, [⟨[(zi (0)), (zi (1)), (zi (9000)), (zi (1)), (zi (0)), (zi (0)), (zi (1)), (zi (2)), (zi (3000)), (zi (2)), (zi (1)), (zi (0)), (zi (2)), (zi (3)), (zi (3000)), (zi (3)), (zi (2)), (zi (0)), (zi (2)), (zi (3)), (zi (40)), (zi (3)), (zi (2)), (zi (-40)), (zi (1)), (zi (2)), (zi (0)), (zi (2)), (zi (1)), (zi (0))], 3⟩], (zu [(zs 7 0 4 4), (.bool true)]), [7], [.cells [(zi (-40)), (zi (-40)), (zi (-40)), (zi (0))] [] 1 true]⟩
theorem fin58 : mem58.fine env0 = true := by kernel_rfl
theorem ran58 : mem58.run env0 14 60 = some (mem58.res, someAll mem58.news, []) := by kernel_rfl
theorem std58 : Stands Tryz.prog (ctxOf Tryz.prog) mem58 := ⟨env0, rfl, rfl, goodC _, stub0, fin58, 14, 60, ran58⟩
-- udometer/flow.solution: 1162 items, 1 times
def mem61 : Memo := ⟨134, [(zi (5)), (zs 6 0 16 capU)], 6, [⟨[(zi (0)), (zi (1)), (zi (30000)), (zi (1)), (zi (0)), (zi (0)), (zi (1)), (zi (2)), (zi (3000)), (zi (2)), (zi (1)), (zi (0)), (zi (2)), (zi (3)), (zi (6000)), (zi (3)), (zi (2)), (zi (0)), (zi (3)), (zi (4)), (zi (3000)), (zi (4)), (zi (3)), (zi (0)), (zi (1)), (zi (2)), (zi (34)), (zi (2)), (zi (1)), (zi (-34)), (zi (2)), (zi (4)), (zi (50)), (zi (4)), (zi (2)), (zi (-50)), (zi (2)), (zi (3)), (zi (30)), (zi (3)), (zi (2)), (zi (-30)), (zi (1)), (zi (2)), (zi (34)), (zi (2)), (zi (4)), (zi (50))], 3⟩], (zu [(zs 7 0 5 5), (.bool true)]), [7], [.cells [(zi (-84)), (zi (-84)), (zi (-50)), (zi (-20)), (zi (0))] [] 1 true]⟩
theorem fin61 : mem61.fine env0 = true := by kernel_rfl
theorem ran61 : mem61.run env0 14 60 = some (mem61.res, someAll mem61.news, []) := by kernel_rfl
theorem std61 : Stands Tryz.prog (ctxOf Tryz.prog) mem61 := ⟨env0, rfl, rfl, goodC _, stub0, fin61, 14, 60, ran61⟩
-- udometer/gauge.Check: 9656 items, 3 times
def mem70 : Memo := ⟨78, [(za [(zs 6 0 2 2), (zs 7 0 3 3), (zs 8 0 1 1), (zs 9 0 1 1), (zs 10 0 5 5), (zs 11 0 2 capU)])], 6, [⟨[(zi (1)), (zi (10)), (zi (10)), (zi (2)), (zi (40)), (zi (20))], 3⟩, ⟨[(zi (11)), (zi (1)), (zi (0)), (zi (1000)), (zi (12)), (zi (1)), (zi (0)), (zi (1000)), (zi (21)), (zi (2)), (zi (0)), (zi (1000))], 4⟩, ⟨[(zi (21)), (zi (0)), (zi (20)), (zi (3))], 4⟩, ⟨[(zi (21)), (zi (5)), (zi (20)), (zi (50)), (zi (100))], 5⟩, ⟨[(zi (11)), (zi (10)), (zi (1)), (zi (1)), (zi (34)), (zi (1)), (zi (11)), (zi (13)), (zi (3)), (zi (1)), (zi (50)), (zi (1)), (zi (12)), (zi (12)), (zi (2)), (zi (1)), (zi (30)), (zi (1)), (zi (21)), (zi (5)), (zi (1)), (zi (1)), (zi (40)), (zi (1)), (zi (21)), (zi (4)), (zi (1)), (zi (3)), (zi (0)), (zi (0))], 6⟩, ⟨[(zi (1)), (zi (10)), (zi (1)), (zi (11))], 2⟩], (zi (0)), [], []⟩
theorem fin70 : mem70.fine env0 = true := by kernel_rfl
theorem ran70 : mem70.run env0 14 60 = some (mem70.res, someAll mem70.news, []) := by kernel_rfl
theorem std70 : Stands Tryz.prog (ctxOf Tryz.prog) mem70 := ⟨env0, rfl, rfl, goodC _, stub0, fin70, 14, 60, ran70⟩
-- udometer/gauge.Check: 10034 items, 35 times
def mem71 : Memo := ⟨78, [(za [(zs 6 0 2 2), (zs 7 0 3 3), (zs 8 0 1 1), (zs 9 0 1 1), (zs 10 0 5 5), (zs 11 0 3 capU)])], 6, [⟨[(zi (1)), (zi (10)), (zi (10)), (zi (2)), (zi (40)), (zi (20))], 3⟩, ⟨[(zi (11)), (zi (1)), (zi (0)), (zi (1000)), (zi (12)), (zi (1)), (zi (0)), (zi (1000)), (zi (21)), (zi (2)), (zi (0)), (zi (1000))], 4⟩, ⟨[(zi (21)), (zi (0)), (zi (20)), (zi (3))], 4⟩, ⟨[(zi (21)), (zi (5)), (zi (20)), (zi (50)), (zi (100))], 5⟩, ⟨[(zi (11)), (zi (10)), (zi (1)), (zi (1)), (zi (34)), (zi (1)), (zi (11)), (zi (13)), (zi (3)), (zi (1)), (zi (50)), (zi (1)), (zi (12)), (zi (12)), (zi (2)), (zi (1)), (zi (30)), (zi (1)), (zi (21)), (zi (5)), (zi (1)), (zi (1)), (zi (40)), (zi (1)), (zi (21)), (zi (4)), (zi (1)), (zi (3)), (zi (0)), (zi (0))], 6⟩, ⟨[(zi (1)), (zi (10)), (zi (1)), (zi (11)), (zi (1)), (zi (12))], 2⟩], (zi (0)), [], []⟩
theorem fin71 : mem71.fine env0 = true := by kernel_rfl
theorem ran71 : mem71.run env0 14 60 = some (mem71.res, someAll mem71.news, []) := by kernel_rfl
theorem std71 : Stands Tryz.prog (ctxOf Tryz.prog) mem71 := ⟨env0, rfl, rfl, goodC _, stub0, fin71, 14, 60, ran71⟩
-- udometer/flow.Check: 768 items, 4 times
def mem80 : Memo := ⟨149, [(za [(zi (6)), (zs 6 0 16 capU)])], 6, [⟨[(zi (0)), (zi (1)), (zi (30000)), (zi (1)), (zi (0)), (zi (0)), (zi (1)), (zi (2)), (zi (3000)), (zi (2)), (zi (1)), (zi (0)), (zi (2)), (zi (3)), (zi (3000)), (zi (3)), (zi (2)), (zi (0)), (zi (3)), (zi (4)), (zi (3000)), (zi (4)), (zi (3)), (zi (0)), (zi (4)), (zi (5)), (zi (3000)), (zi (5)), (zi (4)), (zi (0)), (zi (1)), (zi (2)), (zi (34)), (zi (2)), (zi (1)), (zi (-34)), (zi (2)), (zi (5)), (zi (50)), (zi (5)), (zi (2)), (zi (-50)), (zi (2)), (zi (4)), (zi (30)), (zi (4)), (zi (2)), (zi (-30))], 3⟩], (zi (0)), [], []⟩
theorem fin80 : mem80.fine env0 = true := by kernel_rfl
theorem ran80 : mem80.run env0 14 60 = some (mem80.res, someAll mem80.news, []) := by kernel_rfl
theorem std80 : Stands Tryz.prog (ctxOf Tryz.prog) mem80 := ⟨env0, rfl, rfl, goodC _, stub0, fin80, 14, 60, ran80⟩
-- udometer/flow.solution: 1164 items, 3 times
def mem100 : Memo := ⟨134, [(zi (6)), (zs 6 0 16 capU)], 6, [⟨[(zi (0)), (zi (1)), (zi (30000)), (zi (1)), (zi (0)), (zi (0)), (zi (1)), (zi (2)), (zi (3000)), (zi (2)), (zi (1)), (zi (0)), (zi (2)), (zi (3)), (zi (3000)), (zi (3)), (zi (2)), (zi (0)), (zi (3)), (zi (4)), (zi (3000)), (zi (4)), (zi (3)), (zi (0)), (zi (4)), (zi (5)), (zi (3000)), (zi (5)), (zi (4)), (zi (0)), (zi (1)), (zi (2)), (zi (34)), (zi (2)), (zi (1)), (zi (-34)), (zi (2)), (zi (5)), (zi (50)), (zi (5)), (zi (2)), (zi (-50)), (zi (2)), (zi (4)), (zi (30)), (zi (4)), (zi (2)), (zi (-30))], 3⟩], (zu [(zs 7 0 6 6), (.bool true)]), [7], [.cells [(zi (-84)), (zi (-84)), (zi (-50)), (zi (-20)), (zi (-20)), (zi (0))] [] 1 true]⟩
theorem fin100 : mem100.fine env0 = true := by kernel_rfl
theorem ran100 : mem100.run env0 14 60 = some (mem100.res, someAll mem100.news, []) := by kernel_rfl
theorem std100 : Stands Tryz.prog (ctxOf Tryz.prog) mem100 := ⟨env0, rfl, rfl, goodC _, stub0, fin100, 14, 60, ran100⟩
-- slices.ContainsFunc[[]int,int]: 154 items, 3 times
def mem102 : Memo := ⟨153, [(zs 6 0 6 capU), (zf 259 [] [])], 6, [⟨[(zi (0)), (zi (0)), (zi (0)), (zi (0)), (zi (0)), (zi (0))], 1⟩], (.bool false), [], []⟩
theorem fin102 : mem102.fine env0 = true := by kernel_rfl
theorem ran102 : mem102.run env0 14 60 = some (mem102.res, someAll mem102.news, []) := by kernel_rfl
theorem std102 : Stands Tryz.prog (ctxOf Tryz.prog) mem102 := ⟨env0, rfl, rfl, goodC _, stub0, fin102, 14, 60, ran102⟩
-- slices.ContainsFunc[[]int,int]: 302 items, 5 times
def mem105 : Memo := ⟨153, [(zs 6 0 10 10), (zf 258 [] [])], 6, [⟨[(zi (0)), (zi (0)), (zi (0)), (zi (0)), (zi (0)), (zi (0)), (zi (0)), (zi (0)), (zi (0)), (zi (0))], 1⟩], (.bool false), [], []⟩
theorem fin105 : mem105.fine env0 = true := by kernel_rfl
theorem ran105 : mem105.run env0 14 60 = some (mem105.res, someAll mem105.news, []) := by kernel_rfl
theorem std105 : Stands Tryz.prog (ctxOf Tryz.prog) mem105 := ⟨env0, rfl, rfl, goodC _, stub0, fin105, 14, 60, ran105⟩
-- udometer/flow.solution: 1356 items, 1 times
def mem107 : Memo := ⟨134, [(zi (6)), (zs 6 0 19 capU)], 6, [⟨[(zi (0)), (zi (1)), (zi (30000)), (zi (1)), (zi (0)), (zi (0)), (zi (1)), (zi (2)), (zi (3000)), (zi (2)), (zi (1)), (zi (0)), (zi (2)), (zi (3)), (zi (3000)), (zi (3)), (zi (2)), (zi (0)), (zi (3)), (zi (4)), (zi (3000)), (zi (4)), (zi (3)), (zi (0)), (zi (4)), (zi (5)), (zi (3000)), (zi (5)), (zi (4)), (zi (0)), (zi (1)), (zi (2)), (zi (34)), (zi (2)), (zi (1)), (zi (-34)), (zi (2)), (zi (5)), (zi (50)), (zi (5)), (zi (2)), (zi (-50)), (zi (2)), (zi (4)), (zi (30)), (zi (4)), (zi (2)), (zi (-30)), (zi (3)), (zi (4)), (zi (0)), (zi (1)), (zi (2)), (zi (34)), (zi (4)), (zi (2)), (zi (-30))], 3⟩], (zu [(zs 7 0 6 6), (.bool true)]), [7], [.cells [(zi (-84)), (zi (-84)), (zi (-50)), (zi (-20)), (zi (-20)), (zi (0))] [] 1 true]⟩
theorem fin107 : mem107.fine env0 = true := by kernel_rfl
theorem ran107 : mem107.run env0 14 60 = some (mem107.res, someAll mem107.news, []) := by kernel_rfl
theorem std107 : Stands Tryz.prog (ctxOf Tryz.prog) mem107 := ⟨env0, rfl, rfl, goodC _, stub0, fin107, 14, 60, ran107⟩
-- udometer/flow.are: 168 items, 7 times
def mem116 : Memo := ⟨157, [(za [(zi (5)), (zs 6 0 14 capU)]), (zs 7 0 5 5)], 6, [⟨[(zi (0)), (zi (1)), (zi (30000)), (zi (1)), (zi (0)), (zi (0)), (zi (1)), (zi (2)), (zi (3000)), (zi (2)), (zi (1)), (zi (0)), (zi (2)), (zi (3)), (zi (6000)), (zi (3)), (zi (2)), (zi (0)), (zi (3)), (zi (4)), (zi (3000)), (zi (4)), (zi (3)), (zi (0)), (zi (1)), (zi (2)), (zi (34)), (zi (2)), (zi (1)), (zi (-34)), (zi (2)), (zi (4)), (zi (50)), (zi (4)), (zi (2)), (zi (-50)), (zi (2)), (zi (3)), (zi (30)), (zi (3)), (zi (2)), (zi (-30))], 3⟩, ⟨[(zi (0)), (zi (0)), (zi (34)), (zi (64)), (zi (84))], 1⟩], (.bool true), [], []⟩
theorem fin116 : mem116.fine env0 = true := by kernel_rfl
theorem ran116 : mem116.run env0 14 60 = some (mem116.res, someAll mem116.news, []) := by kernel_rfl
theorem std116 : Stands Tryz.prog (ctxOf Tryz.prog) mem116 := ⟨env0, rfl, rfl, goodC _, stub0, fin116, 14, 60, ran116⟩
-- udometer/ask.Parse: 1705 items, 0 times
def mem121 : Memo := ⟨8, [(zt [116, 101, 108, 108, 32, 115, 105, 116, 101, 40, 49, 44, 32, 50, 41])], 6, [], (zu [(.slice none 0 0), (zi (7)), (zi (14))]), [], []⟩
theorem fin121 : mem121.fine env0 = true := by kernel_rfl
theorem ran121 : mem121.run env0 14 60 = some (mem121.res, someAll mem121.news, []) := by kernel_rfl
theorem std121 : Stands Tryz.prog (ctxOf Tryz.prog) mem121 := ⟨env0, rfl, rfl, goodC _, stub0, fin121, 14, 60, ran121⟩
-- udometer/ask.Parse: 2340 items, 0 times
def mem123 : Memo := ⟨8, [(zt [116, 101, 108, 108, 32, 50, 32, 42, 32, 51, 32, 45, 32, 56, 59])], 6, [], (zu [(zs 114 0 1 capU), (zi (0)), (zi (-1))]), [114, 106, 101, 78], [.cells [(zi (2)), (zt []), (zi (0)), (zs 106 0 1 1), (.slice none 0 0)] [] 5 true, .cells [(zi (7)), (zi (0)), (zt []), (.slice none 0 0), (zs 101 0 2 2)] [] 5 true, .cells [(zi (8)), (zi (0)), (zt []), (.slice none 0 0), (zs 78 0 2 2), (zi (1)), (zi (8)), (zt []), (.slice none 0 0), (.slice none 0 0)] [] 5 true, .cells [(zi (1)), (zi (2)), (zt []), (.slice none 0 0), (.slice none 0 0), (zi (1)), (zi (3)), (zt []), (.slice none 0 0), (.slice none 0 0)] [] 5 true]⟩
theorem fin123 : mem123.fine env0 = true := by kernel_rfl
theorem ran123 : mem123.run env0 14 60 = some (mem123.res, someAll mem123.news, []) := by kernel_rfl
theorem std123 : Stands Tryz.prog (ctxOf Tryz.prog) mem123 := ⟨env0, rfl, rfl, goodC _, stub0, fin123, 14, 60, ran123⟩
end Go.Ab
