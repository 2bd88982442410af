/- What is proved: AskJudges returns true at every input and leaves its arguments as they read; the tied card. Conditions: the row's own cells. -/
import Derived.Test.YtemomehoikbegaaGreatDoorRun
import Derived.Test.YtemomehoikbegaaGreatDoorRoads
import Derived.Test.YtemomehoikbegaaGreatDoorShut
import Derived.ChangeSame
import Derived.ChangeVars
import Derived.JoinedAt
import Derived.RowKit
import Derived.RowKit3
import Derived.RowKitTokens
import Derived.Lib.SmallJoins
import Derived.LaidLaws
import Derived.LaidHandle
import Derived.Lay
import Derived.MakeChecks
import Derived.HandedShaped

namespace Go.Ab
open Go.Proofs
theorem endsTrue_inv {x : Option (Ab.End × Mode? × H)} (h : endsTrue x = true) : ∃ u h', x = some (.ret (.bool true), u, h') ∧ h'.wr = [] := by
  unfold endsTrue at h
  split at h
  · rename_i u h'
    split at h
    · rename_i hw; exact ⟨u, h', rfl, hw⟩
    · cases h
  · cases h
theorem sane_of {E : Env} (hP : E.P = Tryz.prog) (g : GoodC E) (hst : StubOk E) {n d : Nat} (hs : E.stub 5 [] (h0 6) = none) (h : endsTrue (call E n d 5 [] (h0 6)) = true) : Sane := by
  intro w hw
  obtain ⟨u, h', e, hwr⟩ := endsTrue_inv h
  exact calls_of (args' := []) hP g hst hs e hwr (fun _ => .nil) hw (fun ρ v' hv => by cases hv; rfl)
theorem sane : Sane := sane_of rfl (goodC _) stubX (by kernel_rfl) ranX
end Go.Ab
namespace Go.Proofs.YtemomehoikbegaaGreatDoor
open Go.ChangeShapes Go.WideShapes Go.ChangeAt Go.RowKit Go.Joins
theorem own : ownKnob Tryz.prog.godebug = none := by kernel_rfl
theorem cells23 : Tryz.prog.cellsOf 23 = 2 := by kernel_rfl
theorem globTab : Tryz.prog.globalNamed "math/bits.deBruijn64tab" = some 5 := by kernel_rfl
theorem size_of_laid {W : World} (h : laidMet Tryz.prog Rows.askJudgesRow.laid W) : 6 ≤ W.heap.size := by
  obtain ⟨ps, hv, _⟩ := h
  obtain ⟨_, _, _, _, _, _, _, _, _, _, hrest, _⟩ := hv
  obtain ⟨_, _, cs, _, _, _, _, _, hvar, _⟩ := hrest
  have hc := World.var?_cell globTab hvar
  unfold World.var? at hvar
  rw [globTab] at hvar
  simp only [Option.bind_some] at hvar
  cases hx : W.heap[5]? with
  | none => rw [hx] at hvar; cases hvar
  | some o => have := (Array.getElem?_eq_some_iff.1 hx).1; omega
set_option maxRecDepth 100000 in
theorem lifted (os : Os) (started : os.Started) (H : Type) (enc : TypeId × Value → H) :
    ReturnsInHanded {} Tryz.checked os 3 .any (fun w args => (Rows.askJudgesSpec.pre enc Tryz.prog Tryz.f3 [] false w args ∧ laidMetH Tryz.prog Rows.askJudgesRow.laid w) ∧ sizedMet enc Tryz.prog Tryz.f3 (OpenSpec.ofChange Rows.askJudgesSpec) false w args)
      (Rows.askJudgesSpec.post enc Tryz.prog Tryz.f3 false true false false) := by
  refine returnsInHanded_of_change_and (C := Tryz.checked) (X := fun w _ => laidMetH Tryz.prog Rows.askJudgesRow.laid w) (fun _ _ _ hh h => h.of_heap hh) own started (by kernel_rfl) Tryz.func3
    (ChangeSpec.witness_shaped (enc := enc) (C := Tryz.checked) (os := os) (X := fun w _ => laidMetH Tryz.prog Rows.askJudgesRow.laid w) false (World.laidAll Tryz.prog os Rows.askJudgesRow.laid) #[.int .i64 0, .agg #[.int .i64 0, .int .i64 0]] 8 (World.laidAll_os _ _ _)
      (World.shaped_of_ZipB (by kernel_rfl) (by kernel_rfl)) (by kernel_rfl) (by kernel_rfl) (by kernel_rfl)
      (by rw [MakeChecks.laidMetH_plain _ _ _ (by kernel_rfl)]; exact laidMet_laidAll _ (by kernel_rfl) (by kernel_rfl))) ?_
  intro W base args ds gs before hval0 hW _ _ hL _
  have hval : ∀ (j : Nat) t v, Tryz.f3.params[j]? = some t → args[j]? = some v → Value.okWide Tryz.prog W .any base t v := hval0
  have hW' := hW
  obtain ⟨p, q, hA0, hV, rfl, _, _⟩ := hW
  have hA : DataW.TrodAll enc Tryz.prog W 0 (fun _ => true) true Tryz.f3.params.toList args.toList ds p := hA0
  rw [Tryz.params3] at hA hval
  obtain ⟨v0, v1, d0, d1, p0, p1, rfl, rfl, rfl, h0, h1⟩ := trodAll_two hA
  obtain ⟨rfl, rfl⟩ := trodVars_none hV
  obtain ⟨op, rfl, rfl, rfl, wop⟩ := open_int Tryz.underlying3 (hval 0 3 v0 rfl rfl) h0
  obtain ⟨c0, c1, y0, y1, m, rfl, rfl, rfl, hy0, hy1⟩ := open_agg2 Tryz.underlying23 (by kernel_rfl) cells23 (hval 1 23 v1 rfl rfl) h1
  obtain ⟨lo, e0, rfl, wlo⟩ := DataW.trod_int Tryz.underlying3 hy0
  obtain ⟨hi, e1, rfl, whi⟩ := DataW.trod_int Tryz.underlying3 hy1
  simp at e0 e1
  subst e0 e1
  clear hA0 hval0
  simp only [List.append_nil] at hW'
  rw [MakeChecks.laidMetH_plain _ _ _ (by kernel_rfl)] at hL
  have hsz := size_of_laid hL
  have structReads : ∀ (W' : World) (sp : Nat → Bool), DataW.Trod enc Tryz.prog W' 0 sp true 23 (.agg #[.int .i64 lo, .int .i64 hi]) (.agg [.lit (.int .i64 lo), .lit (.int .i64 hi)]) [] := fun W' sp =>
    shut_agg2 (y0 := (.lit (.int .i64 lo), [])) (y1 := (.lit (.int .i64 hi), [])) Tryz.underlying23 (by kernel_rfl) cells23 ⟨1, by simp [DataW.trod, Tryz.underlying3, wlo]⟩ ⟨1, by simp [DataW.trod, Tryz.underlying3, whi]⟩
  have hlaw : Calls Tryz.prog 3 #[.int .i64 op, .agg #[.int .i64 lo, .int .i64 hi]] W fun e w' => e = .returned (.bool true) ∧ Below W.heap.size W w' := by
    by_cases h1 : op < 0 ∨ 6 < op
    · exact Go.Ab.law_out Go.Ab.sane op lo hi W hsz h1
    · by_cases h2 : hi < lo
      · exact Go.Ab.law_gt Go.Ab.sane op lo hi W hsz (by omega) (by omega) h2
      · exact Go.Ab.law_in Go.Ab.sane op lo hi W hsz (by omega) (by omega) (by omega)
  refine hlaw.mono fun e W' ⟨he, hb⟩ => ?_
  subst he
  exact ⟨_, rfl, _, _, _, [], [], [], hW', trodAll_mk1 (shut_bool Tryz.underlying4 _), trodAll_mk2 (shut_int Tryz.underlying3 wop) (structReads _ _), rfl, hb.frame _, fun h => by cases h⟩
theorem said : Rows.AskJudgesSaid :=
  OpenClaim.holds_of_wide 3 Tryz.f3 rfl rfl rfl rfl rfl rfl rfl ⟨rfl, rfl, rfl, rfl, rfl⟩ rfl rfl rfl rfl rfl named Tryz.func3 closed inst wrap
    (fun os started H enc _ => lifted os started H enc)
theorem askJudges_holds : Rows.AskJudgesCardSaid :=
  Claim7.holds_tied_plain_at .later [] [.data, .data, .data, .data, .pinned] true (true, "4537cea42f04e6d4bbe0e12e152a415ac6be5102f491286cbd7ba1533d766fa2") true said (fun _ h => by cases h) wfText (fun _ h => by cases h) askJudges_row_tie rfl ⟨rfl, rfl⟩ mainIs rfl
    (fun f fn hf hfn => by
      obtain rfl : f = 3 := Option.some.inj (named.symm.trans hf) |>.symm
      obtain rfl : fn = Tryz.f3 := (Option.some.inj (Tryz.func3.symm.trans hfn)).symm
      exact ⟨looks, fun j t ht => by
        rw [Tryz.params3] at ht
        have hm : t ∈ [3, 23] := by simpa using Array.mem_of_getElem? ht
        simp only [List.mem_cons, List.mem_nil_iff, or_false] at hm
        rcases hm with rfl | rfl
        · exact wants3
        · exact wants23⟩)
    goesBy
end Go.Proofs.YtemomehoikbegaaGreatDoor
