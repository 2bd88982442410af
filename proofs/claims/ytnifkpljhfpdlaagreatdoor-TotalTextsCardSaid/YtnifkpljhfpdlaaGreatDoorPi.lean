/- What is proved: what functions of the program do (walks, by hand and by programs of this repository). Conditions stand in each theorem. -/
import Derived.Test.YtnifkpljhfpdlaaGreatDoorPe
set_option linter.unusedVariables false
set_option linter.unusedSimpArgs false
namespace Go.Proofs.Tt.P
open Go Go.Proofs.Tt.Sh Go.RowKit Go.Proofs.YtnifkpljhfpdlaaGreatDoorW.PrintWords Go.Proofs.YtnifkpljhfpdlaaGreatDoorW.PrintLast Go.Proofs.YtnifkpljhfpdlaaGreatDoorW.PrintMore
open Go.Tt (Pt)
attribute [local go_sem] max2_int min2_int max_two min_two
set_option linter.unusedVariables false
set_option linter.unusedSimpArgs false
set_option maxHeartbeats 8000000 in
set_option maxRecDepth 100000 in
theorem turnR_calls (a b c d e f : Int) (w : World) : Calls Tryz.prog 217 #[.agg #[.int .i64 a, .int .i64 b], .agg #[.int .i64 c, .int .i64 d], .agg #[.int .i64 e, .int .i64 f]] w fun en w' => ∃ t, en = .returned (.int .i64 t) ∧ field_turn.f a b c d e f = some t ∧ Below w.heap.size w w' := by
  have hu35 := Tryz.underlying35
  go_enter Tryz.func217, Tryz.ntmps217
  go_upto_region 0 with fail
  go_cut [3, 4, 5, 6] from 3 to 6 (fun s3 s4 s5 s6 wc => ∃ g3 g4 g5, s3 = .pointer (some ⟨g3, 0, none⟩) ∧ s4 = .pointer (some ⟨g4, 0, none⟩) ∧ s5 = .pointer (some ⟨g5, 0, none⟩) ∧ s6 = .int .i64 0 ∧ wc.heap[g3]? = some (.cells #[.int .i64 a, .int .i64 b] 35 (0, 0)) ∧ wc.heap[g4]? = some (.cells #[.int .i64 c, .int .i64 d] 35 (0, 0)) ∧ wc.heap[g5]? = some (.cells #[.int .i64 e, .int .i64 f] 35 (0, 0)) ∧ Below w.heap.size w wc)
  case first =>
    go_wp2_with fail
    go_meet
    case rel => exact ⟨_, _, _, rfl, rfl, rfl, rfl, blk_alloc (blk_alloc (blk_new w _) _) _, (by simpa using blk_alloc (blk_new (w.alloc _) _) _), (by simpa using blk_new ((w.alloc _).alloc _) _), (((Below.refl _ w).alloc (Nat.le_refl _) _).alloc (by simp) _).alloc (by simp; omega) _⟩
  obtain ⟨g3, g4, g5, rfl, rfl, rfl, rfl, B3, B4, B5, HB⟩ := hcut
  obtain ⟨z30, z31, _, _⟩ := cb2 B3
  obtain ⟨z40, z41, _, _⟩ := cb2 B4
  obtain ⟨z50, z51, _, _⟩ := cb2 B5
  go_wp2
  go_ret
  exact ⟨_, rfl, rfl, HB⟩
set_option maxHeartbeats 8000000 in
set_option maxRecDepth 100000 in
theorem onR_calls (a b c d p q : Int) (w : World) : Calls Tryz.prog 156 #[.agg #[.int .i64 a, .int .i64 b], .agg #[.int .i64 c, .int .i64 d], .agg #[.int .i64 p, .int .i64 q]] w fun en w' => en = .returned (.bool (onB a b c d p q)) ∧ Below w.heap.size w w' := by
  have hu35 := Tryz.underlying35
  go_enter Tryz.func156, Tryz.ntmps156
  go_upto_region 0 with fail
  go_cut [3, 4, 5, 6] from 3 to 6 (fun s3 s4 s5 s6 wc => ∃ g3 g4 g5, s3 = .pointer (some ⟨g3, 0, none⟩) ∧ s4 = .pointer (some ⟨g4, 0, none⟩) ∧ s5 = .pointer (some ⟨g5, 0, none⟩) ∧ s6 = .bool false ∧ wc.heap[g3]? = some (.cells #[.int .i64 a, .int .i64 b] 35 (0, 0)) ∧ wc.heap[g4]? = some (.cells #[.int .i64 c, .int .i64 d] 35 (0, 0)) ∧ wc.heap[g5]? = some (.cells #[.int .i64 p, .int .i64 q] 35 (0, 0)) ∧ Below w.heap.size w wc)
  case first =>
    go_wp2_with fail
    go_meet
    case rel => exact ⟨_, _, _, rfl, rfl, rfl, rfl, blk_alloc (blk_alloc (blk_new w _) _) _, (by simpa using blk_alloc (blk_new (w.alloc _) _) _), (by simpa using blk_new ((w.alloc _).alloc _) _), (((Below.refl _ w).alloc (Nat.le_refl _) _).alloc (by simp) _).alloc (by simp; omega) _⟩
  obtain ⟨g3, g4, g5, rfl, rfl, rfl, rfl, B3, B4, B5, HB⟩ := hcut
  replace B3 := ak B3
  replace B4 := ak B4
  replace B5 := ak B5
  replace HB := ak HB
  obtain ⟨z30, z31, _, _⟩ := cb2 B3.out
  obtain ⟨z40, z41, _, _⟩ := cb2 B4.out
  obtain ⟨z50, z51, _, _⟩ := cb2 B5.out
  go_wp2_with (first | (go_at_call 217; (with_reducible refine (turnR_calls a b c d p q _).mono ?_); rintro en w2 ⟨t, rfl, ht, hb2⟩; replace ht := ak ht; replace HB := ak (below_step HB.out hb2); clear z30 z31 z40 z41 z50 z51; replace B3 := ak (blk_below B3.out hb2); replace B4 := ak (blk_below B4.out hb2); replace B5 := ak (blk_below B5.out hb2); obtain ⟨z30, z31, _, _⟩ := cb2 B3.out; obtain ⟨z40, z41, _, _⟩ := cb2 B4.out; obtain ⟨z50, z51, _, _⟩ := cb2 B5.out; clear hb2) | fail)
  all_goals go_ret
  all_goals refine ⟨congrArg (fun b => Ending.returned (Value.bool b)) ?_, HB.out⟩
  all_goals (
    have ht := ht.out
    clear HB B3 B4 B5
    unfold onB
    rw [ht]
    rw [Bool.eq_iff_iff]
    simp only [Bool.and_eq_true, decide_eq_true_eq, Option.some.injEq, Bool.false_eq_true]
    repeat' split
    all_goals (first | omega | (simp; omega)))
end Go.Proofs.Tt.P
namespace Go.Proofs.Tt.P
open Go Go.Proofs.Tt.Sh Go.RowKit Go.Proofs.YtnifkpljhfpdlaaGreatDoorW.PrintWords Go.Proofs.YtnifkpljhfpdlaaGreatDoorW.PrintLast Go.Proofs.YtnifkpljhfpdlaaGreatDoorW.PrintMore
open Go.Tt (Pt)
set_option linter.unusedVariables false
set_option linter.unusedSimpArgs false
def crs_T : Bool × List (List Nat × List Nat) := (true, [([], []), ([], []), ([], []), ([0, 1, 2], [0, 1, 2]), ([3, 3], [3]), ([], []), ([], []), ([], []), ([5, 6, 7, 4], [5, 6, 7]), ([8, 8], [8]), ([4, 9], [4, 9]), ([10], [10]), ([11, 9], [11]), ([12], [12]), ([12], [12]), ([12], [12]), ([13, 14, 15, 12, 12], [12, 13, 14, 15]), ([16, 16, 12], [12, 16]), ([12], [12]), ([12], [12]), ([12], [12]), ([18, 19, 20, 17, 12], [12, 18, 19, 20]), ([21, 21, 12], [12, 21]), ([17, 22, 12], [12, 17, 22]), ([23, 12], [12, 23]), ([12, 24], [12, 24]), ([25, 22, 0, 1, 2, 3, 4, 5, 6, 7, 8, 9, 10, 11, 12, 13, 14, 15, 16, 17, 18, 19, 20, 21, 22, 23, 24, 25], [25])])
def crs_B : List Nat := [0, 0, 0, 7, 15, 0, 0, 0, 255, 511, 1023, 2047, 4095, 8191, 8191, 8191, 65535, 131071, 8191, 8191, 8191, 2097151, 4194303, 8388607, 16777215, 33554431, 67108863]
theorem crs_tab : rtab .any (opsOf Tryz.f218 1) = crs_T := by kernel_rfl
theorem crs_bits : waitsOk crs_T.2 crs_B = true := by kernel_rfl
theorem held4 {w : World} {g4 g5 g6 g7 : Nat} {t : TypeId} {a b c d e f g h : Value} (h4 : w.heap[g4]? = some (.cells #[a, b] t (0, 0))) (h5 : w.heap[g5]? = some (.cells #[c, d] t (0, 0))) (h6 : w.heap[g6]? = some (.cells #[e, f] t (0, 0))) (h7 : w.heap[g7]? = some (.cells #[g, h] t (0, 0))) :
    w.cell? ⟨g4, 0, none⟩ = some a ∧ w.cell? ⟨g4, 1, none⟩ = some b ∧ w.cell? ⟨g5, 0, none⟩ = some c ∧ w.cell? ⟨g5, 1, none⟩ = some d ∧ w.cell? ⟨g6, 0, none⟩ = some e ∧ w.cell? ⟨g6, 1, none⟩ = some f ∧ w.cell? ⟨g7, 0, none⟩ = some g ∧ w.cell? ⟨g7, 1, none⟩ = some h :=
  ⟨(blk_cell h4 0).trans rfl, (blk_cell h4 1).trans rfl, (blk_cell h5 0).trans rfl, (blk_cell h5 1).trans rfl, (blk_cell h6 0).trans rfl, (blk_cell h6 1).trans rfl, (blk_cell h7 0).trans rfl, (blk_cell h7 1).trans rfl⟩
theorem sgT (t : Int) : (cmp_Compare_int.f t 0).getD 0 = if t < 0 then -1 else if t > 0 then 1 else 0 := by
  unfold cmp_Compare_int.f cmp_isNaN_int.f
  simp
  split
  · rfl
  · split <;> rfl
theorem sgI_turn {a b c d e f t : Int} (h : field_turn.f a b c d e f = some t) : sgI a b c d e f = if t < 0 then -1 else if t > 0 then 1 else 0 := by
  rw [← sgT]
  unfold sgI field_sign.f
  rw [h]
  simp only [Option.bind_some]
  obtain ⟨r, hr⟩ := compare_some t 0
  rw [hr]; rfl
set_option maxHeartbeats 8000000 in
set_option maxRecDepth 100000 in
theorem signR_calls {a b c d e f t : Int} (h : field_turn.f a b c d e f = some t) (w : World) : Calls Tryz.prog 257 #[.int .i64 t] w fun en w' => en = .returned (.int .i64 (sgI a b c d e f)) ∧ Below w.heap.size w w' := by
  have hs := sgI_turn h
  replace hs := ak hs
  go_enter Tryz.func257, Tryz.ntmps257
  go_wp2
  all_goals go_ret
  all_goals refine ⟨congrArg (fun n => Ending.returned (Value.int .i64 n)) ?_, Below.refl _ _⟩
  all_goals (rw [hs.out]; first | rfl | (repeat' split) <;> first | rfl | omega)
def crossB (a b c d e f g h : Int) : Bool := (wrap64 (sgI a b c d e f * sgI a b c d g h) == -1) && (wrap64 (sgI e f g h a b * sgI e f g h c d) == -1)
set_option maxHeartbeats 8000000 in
set_option maxRecDepth 100000 in
theorem cross_calls (a b c d e f g h : Int) (w : World) : Calls Tryz.prog 218 #[.agg #[.int .i64 a, .int .i64 b], .agg #[.int .i64 c, .int .i64 d], .agg #[.int .i64 e, .int .i64 f], .agg #[.int .i64 g, .int .i64 h]] w fun en w' => en = .returned (.bool (crossB a b c d e f g h)) ∧ Below w.heap.size w w' := by
  have hu35 := Tryz.underlying35
  go_enter Tryz.func218, Tryz.ntmps218
  go_upto_region 0 with fail
  go_cut [4, 5, 6, 7, 8] from 4 to 8 (fun s4 s5 s6 s7 s8 wc => ∃ g4 g5 g6 g7, s4 = .pointer (some ⟨g4, 0, none⟩) ∧ s5 = .pointer (some ⟨g5, 0, none⟩) ∧ s6 = .pointer (some ⟨g6, 0, none⟩) ∧ s7 = .pointer (some ⟨g7, 0, none⟩) ∧ s8 = .bool false ∧ wc.heap[g4]? = some (.cells #[.int .i64 a, .int .i64 b] 35 (0, 0)) ∧ wc.heap[g5]? = some (.cells #[.int .i64 c, .int .i64 d] 35 (0, 0)) ∧ wc.heap[g6]? = some (.cells #[.int .i64 e, .int .i64 f] 35 (0, 0)) ∧ wc.heap[g7]? = some (.cells #[.int .i64 g, .int .i64 h] 35 (0, 0)) ∧ Below w.heap.size w wc)
  case first =>
    go_wp2_with fail
    go_meet
    case rel => exact ⟨_, _, _, _, rfl, rfl, rfl, rfl, rfl, blk_alloc (blk_alloc (blk_alloc (blk_new w _) _) _) _, (by simpa using blk_alloc (blk_alloc (blk_new (w.alloc _) _) _) _), (by simpa using blk_alloc (blk_new ((w.alloc _).alloc _) _) _), (by simpa using blk_new (((w.alloc _).alloc _).alloc _) _), ((((Below.refl _ w).alloc (Nat.le_refl _) _).alloc (by simp) _).alloc (by simp; omega) _).alloc (by simp; omega) _⟩
  obtain ⟨g4, g5, g6, g7, rfl, rfl, rfl, rfl, rfl, B4, B5, B6, B7, HB⟩ := hcut
  go_upto_region 1 with fail
  have hX := below_drew1 (Below.refl wc.heap.size wc)
  replace B4 := ak (blk_below B4 hX)
  replace B5 := ak (blk_below B5 hX)
  replace B6 := ak (blk_below B6 hX)
  replace B7 := ak (blk_below B7 hX)
  replace HB := ak (below_step HB hX)
  clear hX
  refine start_ (n := 27) (S := fun w' => w'.cell? ⟨g4, 0, none⟩ = some (.int .i64 a) ∧ w'.cell? ⟨g4, 1, none⟩ = some (.int .i64 b) ∧ w'.cell? ⟨g5, 0, none⟩ = some (.int .i64 c) ∧ w'.cell? ⟨g5, 1, none⟩ = some (.int .i64 d) ∧ w'.cell? ⟨g6, 0, none⟩ = some (.int .i64 e) ∧ w'.cell? ⟨g6, 1, none⟩ = some (.int .i64 f) ∧ w'.cell? ⟨g7, 0, none⟩ = some (.int .i64 g) ∧ w'.cell? ⟨g7, 1, none⟩ = some (.int .i64 h)) (ds := []) #[false, false, false, false, false, false, false, false, false, false, false, false, false, false, false, false, false, false, false, false, false, false, false, false, false, false, false] kr rfl rfl (held4 B4.out B5.out B6.out B7.out) (fun hHeld => ?_); refine with_tabW crs_tab crs_bits (fun HT_ HW_ => ?_)
  refine pT 0 (some 9) ?_
  refine pT 1 (some 10) ?_
  refine pT 2 (some 11) ?_
  refine pT 5 (some 14) ?_
  refine pT 6 (some 15) ?_
  refine pT 7 (some 16) ?_
  refine one_ (i := 3) (N := some 12) #[true, true, true, true, false, true, true, true, false, false, false, false, false, false, false, false, false, false, false, false, false, false, false, false, false, false, false] rfl rfl (one_of HT_.out kr) (by decide) (fun K hK => ?_)
  refine goes_ Tryz.func217 kr rfl #[.agg #[.int .i64 a, .int .i64 b], .agg #[.int .i64 c, .int .i64 d], .agg #[.int .i64 e, .int .i64 f]] (by rfl) rfl rfl ag ?_
  with_reducible refine (turnR_calls a b c d e f _).mono ?_
  rintro en w2 ⟨t1, rfl, ht1, hb2⟩
  refine ⟨_, rfl, ?_⟩
  replace B4 := ak (blk_below B4.out hb2)
  replace B5 := ak (blk_below B5.out hb2)
  replace B6 := ak (blk_below B6.out hb2)
  replace B7 := ak (blk_below B7.out hb2)
  replace HB := ak (below_step HB.out hb2)
  clear hb2 hHeld
  refine hK.out _ _ (held4 B4.out B5.out B6.out B7.out) (fun hHeld => ?_)
  clear hK K
  refine norm_ (a' := ?_) ?_ ?_
  rotate_left
  · show Act.put _ (some 12) _ = _
    simp only [Act.put, List.setIfInBounds_toArray, List.set_cons_zero, List.set_cons_succ, i64_w, i32_w]
    rfl
  refine one_ (i := 4) (N := some 13) #[true, true, true, true, true, true, true, true, false, false, false, false, false, false, false, false, false, false, false, false, false, false, false, false, false, false, false] rfl rfl (one_of HT_.out kr) (by decide) (fun K hK => ?_)
  refine goes_ Tryz.func257 kr rfl #[.int .i64 t1] (by rfl) rfl rfl ag ?_
  with_reducible refine (signR_calls ht1 _).mono ?_
  rintro en w2 ⟨rfl, hb2⟩
  clear ht1
  refine ⟨_, rfl, ?_⟩
  replace B4 := ak (blk_below B4.out hb2)
  replace B5 := ak (blk_below B5.out hb2)
  replace B6 := ak (blk_below B6.out hb2)
  replace B7 := ak (blk_below B7.out hb2)
  replace HB := ak (below_step HB.out hb2)
  clear hb2 hHeld
  refine hK.out _ _ (held4 B4.out B5.out B6.out B7.out) (fun hHeld => ?_)
  clear hK K
  refine norm_ (a' := ?_) ?_ ?_
  rotate_left
  · show Act.put _ (some 13) _ = _
    simp only [Act.put, List.setIfInBounds_toArray, List.set_cons_zero, List.set_cons_succ, i64_w, i32_w]
    rfl
  refine one_ (i := 8) (N := some 17) #[true, true, true, true, true, true, true, true, true, false, false, false, false, false, false, false, false, false, false, false, false, false, false, false, false, false, false] rfl rfl (one_of HT_.out kr) (by decide) (fun K hK => ?_)
  refine goes_ Tryz.func217 kr rfl #[.agg #[.int .i64 a, .int .i64 b], .agg #[.int .i64 c, .int .i64 d], .agg #[.int .i64 g, .int .i64 h]] (by rfl) rfl rfl ag ?_
  with_reducible refine (turnR_calls a b c d g h _).mono ?_
  rintro en w2 ⟨t2, rfl, ht2, hb2⟩
  refine ⟨_, rfl, ?_⟩
  replace B4 := ak (blk_below B4.out hb2)
  replace B5 := ak (blk_below B5.out hb2)
  replace B6 := ak (blk_below B6.out hb2)
  replace B7 := ak (blk_below B7.out hb2)
  replace HB := ak (below_step HB.out hb2)
  clear hb2 hHeld
  refine hK.out _ _ (held4 B4.out B5.out B6.out B7.out) (fun hHeld => ?_)
  clear hK K
  refine norm_ (a' := ?_) ?_ ?_
  rotate_left
  · show Act.put _ (some 17) _ = _
    simp only [Act.put, List.setIfInBounds_toArray, List.set_cons_zero, List.set_cons_succ, i64_w, i32_w]
    rfl
  refine one_ (i := 9) (N := some 18) #[true, true, true, true, true, true, true, true, true, true, false, false, false, false, false, false, false, false, false, false, false, false, false, false, false, false, false] rfl rfl (one_of HT_.out kr) (by decide) (fun K hK => ?_)
  refine goes_ Tryz.func257 kr rfl #[.int .i64 t2] (by rfl) rfl rfl ag ?_
  with_reducible refine (signR_calls ht2 _).mono ?_
  rintro en w2 ⟨rfl, hb2⟩
  clear ht2
  refine ⟨_, rfl, ?_⟩
  replace B4 := ak (blk_below B4.out hb2)
  replace B5 := ak (blk_below B5.out hb2)
  replace B6 := ak (blk_below B6.out hb2)
  replace B7 := ak (blk_below B7.out hb2)
  replace HB := ak (below_step HB.out hb2)
  clear hb2 hHeld
  refine hK.out _ _ (held4 B4.out B5.out B6.out B7.out) (fun hHeld => ?_)
  clear hK K
  refine norm_ (a' := ?_) ?_ ?_
  rotate_left
  · show Act.put _ (some 18) _ = _
    simp only [Act.put, List.setIfInBounds_toArray, List.set_cons_zero, List.set_cons_succ, i64_w, i32_w]
    rfl
  refine pS 10 (some 19) ?_
  refine pS 11 (some 20) ?_
  generalize hs1 : sgI a b c d e f = s1
  generalize hs2 : sgI a b c d g h = s2
  cases hA : (wrap64 (s1 * s2) == -1)
  case false =>
    refine pS 12 (some 21) ?_
    refine pU 13 (some 22) ?_
    refine pU 14 (some 23) ?_
    refine pU 15 (some 24) ?_
    refine pU 16 (some 25) ?_
    refine pU 17 (some 26) ?_
    refine pU 18 (some 27) ?_
    refine pU 19 (some 28) ?_
    refine pU 20 (some 29) ?_
    refine pU 21 (some 30) ?_
    refine pU 22 (some 31) ?_
    refine pU 23 (some 32) ?_
    refine pU 24 (some 33) ?_
    refine pS 25 (some 34) ?_
    refine pS 26 (some 8) ?_
    refine Go.Proofs.YtnifkpljhfpdlaaGreatDoorW.PrintLast.done_ (done_of HT_.out kr) ?_
    try go_wp2
    go_ret
    exact ⟨by unfold crossB; simp [hs1, hs2, hA], HB.out⟩
  case true =>
    refine pS 12 (some 21) ?_
    refine pT 13 (some 22) ?_
    refine pT 14 (some 23) ?_
    refine pT 15 (some 24) ?_
    refine pT 18 (some 27) ?_
    refine pT 19 (some 28) ?_
    refine pT 20 (some 29) ?_
    refine one_ (i := 16) (N := some 25) #[true, true, true, true, true, true, true, true, true, true, true, true, true, true, true, true, true, false, true, true, true, false, false, false, false, false, false] rfl rfl (one_of HT_.out kr) (by decide) (fun K hK => ?_)
    refine goes_ Tryz.func217 kr rfl #[.agg #[.int .i64 e, .int .i64 f], .agg #[.int .i64 g, .int .i64 h], .agg #[.int .i64 a, .int .i64 b]] (by rfl) rfl rfl ag ?_
    with_reducible refine (turnR_calls e f g h a b _).mono ?_
    rintro en w2 ⟨t3, rfl, ht3, hb2⟩
    refine ⟨_, rfl, ?_⟩
    replace B4 := ak (blk_below B4.out hb2)
    replace B5 := ak (blk_below B5.out hb2)
    replace B6 := ak (blk_below B6.out hb2)
    replace B7 := ak (blk_below B7.out hb2)
    replace HB := ak (below_step HB.out hb2)
    clear hb2 hHeld
    refine hK.out _ _ (held4 B4.out B5.out B6.out B7.out) (fun hHeld => ?_)
    clear hK K
    refine norm_ (a' := ?_) ?_ ?_
    rotate_left
    · show Act.put _ (some 25) _ = _
      simp only [Act.put, List.setIfInBounds_toArray, List.set_cons_zero, List.set_cons_succ, i64_w, i32_w]
      rfl
    refine one_ (i := 17) (N := some 26) #[true, true, true, true, true, true, true, true, true, true, true, true, true, true, true, true, true, true, true, true, true, false, false, false, false, false, false] rfl rfl (one_of HT_.out kr) (by decide) (fun K hK => ?_)
    refine goes_ Tryz.func257 kr rfl #[.int .i64 t3] (by rfl) rfl rfl ag ?_
    with_reducible refine (signR_calls ht3 _).mono ?_
    rintro en w2 ⟨rfl, hb2⟩
    clear ht3
    refine ⟨_, rfl, ?_⟩
    replace B4 := ak (blk_below B4.out hb2)
    replace B5 := ak (blk_below B5.out hb2)
    replace B6 := ak (blk_below B6.out hb2)
    replace B7 := ak (blk_below B7.out hb2)
    replace HB := ak (below_step HB.out hb2)
    clear hb2 hHeld
    refine hK.out _ _ (held4 B4.out B5.out B6.out B7.out) (fun hHeld => ?_)
    clear hK K
    refine norm_ (a' := ?_) ?_ ?_
    rotate_left
    · show Act.put _ (some 26) _ = _
      simp only [Act.put, List.setIfInBounds_toArray, List.set_cons_zero, List.set_cons_succ, i64_w, i32_w]
      rfl
    refine one_ (i := 21) (N := some 30) #[true, true, true, true, true, true, true, true, true, true, true, true, true, true, true, true, true, true, true, true, true, true, false, false, false, false, false] rfl rfl (one_of HT_.out kr) (by decide) (fun K hK => ?_)
    refine goes_ Tryz.func217 kr rfl #[.agg #[.int .i64 e, .int .i64 f], .agg #[.int .i64 g, .int .i64 h], .agg #[.int .i64 c, .int .i64 d]] (by rfl) rfl rfl ag ?_
    with_reducible refine (turnR_calls e f g h c d _).mono ?_
    rintro en w2 ⟨t4, rfl, ht4, hb2⟩
    refine ⟨_, rfl, ?_⟩
    replace B4 := ak (blk_below B4.out hb2)
    replace B5 := ak (blk_below B5.out hb2)
    replace B6 := ak (blk_below B6.out hb2)
    replace B7 := ak (blk_below B7.out hb2)
    replace HB := ak (below_step HB.out hb2)
    clear hb2 hHeld
    refine hK.out _ _ (held4 B4.out B5.out B6.out B7.out) (fun hHeld => ?_)
    clear hK K
    refine norm_ (a' := ?_) ?_ ?_
    rotate_left
    · show Act.put _ (some 30) _ = _
      simp only [Act.put, List.setIfInBounds_toArray, List.set_cons_zero, List.set_cons_succ, i64_w, i32_w]
      rfl
    refine one_ (i := 22) (N := some 31) #[true, true, true, true, true, true, true, true, true, true, true, true, true, true, true, true, true, true, true, true, true, true, true, false, false, false, false] rfl rfl (one_of HT_.out kr) (by decide) (fun K hK => ?_)
    refine goes_ Tryz.func257 kr rfl #[.int .i64 t4] (by rfl) rfl rfl ag ?_
    with_reducible refine (signR_calls ht4 _).mono ?_
    rintro en w2 ⟨rfl, hb2⟩
    clear ht4
    refine ⟨_, rfl, ?_⟩
    replace B4 := ak (blk_below B4.out hb2)
    replace B5 := ak (blk_below B5.out hb2)
    replace B6 := ak (blk_below B6.out hb2)
    replace B7 := ak (blk_below B7.out hb2)
    replace HB := ak (below_step HB.out hb2)
    clear hb2 hHeld
    refine hK.out _ _ (held4 B4.out B5.out B6.out B7.out) (fun hHeld => ?_)
    clear hK K
    refine norm_ (a' := ?_) ?_ ?_
    rotate_left
    · show Act.put _ (some 31) _ = _
      simp only [Act.put, List.setIfInBounds_toArray, List.set_cons_zero, List.set_cons_succ, i64_w, i32_w]
      rfl
    refine pS 23 (some 32) ?_
    generalize hs3 : sgI e f g h a b = s3
    generalize hs4 : sgI e f g h c d = s4
    cases hC : (wrap64 (s3 * s4) == -1)
    all_goals
      refine pS 24 (some 33) ?_
      refine pS 25 (some 34) ?_
      refine pS 26 (some 8) ?_
      refine Go.Proofs.YtnifkpljhfpdlaaGreatDoorW.PrintLast.done_ (done_of HT_.out kr) ?_
      try go_wp2
      go_ret
      exact ⟨by unfold crossB; simp [hs1, hs2, hA, hs3, hs4, hC], HB.out⟩
end Go.Proofs.Tt.P
namespace Go.Proofs.Tt.P
open Go Go.Proofs.Tt.Sh Go.RowKit Go.Proofs.YtnifkpljhfpdlaaGreatDoorW.PrintWords Go.Proofs.YtnifkpljhfpdlaaGreatDoorW.PrintLast Go.Proofs.YtnifkpljhfpdlaaGreatDoorW.PrintMore
open Go.Tt (Pt)
set_option linter.unusedVariables false
set_option linter.unusedSimpArgs false
def meetR (a b c d e f g h : Int) : Bool := crossB a b c d e f g h || onB a b c d e f || onB a b c d g h || onB e f g h a b || onB e f g h c d
set_option maxHeartbeats 8000000 in
set_option maxRecDepth 100000 in
theorem meetR_calls (a b c d e f g h : Int) (w : World) : Calls Tryz.prog 157 #[.agg #[.int .i64 a, .int .i64 b], .agg #[.int .i64 c, .int .i64 d], .agg #[.int .i64 e, .int .i64 f], .agg #[.int .i64 g, .int .i64 h]] w fun en w' => en = .returned (.bool (meetR a b c d e f g h)) ∧ Below w.heap.size w w' := by
  have hu35 := Tryz.underlying35
  obtain ⟨o0, e0, c0⟩ : ∃ o, o = crossB a b c d e f g h ∧ Aside0 (∀ w, Calls Tryz.prog 218 #[.agg #[.int .i64 a, .int .i64 b], .agg #[.int .i64 c, .int .i64 d], .agg #[.int .i64 e, .int .i64 f], .agg #[.int .i64 g, .int .i64 h]] w fun en w' => en = .returned (.bool o) ∧ Below w.heap.size w w') := ⟨_, rfl, ⟨cross_calls a b c d e f g h⟩⟩
  obtain ⟨o1, e1, c1⟩ : ∃ o, o = onB a b c d e f ∧ Aside0 (∀ w, Calls Tryz.prog 156 #[.agg #[.int .i64 a, .int .i64 b], .agg #[.int .i64 c, .int .i64 d], .agg #[.int .i64 e, .int .i64 f]] w fun en w' => en = .returned (.bool o) ∧ Below w.heap.size w w') := ⟨_, rfl, ⟨onR_calls a b c d e f⟩⟩
  obtain ⟨o2, e2, c2⟩ : ∃ o, o = onB a b c d g h ∧ Aside0 (∀ w, Calls Tryz.prog 156 #[.agg #[.int .i64 a, .int .i64 b], .agg #[.int .i64 c, .int .i64 d], .agg #[.int .i64 g, .int .i64 h]] w fun en w' => en = .returned (.bool o) ∧ Below w.heap.size w w') := ⟨_, rfl, ⟨onR_calls a b c d g h⟩⟩
  obtain ⟨o3, e3, c3⟩ : ∃ o, o = onB e f g h a b ∧ Aside0 (∀ w, Calls Tryz.prog 156 #[.agg #[.int .i64 e, .int .i64 f], .agg #[.int .i64 g, .int .i64 h], .agg #[.int .i64 a, .int .i64 b]] w fun en w' => en = .returned (.bool o) ∧ Below w.heap.size w w') := ⟨_, rfl, ⟨onR_calls e f g h a b⟩⟩
  obtain ⟨o4, e4, c4⟩ : ∃ o, o = onB e f g h c d ∧ Aside0 (∀ w, Calls Tryz.prog 156 #[.agg #[.int .i64 e, .int .i64 f], .agg #[.int .i64 g, .int .i64 h], .agg #[.int .i64 c, .int .i64 d]] w fun en w' => en = .returned (.bool o) ∧ Below w.heap.size w w') := ⟨_, rfl, ⟨onR_calls e f g h c d⟩⟩
  have hm := ak (show meetR a b c d e f g h = (o0 || o1 || o2 || o3 || o4) by rw [e0, e1, e2, e3, e4]; rfl)
  clear e0 e1 e2 e3 e4
  go_enter Tryz.func157, Tryz.ntmps157
  go_upto_region 0 with fail
  go_cut [4, 5, 6, 7, 8] from 4 to 8 (fun s4 s5 s6 s7 s8 wc => ∃ g4 g5 g6 g7, s4 = .pointer (some ⟨g4, 0, none⟩) ∧ s5 = .pointer (some ⟨g5, 0, none⟩) ∧ s6 = .pointer (some ⟨g6, 0, none⟩) ∧ s7 = .pointer (some ⟨g7, 0, none⟩) ∧ s8 = .bool false ∧ wc.heap[g4]? = some (.cells #[.int .i64 a, .int .i64 b] 35 (0, 0)) ∧ wc.heap[g5]? = some (.cells #[.int .i64 c, .int .i64 d] 35 (0, 0)) ∧ wc.heap[g6]? = some (.cells #[.int .i64 e, .int .i64 f] 35 (0, 0)) ∧ wc.heap[g7]? = some (.cells #[.int .i64 g, .int .i64 h] 35 (0, 0)) ∧ Below w.heap.size w wc)
  case first =>
    go_wp2_with fail
    go_meet
    case rel => exact ⟨_, _, _, _, rfl, rfl, rfl, rfl, rfl, blk_alloc (blk_alloc (blk_alloc (blk_new w _) _) _) _, (by simpa using blk_alloc (blk_alloc (blk_new (w.alloc _) _) _) _), (by simpa using blk_alloc (blk_new ((w.alloc _).alloc _) _) _), (by simpa using blk_new (((w.alloc _).alloc _).alloc _) _), ((((Below.refl _ w).alloc (Nat.le_refl _) _).alloc (by simp) _).alloc (by simp; omega) _).alloc (by simp; omega) _⟩
  obtain ⟨g4, g5, g6, g7, rfl, rfl, rfl, rfl, rfl, B4, B5, B6, B7, HB⟩ := hcut
  replace B4 := ak B4
  replace B5 := ak B5
  replace B6 := ak B6
  replace B7 := ak B7
  replace HB := ak HB
  obtain ⟨y0, y1, y2, y3, y4, y5, y6, y7⟩ := held4 B4.out B5.out B6.out B7.out
  cases o0 <;> cases o1 <;> cases o2 <;> cases o3 <;>
  (go_wp2_with (first
    | (first | (go_at_call 218; (with_reducible refine (c0.out _).mono ?_)) | (go_at_call 156; (with_reducible first | refine (c1.out _).mono ?_ | refine (c2.out _).mono ?_ | refine (c3.out _).mono ?_ | refine (c4.out _).mono ?_))); rintro en w2 ⟨rfl, hb2⟩; replace HB := ak (below_step HB.out hb2); clear y0 y1 y2 y3 y4 y5 y6 y7; replace B4 := ak (blk_below B4.out hb2); replace B5 := ak (blk_below B5.out hb2); replace B6 := ak (blk_below B6.out hb2); replace B7 := ak (blk_below B7.out hb2); obtain ⟨y0, y1, y2, y3, y4, y5, y6, y7⟩ := held4 B4.out B5.out B6.out B7.out; clear hb2
    | fail)
   go_ret
   exact ⟨by rw [hm.out]; rfl, HB.out⟩)
end Go.Proofs.Tt.P
namespace Go.Proofs.Tt.P
open Go Go.Proofs.Tt.Sh Go.RowKit Go.Proofs.YtnifkpljhfpdlaaGreatDoorW.PrintWords Go.Proofs.YtnifkpljhfpdlaaGreatDoorW.PrintLast Go.Proofs.YtnifkpljhfpdlaaGreatDoorW.PrintMore
open Go.Tt (Pt)
set_option linter.unusedVariables false
set_option linter.unusedSimpArgs false
set_option maxHeartbeats 8000000 in
set_option maxRecDepth 100000 in
theorem pointR_calls (p : Pt) (w : World) : Calls Tryz.prog 105 #[.agg #[.int .i64 p.x, .int .i64 p.y]] w fun en w' => en = .returned (.bool (okP p)) ∧ Below w.heap.size w w' := by
  have hu35 := Tryz.underlying35
  have hB := blk_new w (.cells #[.int .i64 p.x, .int .i64 p.y] 35)
  obtain ⟨z0, z1, _, _⟩ := cb2 hB
  clear hB
  have HB := ak ((Below.refl _ w).alloc (Nat.le_refl _) (.cells #[.int .i64 p.x, .int .i64 p.y] 35))
  go_enter Tryz.func105, Tryz.ntmps105
  go_wp2
  all_goals go_ret
  all_goals refine ⟨congrArg (fun b => Ending.returned (Value.bool b)) ?_, HB.out⟩
  all_goals (unfold okP; first | (symm; apply decide_eq_false; omega) | (apply decide_eq_decide.2; omega))
def nxt (n i : Nat) : Nat := (i + 1) % n
set_option maxHeartbeats 8000000 in
set_option maxRecDepth 100000 in
theorem next_calls {A : Option Addr} {n c i : Nat} (hi : i < n) (hn : n ≤ 1000000) (w : World) : Calls Tryz.prog 155 #[.slice A n c, .int .i64 (i : Int)] w fun en w' => en = .returned (.int .i64 ((nxt n i : Nat) : Int)) ∧ w' = w := by
  have hu22 := Tryz.underlying22
  have em : (wrap64 ((i : Int) + 1)).tmod (n : Int) = ((nxt n i : Nat) : Int) := by
    rw [wrapN (by omega) (by omega)]
    show ((i + 1 : Nat) : Int).tmod (n : Int) = (((i + 1) % n : Nat) : Int)
    rw [Int.ofNat_tmod]
  have em' : (IntKind.i64.wrap ((i : Int) + 1)).tmod (n : Int) = ((nxt n i : Nat) : Int) := by rw [i64_w]; exact em
  have h0 : (n : Int) ≠ 0 := by omega
  have h1 : n ≠ 0 := by omega
  replace em := ak em
  go_enter Tryz.func155, Tryz.ntmps155
  go_wp2
  go_ret
  refine ⟨?_, rfl⟩
  first | rfl | exact congrArg (fun n => Ending.returned (Value.int .i64 n)) em.out | exact congrArg (fun n => Ending.returned (Value.int .i64 n)) em'
def apartR (xs : List Pt) (i k : Nat) : Bool :=
  let s := sideAt xs i
  let t := sideAt xs k
  if nxt xs.length i = k then !onB s.a s.b s.c s.d t.c t.d && !onB t.a t.b t.c t.d s.a s.b
  else if nxt xs.length k = i then !onB t.a t.b t.c t.d s.c s.d && !onB s.a s.b s.c s.d t.a t.b
  else !meetR s.a s.b s.c s.d t.a t.b t.c t.d
set_option maxHeartbeats 8000000 in
set_option maxRecDepth 100000 in
theorem apartR_calls {w : World} {A : Option Addr} {c : Nat} {xs : List Pt} (hr : Kd.C kP w A xs.length xs) (hl : xs.length ≤ 1000000) (i k : Nat) (hi : i < xs.length) (hk : k < xs.length) :
    Calls Tryz.prog 106 #[.slice A xs.length c, .int .i64 (i : Int), .int .i64 (k : Int)] w fun en w' => en = .returned (.bool (apartR xs i k)) ∧ Below w.heap.size w w' := by
  have hu35 := Tryz.underlying35
  have hu22 := Tryz.underlying22
  have hni : nxt xs.length i < xs.length := Nat.mod_lt _ (by omega)
  have hnk : nxt xs.length k < xs.length := Nat.mod_lt _ (by omega)
  obtain ⟨p, hp⟩ : ∃ p, xs[i]? = some p := ⟨_, List.getElem?_eq_getElem hi⟩
  obtain ⟨q, hq⟩ : ∃ p, xs[nxt xs.length i]? = some p := ⟨_, List.getElem?_eq_getElem hni⟩
  obtain ⟨r, hr2⟩ : ∃ p, xs[k]? = some p := ⟨_, List.getElem?_eq_getElem hk⟩
  obtain ⟨u, hu⟩ : ∃ p, xs[nxt xs.length k]? = some p := ⟨_, List.getElem?_eq_getElem hnk⟩
  have hv : apartR xs i k = if nxt xs.length i = k then !onB p.x p.y q.x q.y u.x u.y && !onB r.x r.y u.x u.y p.x p.y else if nxt xs.length k = i then !onB r.x r.y u.x u.y q.x q.y && !onB p.x p.y q.x q.y r.x r.y else !meetR p.x p.y q.x q.y r.x r.y u.x u.y := by
    have e1 : sideAt xs i = ⟨p.x, p.y, q.x, q.y⟩ := by unfold sideAt; simp only [List.getD_eq_getElem?_getD, hp, show xs[(i + 1) % xs.length]? = some q from hq, Option.getD_some]
    have e2 : sideAt xs k = ⟨r.x, r.y, u.x, u.y⟩ := by unfold sideAt; simp only [List.getD_eq_getElem?_getD, hr2, show xs[(k + 1) % xs.length]? = some u from hu, Option.getD_some]
    unfold apartR
    rw [e1, e2]
  obtain ⟨o1, eo1, co1⟩ : ∃ o, o = onB p.x p.y q.x q.y u.x u.y ∧ Aside0 (∀ w, Calls Tryz.prog 156 #[.agg #[.int .i64 p.x, .int .i64 p.y], .agg #[.int .i64 q.x, .int .i64 q.y], .agg #[.int .i64 u.x, .int .i64 u.y]] w fun en w' => en = .returned (.bool o) ∧ Below w.heap.size w w') := ⟨_, rfl, ⟨onR_calls p.x p.y q.x q.y u.x u.y⟩⟩
  obtain ⟨o2, eo2, co2⟩ : ∃ o, o = onB r.x r.y u.x u.y p.x p.y ∧ Aside0 (∀ w, Calls Tryz.prog 156 #[.agg #[.int .i64 r.x, .int .i64 r.y], .agg #[.int .i64 u.x, .int .i64 u.y], .agg #[.int .i64 p.x, .int .i64 p.y]] w fun en w' => en = .returned (.bool o) ∧ Below w.heap.size w w') := ⟨_, rfl, ⟨onR_calls r.x r.y u.x u.y p.x p.y⟩⟩
  obtain ⟨o3, eo3, co3⟩ : ∃ o, o = onB r.x r.y u.x u.y q.x q.y ∧ Aside0 (∀ w, Calls Tryz.prog 156 #[.agg #[.int .i64 r.x, .int .i64 r.y], .agg #[.int .i64 u.x, .int .i64 u.y], .agg #[.int .i64 q.x, .int .i64 q.y]] w fun en w' => en = .returned (.bool o) ∧ Below w.heap.size w w') := ⟨_, rfl, ⟨onR_calls r.x r.y u.x u.y q.x q.y⟩⟩
  obtain ⟨o4, eo4, co4⟩ : ∃ o, o = onB p.x p.y q.x q.y r.x r.y ∧ Aside0 (∀ w, Calls Tryz.prog 156 #[.agg #[.int .i64 p.x, .int .i64 p.y], .agg #[.int .i64 q.x, .int .i64 q.y], .agg #[.int .i64 r.x, .int .i64 r.y]] w fun en w' => en = .returned (.bool o) ∧ Below w.heap.size w w') := ⟨_, rfl, ⟨onR_calls p.x p.y q.x q.y r.x r.y⟩⟩
  obtain ⟨o5, eo5, co5⟩ : ∃ o, o = meetR p.x p.y q.x q.y r.x r.y u.x u.y ∧ Aside0 (∀ w, Calls Tryz.prog 157 #[.agg #[.int .i64 p.x, .int .i64 p.y], .agg #[.int .i64 q.x, .int .i64 q.y], .agg #[.int .i64 r.x, .int .i64 r.y], .agg #[.int .i64 u.x, .int .i64 u.y]] w fun en w' => en = .returned (.bool o) ∧ Below w.heap.size w w') := ⟨_, rfl, ⟨meetR_calls p.x p.y q.x q.y r.x r.y u.x u.y⟩⟩
  rw [← eo1, ← eo2, ← eo3, ← eo4, ← eo5] at hv
  clear eo1 eo2 eo3 eo4 eo5
  replace hv := ak hv
  have HB := ak (Below.refl w.heap.size w)
  have pi : (0 ≤ (i : Int)) = True := eq_true (by omega)
  have qi : ((i : Int) < (xs.length : Int)) = True := eq_true (by omega)
  have pk : (0 ≤ (k : Int)) = True := eq_true (by omega)
  have qk : ((k : Int) < (xs.length : Int)) = True := eq_true (by omega)
  have qi' : (i < xs.length) = True := eq_true hi
  have qk' : (k < xs.length) = True := eq_true hk
  have pni : (0 ≤ ((nxt xs.length i : Nat) : Int)) = True := eq_true (by omega)
  have qni : (((nxt xs.length i : Nat) : Int) < (xs.length : Int)) = True := eq_true (by omega)
  have pnk : (0 ≤ ((nxt xs.length k : Nat) : Int)) = True := eq_true (by omega)
  have qnk : (((nxt xs.length k : Nat) : Int) < (xs.length : Int)) = True := eq_true (by omega)
  have qni' : (nxt xs.length i < xs.length) = True := eq_true hni
  have qnk' : (nxt xs.length k < xs.length) = True := eq_true hnk
  go_enter Tryz.func106, Tryz.ntmps106
  go_upto_region 0 with fail
  go_cut [6] from 6 to 6 (fun v wx => v = .bool false ∧ wx = w)
  case first =>
    go_wp2_with fail
    go_meet
    case rel => exact ⟨rfl, rfl⟩
  obtain ⟨rfl, rfl⟩ := hcut
  obtain ⟨ad, e, h0, h1⟩ := at_P (Kd.C_below hr HB.out) (i) hi p hp
  cases e
  go_upto_region 1 with fail
  go_cut [7] from 7 to 14 (fun v wx => ∃ g, v = .pointer (some ⟨g, 0, none⟩) ∧ wx.heap[g]? = some (.cells #[.int .i64 p.x, .int .i64 p.y] 35 (0, 0)) ∧ Below wc.heap.size wc wx)
  case first =>
    go_wp2_with fail
    go_meet
    case rel => exact ⟨_, rfl, blk_new _ _, (Below.refl _ _).alloc (Nat.le_refl _) _⟩
  obtain ⟨g7, rfl, B7, hb2⟩ := hcut
  replace B7 := ak B7
  replace HB := ak (below_step HB.out hb2)
  clear hb2 h0 h1
  obtain ⟨ad, e, h0, h1⟩ := at_P (Kd.C_below hr HB.out) (nxt xs.length i) hni q hq
  cases e
  go_upto_region 2 with fail
  go_cut [8] from 8 to 20 (fun v wx => ∃ g, v = .pointer (some ⟨g, 0, none⟩) ∧ wx.heap[g]? = some (.cells #[.int .i64 q.x, .int .i64 q.y] 35 (0, 0)) ∧ Below wc.heap.size wc wx)
  case first =>
    go_wp2_with (first | (go_at_call 155; (with_reducible refine (next_calls (A := some ad) (c := c) hi hl _).mono ?_); rintro en w2 ⟨rfl, rfl⟩) | fail)
    go_meet
    case rel => exact ⟨_, rfl, blk_new _ _, (Below.refl _ _).alloc (Nat.le_refl _) _⟩
  obtain ⟨g8, rfl, B8, hb2⟩ := hcut
  replace B8 := ak B8
  replace B7 := ak (blk_below B7.out hb2)
  replace HB := ak (below_step HB.out hb2)
  clear hb2 h0 h1
  obtain ⟨ad, e, h0, h1⟩ := at_P (Kd.C_below hr HB.out) (k) hk r hr2
  cases e
  go_upto_region 3 with fail
  go_cut [9] from 9 to 24 (fun v wx => ∃ g, v = .pointer (some ⟨g, 0, none⟩) ∧ wx.heap[g]? = some (.cells #[.int .i64 r.x, .int .i64 r.y] 35 (0, 0)) ∧ Below wc.heap.size wc wx)
  case first =>
    go_wp2_with fail
    go_meet
    case rel => exact ⟨_, rfl, blk_new _ _, (Below.refl _ _).alloc (Nat.le_refl _) _⟩
  obtain ⟨g9, rfl, B9, hb2⟩ := hcut
  replace B9 := ak B9
  replace B7 := ak (blk_below B7.out hb2)
  replace B8 := ak (blk_below B8.out hb2)
  replace HB := ak (below_step HB.out hb2)
  clear hb2 h0 h1
  obtain ⟨ad, e, h0, h1⟩ := at_P (Kd.C_below hr HB.out) (nxt xs.length k) hnk u hu
  cases e
  go_upto_region 4 with fail
  go_cut [10] from 10 to 30 (fun v wx => ∃ g, v = .pointer (some ⟨g, 0, none⟩) ∧ wx.heap[g]? = some (.cells #[.int .i64 u.x, .int .i64 u.y] 35 (0, 0)) ∧ Below wc.heap.size wc wx)
  case first =>
    go_wp2_with (first | (go_at_call 155; (with_reducible refine (next_calls (A := some ad) (c := c) hk hl _).mono ?_); rintro en w2 ⟨rfl, rfl⟩) | fail)
    go_meet
    case rel => exact ⟨_, rfl, blk_new _ _, (Below.refl _ _).alloc (Nat.le_refl _) _⟩
  obtain ⟨g10, rfl, B10, hb2⟩ := hcut
  replace B10 := ak B10
  replace B7 := ak (blk_below B7.out hb2)
  replace B8 := ak (blk_below B8.out hb2)
  replace B9 := ak (blk_below B9.out hb2)
  replace HB := ak (below_step HB.out hb2)
  clear hb2 h0 h1
  obtain ⟨y0, y1, y2, y3, y4, y5, y6, y7⟩ := held4 B7.out B8.out B9.out B10.out
  by_cases h5 : nxt xs.length i = k
  · have e5 : (((nxt xs.length i : Nat) : Int) == (k : Int)) = true := beq_iff_eq.2 (by omega)
    have hv' := ak (show apartR xs i k = (!o1 && !o2) by rw [hv.out, if_pos h5])
    cases o1 <;> cases o2 <;>
    (go_wp2_with (first
      | (go_at_call 155; (with_reducible first | refine (next_calls (A := some ad) (c := c) hi hl _).mono ?_ | refine (next_calls (A := some ad) (c := c) hk hl _).mono ?_); rintro en w2 ⟨rfl, rfl⟩)
      | (go_at_call 156; (with_reducible first | refine (co1.out _).mono ?_ | refine (co2.out _).mono ?_); rintro en w2 ⟨rfl, hb2⟩; replace HB := ak (below_step HB.out hb2); clear y0 y1 y2 y3 y4 y5 y6 y7; replace B7 := ak (blk_below B7.out hb2); replace B8 := ak (blk_below B8.out hb2); replace B9 := ak (blk_below B9.out hb2); replace B10 := ak (blk_below B10.out hb2); obtain ⟨y0, y1, y2, y3, y4, y5, y6, y7⟩ := held4 B7.out B8.out B9.out B10.out; clear hb2)
      | fail)
     go_ret
     exact ⟨by rw [hv'.out]; rfl, HB.out⟩)
  · have e5 : (((nxt xs.length i : Nat) : Int) == (k : Int)) = false := beq_eq_false_iff_ne.2 (by omega)
    by_cases h6 : nxt xs.length k = i
    · have e6 : (((nxt xs.length k : Nat) : Int) == (i : Int)) = true := beq_iff_eq.2 (by omega)
      have hv' := ak (show apartR xs i k = (!o3 && !o4) by rw [hv.out, if_neg h5, if_pos h6])
      cases o3 <;> cases o4 <;>
      (go_wp2_with (first
        | (go_at_call 155; (with_reducible first | refine (next_calls (A := some ad) (c := c) hi hl _).mono ?_ | refine (next_calls (A := some ad) (c := c) hk hl _).mono ?_); rintro en w2 ⟨rfl, rfl⟩)
        | (go_at_call 156; (with_reducible first | refine (co3.out _).mono ?_ | refine (co4.out _).mono ?_); rintro en w2 ⟨rfl, hb2⟩; replace HB := ak (below_step HB.out hb2); clear y0 y1 y2 y3 y4 y5 y6 y7; replace B7 := ak (blk_below B7.out hb2); replace B8 := ak (blk_below B8.out hb2); replace B9 := ak (blk_below B9.out hb2); replace B10 := ak (blk_below B10.out hb2); obtain ⟨y0, y1, y2, y3, y4, y5, y6, y7⟩ := held4 B7.out B8.out B9.out B10.out; clear hb2)
        | fail)
       go_ret
       exact ⟨by rw [hv'.out]; rfl, HB.out⟩)
    · have e6 : (((nxt xs.length k : Nat) : Int) == (i : Int)) = false := beq_eq_false_iff_ne.2 (by omega)
      have hv' := ak (show apartR xs i k = !o5 by rw [hv.out, if_neg h5, if_neg h6])
      cases o5 <;>
      (go_wp2_with (first
        | (go_at_call 155; (with_reducible first | refine (next_calls (A := some ad) (c := c) hi hl _).mono ?_ | refine (next_calls (A := some ad) (c := c) hk hl _).mono ?_); rintro en w2 ⟨rfl, rfl⟩)
        | (go_at_call 157; (with_reducible refine (co5.out _).mono ?_); rintro en w2 ⟨rfl, hb2⟩; replace HB := ak (below_step HB.out hb2); clear y0 y1 y2 y3 y4 y5 y6 y7; replace B7 := ak (blk_below B7.out hb2); replace B8 := ak (blk_below B8.out hb2); replace B9 := ak (blk_below B9.out hb2); replace B10 := ak (blk_below B10.out hb2); obtain ⟨y0, y1, y2, y3, y4, y5, y6, y7⟩ := held4 B7.out B8.out B9.out B10.out; clear hb2)
        | fail)
       go_ret
       exact ⟨by rw [hv'.out]; rfl, HB.out⟩)
end Go.Proofs.Tt.P
namespace Go.Proofs.Tt.P
open Go Go.Proofs.Tt.Sh Go.RowKit Go.Proofs.YtnifkpljhfpdlaaGreatDoorW.PrintWords Go.Proofs.YtnifkpljhfpdlaaGreatDoorW.PrintLast Go.Proofs.YtnifkpljhfpdlaaGreatDoorW.PrintMore
open Go.Tt (Pt)
set_option linter.unusedVariables false
set_option linter.unusedSimpArgs false
def ck14_T : Bool × List (List Nat × List Nat) := (true, [([], []), ([], []), ([0, 1], [0, 1]), ([2], [2]), ([], []), ([], []), ([4, 5], [4, 5]), ([6], [6]), ([3, 7], [3, 7])])
def ck14_B : List Nat := [0, 0, 3, 7, 0, 0, 48, 112, 255]
theorem ck14_tab : rtab .any (opsOf Tryz.f74 14) = ck14_T := by kernel_rfl
theorem ck14_bits : waitsOk ck14_T.2 ck14_B = true := by kernel_rfl
def difR (xs : List Pt) (i k : Nat) : Bool := !ptEq (xs.getD i zP).x (xs.getD i zP).y (xs.getD k zP).x (xs.getD k zP).y
def triR (P : Nat → Nat → Bool) (n : Nat) : Bool := (List.range n).all fun i => (List.range i).all fun k => P i k
def chkR (xs : List Pt) : Bool := xs.all okP && (decide (3 ≤ xs.length ∧ xs.length ≤ 16) && (triR (difR xs) xs.length && triR (fun i k => apartR xs k i) xs.length))
theorem rng_succ (P : Nat → Bool) (n : Nat) : (List.range (n + 1)).all P = ((List.range n).all P && P n) := by rw [List.range_succ, List.all_append]; simp
theorem tri_bad {P : Nat → Nat → Bool} {n i k : Nat} (hi : i < n) (hk : k < i) (h : P i k = false) : triR P n = false := by
  unfold triR
  rw [List.all_eq_false]
  refine ⟨i, by simpa using hi, ?_⟩
  simp only [Bool.not_eq_true]
  rw [List.all_eq_false]
  exact ⟨k, by simpa using hk, by simp [h]⟩
section
attribute [local go_sem high] eqP35
set_option maxHeartbeats 8000000 in
set_option maxRecDepth 100000 in
theorem checkR_calls {w : World} {A : Option Addr} {c : Nat} {xs : List Pt} (hr : Kd.C kP w A xs.length xs) (hl : xs.length ≤ 1000000) :
    Calls Tryz.prog 74 #[.slice A xs.length c] w fun en w' => ∃ e at_, en = .returned (.tuple #[.int .i64 e, .int .i64 at_]) ∧ decide (e = 0) = chkR xs ∧ Below w.heap.size w w' := by
  have hu35 := Tryz.underlying35
  have hu22 := Tryz.underlying22
  replace hl := ak hl
  go_enter Tryz.func74, Tryz.ntmps74
  go_wp2
  go_loopg [4] xs.length (fun kq v4 w' => ∃ (i : Nat) (x : Int), v4 = .int .i64 x ∧ Aside0 (x = i ∧ i + kq = xs.length ∧ (xs.take i).all okP = true) ∧ Aside0 (Below w.heap.size w w'))
  case atStart => exact ⟨0, 0, rfl, ⟨rfl, by omega, rfl⟩, ⟨Below.refl _ _⟩⟩
  case round =>
    obtain ⟨i, x, rfl, ⟨hx, hi, ha⟩, ⟨HB⟩⟩ := hrel
    replace HB := ak HB
    cases gk with
    | zero =>
      have c1 : decide (x < (xs.length : Int)) = false := decide_eq_false (by omega)
      rw [List.take_of_length_le (by omega)] at ha
      clear hx hi
      replace ha := ak ha
      go_upto_region 6 with fail
      go_cut [29] from 9 to 29 (fun v wx => v = .bool (!decide (3 ≤ xs.length ∧ xs.length ≤ 16)) ∧ wx = wr)
      case first =>
        rcases Nat.lt_or_ge xs.length 3 with h3 | h3
        · have c1 : decide ((xs.length : Int) < 3) = true := decide_eq_true (by omega)
          go_wp2_with fail
          go_meet
          case rel => exact ⟨by rw [decide_eq_false (by omega)]; rfl, rfl⟩
        · have c1 : decide ((xs.length : Int) < 3) = false := decide_eq_false (by omega)
          go_wp2_with fail
          go_meet
          case rel => refine ⟨?_, rfl⟩; congr 1; rw [← decide_not]; apply decide_eq_decide.2; omega
      obtain ⟨rfl, rfl⟩ := hcut
      cases hL : decide (3 ≤ xs.length ∧ xs.length ≤ 16)
      case false =>
        go_wp2
        go_ret2
        exact ⟨2, -1, rfl, by unfold chkR; rw [ha.out, hL]; rfl, HB.out⟩
      replace hL := ak hL
      go_wp2
      go_loopg [5] xs.length (fun kq v5 w' => ∃ (i : Nat) (x : Int), v5 = .int .i64 x ∧ Aside0 (x = i ∧ i + kq = xs.length ∧ triR (difR xs) i = true) ∧ Aside0 (Below w.heap.size w w'))
      case atStart => exact ⟨0, 0, rfl, ⟨rfl, by omega, rfl⟩, ⟨HB.out⟩⟩
      case round =>
        clear HB
        obtain ⟨i, x, rfl, ⟨hx, hi, ht⟩, ⟨HB⟩⟩ := hrel
        replace HB := ak HB
        cases gk with
        | zero =>
          have c1 : decide (x < (xs.length : Int)) = false := decide_eq_false (by omega)
          rw [show i = xs.length by omega] at ht
          clear hx hi
          replace ht := ak ht
          go_wp2
          go_loopg [7] xs.length (fun kq v7 w' => ∃ (i : Nat) (x : Int), v7 = .int .i64 x ∧ Aside0 (x = i ∧ i + kq = xs.length ∧ triR (fun i k => apartR xs k i) i = true) ∧ Aside0 (Below w.heap.size w w'))
          case atStart => exact ⟨0, 0, rfl, ⟨rfl, by omega, rfl⟩, ⟨HB.out⟩⟩
          case round =>
            clear HB
            obtain ⟨i, x, rfl, ⟨hx, hi, hs⟩, ⟨HB⟩⟩ := hrel
            replace HB := ak HB
            cases gk with
            | zero =>
              have c3 : decide (x < (xs.length : Int)) = false := decide_eq_false (by omega)
              rw [show i = xs.length by omega] at hs
              clear hi hx
              replace hs := ak hs
              go_wp2
              go_ret2
              exact ⟨0, -1, rfl, by unfold chkR; rw [ha.out, hL.out, ht.out, hs.out]; rfl, HB.out⟩
            | succ k1 =>
              have hlt : i < xs.length := by omega
              have c3 : decide (x < (xs.length : Int)) = true := decide_eq_true (by omega)
              have hw : Aside0 (wrap64 (x + 1) = ((i + 1 : Nat) : Int)) := ⟨by have := hl.out; rw [hx, wrapN (by omega) (by omega)]; rfl⟩
              replace hi := ak hi
              replace hx := ak hx
              go_wp2
              go_loopg [8] i (fun kq v8 w' => ∃ (j : Nat) (y : Int), v8 = .int .i64 y ∧ Aside0 (y = j ∧ j + kq = i ∧ (List.range j).all (fun k => apartR xs k i) = true) ∧ Aside0 (Below w.heap.size w w'))
              case atStart => exact ⟨0, 0, rfl, ⟨rfl, by omega, rfl⟩, ⟨HB.out⟩⟩
              case round =>
                clear HB
                obtain ⟨j, y, rfl, ⟨hy, hj, hd⟩, ⟨HB⟩⟩ := hrel
                replace HB := ak HB
                cases gk with
                | zero =>
                  have c4 : decide (y < x) = false := decide_eq_false (by have := hx.out; omega)
                  rw [show j = i by omega] at hd
                  clear hj hy
                  go_wp2
                  go_roundg k1
                  case measure => omega
                  case rel => exact ⟨i + 1, wrap64 (x + 1), rfl, ⟨hw.out, by have := hi.out; omega, by unfold triR; rw [rng_succ, hd]; unfold triR at hs; rw [hs]; rfl⟩, ⟨HB.out⟩⟩
                | succ k2 =>
                  have hjlt : j < i := by omega
                  have c4 : decide (y < x) = true := decide_eq_true (by have := hx.out; omega)
                  have hwy : Aside0 (wrap64 (y + 1) = ((j + 1 : Nat) : Int)) := ⟨by have := hl.out; rw [hy, wrapN (by omega) (by omega)]; rfl⟩
                  have hap := apartR_calls (c := c) (Kd.C_below hr HB.out) hl.out j i (by omega) hlt
                  rw [← hy, ← hx.out] at hap
                  replace hj := ak hj
                  replace hd := ak hd
                  replace hy := ak hy
                  cases hc : apartR xs j i <;> rw [hc] at hap
                  case false =>
                    go_wp2_with (first | (go_at_call 106; (with_reducible refine hap.mono ?_); rintro en w2 ⟨rfl, hb2⟩) | fail)
                    go_ret2
                    refine ⟨9, x, rfl, ?_, below_step HB.out hb2⟩
                    have : triR (fun i k => apartR xs k i) xs.length = false := tri_bad hlt hjlt hc
                    unfold chkR
                    rw [ha.out, hL.out, ht.out, this]; rfl
                  case true =>
                    go_wp2_with (first | (go_at_call 106; (with_reducible refine hap.mono ?_); rintro en w2 ⟨rfl, hb2⟩) | fail)
                    go_roundg k2
                    case measure => omega
                    case rel => exact ⟨j + 1, wrap64 (y + 1), rfl, ⟨hwy.out, by have := hj.out; omega, by rw [rng_succ, hd.out, hc]; rfl⟩, ⟨below_step HB.out hb2⟩⟩
        | succ k1 =>
          have hlt : i < xs.length := by omega
          have c1 : decide (x < (xs.length : Int)) = true := decide_eq_true (by omega)
          have hw : Aside0 (wrap64 (x + 1) = ((i + 1 : Nat) : Int)) := ⟨by have := hl.out; rw [hx, wrapN (by omega) (by omega)]; rfl⟩
          have hxi : x.toNat = i := by omega
          have px : (0 ≤ x) = True := eq_true (by omega)
          have qx : (x < (xs.length : Int)) = True := eq_true (by omega)
          replace hx := ak hx
          replace hi := ak hi
          replace hxi := ak hxi
          go_wp2
          go_loopg [6] i (fun kq v6 w' => ∃ (j : Nat) (y : Int), v6 = .int .i64 y ∧ Aside0 (y = j ∧ j + kq = i ∧ (List.range j).all (difR xs i) = true) ∧ Aside0 (Below w.heap.size w w'))
          case atStart => exact ⟨0, 0, rfl, ⟨rfl, by omega, rfl⟩, ⟨HB.out⟩⟩
          case round =>
            clear HB
            obtain ⟨j, y, rfl, ⟨hy, hj, hd⟩, ⟨HB⟩⟩ := hrel
            replace HB := ak HB
            cases gk with
            | zero =>
              have c2 : decide (y < x) = false := decide_eq_false (by have := hx.out; omega)
              rw [show j = i by omega] at hd
              clear hy hj
              go_wp2
              go_roundg k1
              case measure => omega
              case rel => exact ⟨i + 1, wrap64 (x + 1), rfl, ⟨hw.out, by have := hi.out; omega, by unfold triR; rw [rng_succ, hd]; unfold triR at ht; rw [ht]; rfl⟩, ⟨HB.out⟩⟩
            | succ k2 =>
              have hjlt : j < i := by omega
              have c2 : decide (y < x) = true := decide_eq_true (by have := hx.out; omega)
              obtain ⟨p, hp⟩ : ∃ p, xs[i]? = some p := ⟨_, List.getElem?_eq_getElem hlt⟩
              obtain ⟨q, hq⟩ : ∃ p, xs[j]? = some p := ⟨_, List.getElem?_eq_getElem (by omega)⟩
              have HBd := below_drew1 HB.out
              obtain ⟨ad, e, h0, h1⟩ := at_P (Kd.C_below hr HBd) i hlt p hp
              cases e
              obtain ⟨ad', e, h2, h3⟩ := at_P (Kd.C_below hr HBd) j (by omega) q hq
              cases e
              have hyj : y.toNat = j := by omega
              have py : (0 ≤ y) = True := eq_true (by omega)
              have qy : (y < (xs.length : Int)) = True := eq_true (by omega)
              have hwy : Aside0 (wrap64 (y + 1) = ((j + 1 : Nat) : Int)) := ⟨by have := hl.out; rw [hy, wrapN (by omega) (by omega)]; rfl⟩
              rw [← hyj] at h2 h3
              rw [← hxi.out] at h0 h1
              have hdf : difR xs i j = !ptEq p.x p.y q.x q.y := by unfold difR; simp only [List.getD_eq_getElem?_getD, hp, hq, Option.getD_some]
              replace hdf := ak hdf
              replace hy := ak hy
              replace hj := ak hj
              replace hyj := ak hyj
              replace hd := ak hd
              clear hp hq
              go_upto_region 14 with fail
              refine start_ (n := 9) (S := fun w' => w'.cell? (ad.add (x.toNat * 2)) = some (.int .i64 p.x) ∧ w'.cell? ⟨(ad.add (x.toNat * 2)).block, (ad.add (x.toNat * 2)).off + 1, none⟩ = some (.int .i64 p.y) ∧ w'.cell? (ad.add (y.toNat * 2)) = some (.int .i64 q.x) ∧ w'.cell? ⟨(ad.add (y.toNat * 2)).block, (ad.add (y.toNat * 2)).off + 1, none⟩ = some (.int .i64 q.y)) (ds := []) #[false, false, false, false, false, false, false, false, false] kr rfl rfl ⟨h0, h1, h2, h3⟩ (fun hHeld => ?_); refine with_tabW ck14_tab ck14_bits (fun HT_ HW_ => ?_)
              clear h0 h1 h2 h3
              refine pS 0 (some 41) ?_
              refine pS 1 (some 42) ?_
              refine pS 2 (some 43) ?_
              refine pT 3 (some 44) ?_
              refine pS 4 (some 45) ?_
              refine pS 5 (some 46) ?_
              refine pS 6 (some 47) ?_
              refine pT 7 (some 48) ?_
              cases hc : ptEq p.x p.y q.x q.y
              case true =>
                refine pS 8 (some 49) ?_
                refine Go.Proofs.YtnifkpljhfpdlaaGreatDoorW.PrintLast.done_ (done_of HT_.out kr) ?_
                try go_wp2
                go_ret2
                refine ⟨6, x, rfl, ?_, HBd⟩
                have : triR (difR xs) xs.length = false := tri_bad hlt hjlt (by rw [hdf.out, hc]; rfl)
                unfold chkR
                rw [ha.out, hL.out, this]; rfl
              case false =>
                refine pS 8 (some 49) ?_
                refine Go.Proofs.YtnifkpljhfpdlaaGreatDoorW.PrintLast.done_ (done_of HT_.out kr) ?_
                try go_wp2
                go_roundg k2
                case measure => omega
                case rel => exact ⟨j + 1, wrap64 (y + 1), rfl, ⟨hwy.out, by have := hj.out; omega, by rw [rng_succ, hd.out, hdf.out, hc]; rfl⟩, ⟨HBd⟩⟩
    | succ k1 =>
      have hlt : i < xs.length := by omega
      have c1 : decide (x < (xs.length : Int)) = true := decide_eq_true (by omega)
      obtain ⟨p, hp⟩ : ∃ p, xs[i]? = some p := ⟨_, List.getElem?_eq_getElem hlt⟩
      obtain ⟨ad, e, h0, h1⟩ := at_P (Kd.C_below hr HB.out) i hlt p hp
      cases e
      have hxi : x.toNat = i := by omega
      have px : (0 ≤ x) = True := eq_true (by omega)
      have qx : (x < (xs.length : Int)) = True := eq_true (by omega)
      have hw : Aside0 (wrap64 (x + 1) = ((i + 1 : Nat) : Int)) := ⟨by have := hl.out; rw [hx, wrapN (by omega) (by omega)]; rfl⟩
      rw [← hxi] at h0 h1
      replace hxi := ak hxi
      replace hx := ak hx
      replace hi := ak hi
      replace hp := ak hp
      have hal := ak (show xs.take (i + 1) = xs.take i ++ [p] by rw [List.take_add_one, hp.out]; rfl)
      replace ha := ak ha
      cases ho : okP p
      case false =>
        go_wp2_with (first | (go_at_call 105; (with_reducible refine (pointR_calls p _).mono ?_); rintro en w2 ⟨rfl, hb2⟩; rw [ho]) | fail)
        go_ret2
        refine ⟨1, x, rfl, ?_, below_step HB.out hb2⟩
        have : xs.all okP = false := by
          rw [List.all_eq_false]
          exact ⟨p, List.mem_of_getElem? hp.out, by simp [ho]⟩
        unfold chkR
        rw [this]; rfl
      case true =>
        go_wp2_with (first | (go_at_call 105; (with_reducible refine (pointR_calls p _).mono ?_); rintro en w2 ⟨rfl, hb2⟩; rw [ho]) | fail)
        go_roundg k1
        case measure => omega
        case rel => exact ⟨i + 1, wrap64 (x + 1), rfl, ⟨hw.out, by have := hi.out; omega, by rw [hal.out, List.all_append, ha.out]; simp [ho]⟩, ⟨below_step HB.out hb2⟩⟩
end
set_option maxHeartbeats 8000000 in
set_option maxRecDepth 100000 in
theorem errR_calls {w : World} {A : Option Addr} {c : Nat} {xs : List Pt} (hr : Kd.C kP w A xs.length xs) (hl : xs.length ≤ 1000000) :
    Calls Tryz.prog 39 #[.slice A xs.length c] w fun en w' => ∃ e, en = .returned (.int .i64 e) ∧ decide (e = 0) = chkR xs ∧ Below w.heap.size w w' := by
  have hck := checkR_calls (c := c) hr hl
  go_enter Tryz.func39, Tryz.ntmps39
  go_wp2_with (first | (go_at_call 74; (with_reducible refine hck.mono ?_); rintro en w2 ⟨e, at_, rfl, he, hb2⟩) | fail)
  go_ret
  exact ⟨e, rfl, he, hb2⟩
end Go.Proofs.Tt.P
namespace Go.Proofs.Tt.P
open Go Go.RowKit Go.Proofs.YtnifkpljhfpdlaaGreatDoorW.PrintWords Go.Proofs.YtnifkpljhfpdlaaGreatDoorW.PrintLast Go.Proofs.YtnifkpljhfpdlaaGreatDoorW.PrintMore
open Go.Tt (Pt)
theorem all_c {l : List Nat} {P Q : Nat → Bool} (h : ∀ x, x ∈ l → P x = Q x) : l.all P = l.all Q := by
  rw [Bool.eq_iff_iff, List.all_eq_true, List.all_eq_true]
  exact ⟨fun k x hx => (h x hx) ▸ k x hx, fun k x hx => (h x hx).symm ▸ k x hx⟩
theorem allNew_all {α : Type} (f : List α → α → Bool) (d : α) : ∀ (n : Nat) (L : List α), L.length = n → allNew f [] L = (List.range n).all fun i => !f (L.take i) (L.getD i d) := by
  intro n
  induction n with
  | zero => intro L h; rw [List.eq_nil_of_length_eq_zero h]; rfl
  | succ n ih =>
    intro L h
    obtain ⟨M, x, rfl⟩ : ∃ M x, L = M ++ [x] := by
      refine ⟨L.take n, L[n]'(by omega), ?_⟩
      have := List.take_add_one (l := L) (i := n)
      rw [List.take_of_length_le (by omega), List.getElem?_eq_getElem (by omega)] at this
      exact this
    have hM : M.length = n := by simpa using h
    rw [allNew_snoc, rng_succ, ih M hM]
    congr 1
    · apply all_c
      intro i hi
      have hi' : i < n := by simpa using hi
      rw [List.take_append_of_le_length (by omega), List.getD_eq_getElem?_getD, List.getD_eq_getElem?_getD, List.getElem?_append_left (by omega)]
    · rw [List.take_append_of_le_length (by omega), List.take_of_length_le (by omega), List.getD_eq_getElem?_getD, List.getElem?_append_right (by omega), hM, Nat.sub_self]
      rfl
theorem ptEq_iff (p q : Pt) : ptEq p.x p.y q.x q.y = true ↔ p = q := by
  unfold ptEq
  cases p; cases q
  simp
theorem dbl_tri (xs : List Pt) : allNew dblF [] xs = triR (difR xs) xs.length := by
  rw [allNew_all dblF zP xs.length xs rfl]
  unfold triR
  apply all_c
  intro i hi
  have hi' : i < xs.length := by simpa using hi
  unfold dblF
  rw [Bool.eq_iff_iff]
  simp only [Bool.not_eq_true', decide_eq_false_iff_not, List.all_eq_true, List.mem_range]
  constructor
  · intro h k hk
    unfold difR
    rw [Bool.not_eq_true']
    cases he : ptEq (xs.getD i zP).x (xs.getD i zP).y (xs.getD k zP).x (xs.getD k zP).y
    · rfl
    · exfalso
      have := (ptEq_iff _ _).1 he
      apply h
      rw [this, List.mem_iff_getElem?]
      exact ⟨k, by rw [List.getElem?_take_of_lt hk, List.getD_eq_getElem?_getD, List.getElem?_eq_getElem (by omega)]; rfl⟩
  · intro h hm
    obtain ⟨k, hk⟩ := List.mem_iff_getElem?.1 hm
    have hki : k < i := by
      have := (List.getElem?_eq_some_iff.1 hk).1
      simp at this; omega
    have := h k hki
    unfold difR at this
    rw [Bool.not_eq_true'] at this
    rw [List.getElem?_take_of_lt hki] at hk
    have e : xs.getD k zP = xs.getD i zP := by rw [List.getD_eq_getElem?_getD (i := k), hk]; rfl
    rw [(ptEq_iff _ _).2 e.symm] at this
    cases this
theorem dis_of {xs : List Pt} (h : triR (difR xs) xs.length = true) {i k : Nat} (hi : i < xs.length) (hk : k < xs.length) (e : xs.getD i zP = xs.getD k zP) : i = k := by
  unfold triR at h
  rw [List.all_eq_true] at h
  have one : ∀ i k : Nat, i < xs.length → k < i → xs.getD i zP = xs.getD k zP → False := fun i k hi hk e => by
    have h1 := h i (by simpa using hi)
    rw [List.all_eq_true] at h1
    have h2 := h1 k (by simpa using hk)
    unfold difR at h2
    rw [(ptEq_iff _ _).2 e] at h2
    cases h2
  rcases Nat.lt_trichotomy i k with h1 | h1 | h1
  · exact (one k i hk h1 e.symm).elim
  · exact h1
  · exact (one i k hi h1 e).elim
theorem sg3 (a b c d e f : Int) : sgI a b c d e f = -1 ∨ sgI a b c d e f = 0 ∨ sgI a b c d e f = 1 := by
  obtain ⟨t, ht⟩ : ∃ t, field_turn.f a b c d e f = some t := ⟨_, rfl⟩
  rw [sgI_turn ht]
  split
  · exact .inl rfl
  · split
    · exact .inr (.inr rfl)
    · exact .inr (.inl rfl)
theorem neg_one {s t : Int} (hs : s = -1 ∨ s = 0 ∨ s = 1) (ht : t = -1 ∨ t = 0 ∨ t = 1) : (wrap64 (s * t) == -1) = decide (wrap64 (s * t) < 0) := by
  rcases hs with rfl | rfl | rfl <;> rcases ht with rfl | rfl | rfl <;> (rw [wrapN (by decide) (by decide)]; decide)
theorem meet_eq (a b c d e f g h : Int) : meetR e f g h a b c d = meetB a b c d e f g h := by
  unfold meetR meetB crossB
  rw [neg_one (sg3 _ _ _ _ _ _) (sg3 _ _ _ _ _ _), neg_one (sg3 _ _ _ _ _ _) (sg3 _ _ _ _ _ _)]
  generalize onB a b c d e f = o1
  generalize onB a b c d g h = o2
  generalize onB e f g h a b = o3
  generalize onB e f g h c d = o4
  generalize decide (wrap64 (sgI a b c d e f * sgI a b c d g h) < 0) = p1
  generalize decide (wrap64 (sgI e f g h a b * sgI e f g h c d) < 0) = p2
  cases o1 <;> cases o2 <;> cases o3 <;> cases o4 <;> cases p1 <;> cases p2 <;> rfl
theorem cl_apart {xs : List Pt} (hd : triR (difR xs) xs.length = true) (hn : 3 ≤ xs.length) {i k : Nat} (hi : i < xs.length) (hk : k < i) : clS (sideAt xs i) (sideAt xs k) = !apartR xs k i := by
  have hni : nxt xs.length i < xs.length := Nat.mod_lt _ (by omega)
  have hnk : nxt xs.length k < xs.length := Nat.mod_lt _ (by omega)
  have e1 : ptEq (sideAt xs k).c (sideAt xs k).d (sideAt xs i).a (sideAt xs i).b = decide (nxt xs.length k = i) := by
    rw [Bool.eq_iff_iff, decide_eq_true_eq]
    refine (ptEq_iff (xs.getD (nxt xs.length k) zP) (xs.getD i zP)).trans ⟨fun h => dis_of hd hnk hi h, fun h => by rw [h]⟩
  have e2 : ptEq (sideAt xs i).c (sideAt xs i).d (sideAt xs k).a (sideAt xs k).b = decide (nxt xs.length i = k) := by
    rw [Bool.eq_iff_iff, decide_eq_true_eq]
    refine (ptEq_iff (xs.getD (nxt xs.length i) zP) (xs.getD k zP)).trans ⟨fun h => dis_of hd hni (by omega) h, fun h => by rw [h]⟩
  have hboth : ¬ (nxt xs.length k = i ∧ nxt xs.length i = k) := by
    rintro ⟨h1, h2⟩
    unfold nxt at h1 h2
    have a1 : (k + 1) % xs.length = k + 1 := Nat.mod_eq_of_lt (by omega)
    rcases Nat.lt_or_ge (i + 1) xs.length with h3 | h3
    · rw [Nat.mod_eq_of_lt h3] at h2; omega
    · have : i + 1 = xs.length := by omega
      rw [this, Nat.mod_self] at h2
      omega
  unfold clS clashB apartR
  rw [e1, e2]
  by_cases h1 : nxt xs.length k = i
  · have h2 : ¬ nxt xs.length i = k := fun h => hboth ⟨h1, h⟩
    simp only [h1, h2, decide_true, decide_false, if_true, if_false, Bool.false_eq_true]
    rw [Bool.not_and, Bool.not_not, Bool.not_not, Bool.or_comm]
  · by_cases h2 : nxt xs.length i = k
    · simp only [h1, h2, decide_true, decide_false, if_true, if_false, Bool.false_eq_true]
      rw [Bool.not_and, Bool.not_not, Bool.not_not]
    · simp only [h1, h2, decide_false, if_false, Bool.false_eq_true]
      rw [meet_eq, Bool.not_not]
theorem chk_eq (xs : List Pt) : chkF xs = chkR xs := by
  unfold chkF chkR
  congr 1
  cases hn : decide (3 ≤ xs.length ∧ xs.length ≤ 16)
  · rfl
  have hn' := of_decide_eq_true hn
  congr 1
  rw [dbl_tri]
  cases hd : triR (difR xs) xs.length
  · rfl
  congr 1
  rw [allNew_all clsF (sideAt xs 0) xs.length ((List.range xs.length).map (sideAt xs)) (by simp)]
  unfold triR
  apply all_c
  intro i hi
  have hi' : i < xs.length := by simpa using hi
  have e1 : ((List.range xs.length).map (sideAt xs)).getD i (sideAt xs 0) = sideAt xs i := by
    rw [List.getD_eq_getElem?_getD, List.getElem?_map, List.getElem?_range hi']; rfl
  have e2 : ((List.range xs.length).map (sideAt xs)).take i = (List.range i).map (sideAt xs) := by
    rw [← List.map_take, List.take_range, Nat.min_eq_left (by omega)]
  rw [e1, e2]
  unfold clsF
  rw [Bool.eq_iff_iff]
  simp only [Bool.not_eq_true', List.any_eq_false, List.mem_map, List.mem_range, List.all_eq_true]
  constructor
  · intro h k hk
    have := h _ ⟨k, hk, rfl⟩
    rw [cl_apart hd hn'.1 hi' hk] at this
    simpa using this
  · rintro h s ⟨k, hk, rfl⟩
    rw [cl_apart hd hn'.1 hi' hk, h k hk]
    simp
end Go.Proofs.Tt.P
