/- What is proved: what functions of the program do (walks, by hand and by programs of this repository). Conditions stand in each theorem. -/
import Derived.Test.YtnifkpljhfpdlaaGreatDoorPh
import Derived.Test.YtnifkpljhfpdlaaGreatDoorPf
set_option linter.unusedVariables false
set_option linter.unusedSimpArgs false
namespace Go.Proofs.Tt.P
open Go Go.Proofs.Tt.Sh Go.RowKit Go.Proofs.YtnifkpljhfpdlaaGreatDoorW.PrintWords Go.Proofs.YtnifkpljhfpdlaaGreatDoorW.PrintLast Go.Proofs.YtnifkpljhfpdlaaGreatDoorW.PrintMore
set_option linter.unusedVariables false
set_option linter.unusedSimpArgs false
def lenF (y m : Int) : Int := if m = 2 then (if (date_IsLeap.f y).getD false = true then 29 else 28) else if m = 4 then 30 else if m = 6 then 30 else if m = 9 then 30 else if m = 11 then 30 else 31
theorem leap_some (y : Int) : ∃ b, date_IsLeap.f y = some b := by
  unfold date_IsLeap.f
  repeat' split
  all_goals exact ⟨_, rfl⟩
theorem lenR (y m : Int) : udometerref01_Length.f y m = some (lenF y m) := by
  unfold udometerref01_Length.f lenF
  have e : udometerref01_Leap.f y = date_IsLeap.f y := rfl
  rw [e]
  obtain ⟨b, hb⟩ := leap_some y
  rw [hb]
  simp only [Option.bind_some, Option.getD_some]
  repeat' split
  all_goals rfl
theorem lenF_le (y m : Int) : 28 ≤ lenF y m ∧ lenF y m ≤ 31 := by
  unfold lenF
  repeat' split
  all_goals decide
def begF : Nat → Int
  | 0 => 0
  | m + 1 => begF m + lenF (1850 + (m : Int) / 12) ((m : Int) % 12 + 1)
theorem begF_le : ∀ m : Nat, 0 ≤ begF m ∧ begF m ≤ 31 * (m : Int)
  | 0 => by decide
  | m + 1 => by
    have h1 := begF_le m
    have h2 := lenF_le (1850 + (m : Int) / 12) ((m : Int) % 12 + 1)
    rw [begF]
    constructor
    · omega
    · push_cast; omega
theorem first_l0 (M : Nat) (hM : M ≤ 2000) : ∀ (k i : Nat), i ≤ M → M < k + i → udometerref01_First.l0 k M (begF i) i = some (begF M)
  | 0, i, h1, h2 => by omega
  | k + 1, i, h1, h2 => by
    rw [udometerref01_First.l0]
    by_cases h : i < M
    · have e1 : Int.tdiv (i : Int) 12 = (i : Int) / 12 := Int.tdiv_eq_ediv_of_nonneg (by omega)
      have e2 : Int.tmod (i : Int) 12 = (i : Int) % 12 := Int.tmod_eq_emod_of_nonneg (by omega)
      have h3 := begF_le i
      have h4 := lenF_le (1850 + (i : Int) / 12) ((i : Int) % 12 + 1)
      rw [if_pos (by omega), e1, e2, wrapN (n := (i : Int) / 12) (by omega) (by omega), wrapN (n := 1850 + _) (by omega) (by omega), wrapN (n := (i : Int) % 12 + 1) (by omega) (by omega), lenR]
      simp only [Option.bind_some]
      rw [wrapN (by omega) (by omega), wrapN (by omega) (by omega)]
      exact first_l0 M hM k (i + 1) h (by omega)
    · rw [if_neg (by omega), show i = M by omega]
theorem firstR (M : Nat) (hM : M ≤ 2000) : udometerref01_First.f 2002 M = some (begF M) := first_l0 M hM 2002 0 (by omega) (by omega)
def hiF (M : Nat) : Int := mn 60000 (begF (M + 1) - 1)
theorem daysR (M : Nat) (hM : M ≤ 1971) : udometerref01_Days.f 2002 M = some (begF M, hiF M) := by
  unfold udometerref01_Days.f hiF
  have h := begF_le (M + 1)
  rw [firstR M (by omega), wrapN (by omega) (by omega), show (M : Int) + 1 = ((M + 1 : Nat) : Int) by omega, firstR (M + 1) (by omega)]
  simp only [Option.bind_some]
  rw [wrapN (by omega) (by omega)]
theorem daysP (M : Nat) (hM : M ≤ 1971) : date_clipped.f (begF M) (begF (M + 1) - 1) = some (begF M, hiF M) := by
  unfold date_clipped.f hiF
  have h := begF_le M
  have : mx 0 (begF M) = begF M := by unfold mx; split <;> omega
  rw [this]
def yearF (y : Nat) : Int := lenF (1850 + y) 1 + lenF (1850 + y) 2 + lenF (1850 + y) 3 + lenF (1850 + y) 4 + lenF (1850 + y) 5 + lenF (1850 + y) 6 + lenF (1850 + y) 7 + lenF (1850 + y) 8 + lenF (1850 + y) 9 + lenF (1850 + y) 10 + lenF (1850 + y) 11 + lenF (1850 + y) 12
def firstOk (y : Nat) : Bool := match date_first.f (1850 + y), date_first.f (1850 + (y + 1)) with
  | some a, some b => b == a + yearF y
  | _, _ => false
theorem first_all : (List.range 166).all firstOk = true := by kernel_rfl
theorem begF_step (y : Nat) : begF (12 * (y + 1)) = begF (12 * y) + yearF y := by
  have e : ∀ j : Nat, j < 12 → begF (12 * y + j + 1) = begF (12 * y + j) + lenF (1850 + (y : Int)) ((j : Int) + 1) := fun j hj => by
    rw [begF]
    congr 2
    · omega
    · omega
  have e0 := e 0 (by omega)
  have e1 := e 1 (by omega)
  have e2 := e 2 (by omega)
  have e3 := e 3 (by omega)
  have e4 := e 4 (by omega)
  have e5 := e 5 (by omega)
  have e6 := e 6 (by omega)
  have e7 := e 7 (by omega)
  have e8 := e 8 (by omega)
  have e9 := e 9 (by omega)
  have e10 := e 10 (by omega)
  have e11 := e 11 (by omega)
  rw [show 12 * (y + 1) = 12 * y + 11 + 1 by omega, e11, e10, e9, e8, e7, e6, e5, e4, e3, e2, e1, e0]
  unfold yearF
  simp only [Int.add_assoc]
  rfl
theorem firstP : ∀ y : Nat, y ≤ 166 → date_first.f (1850 + (y : Int)) = some (begF (12 * y))
  | 0, _ => by kernel_rfl
  | y + 1, h => by
    have ih := firstP y (by omega)
    have hb := List.all_eq_true.1 first_all y (List.mem_range.2 (by omega))
    unfold firstOk at hb
    rw [ih] at hb
    have e : ((1850 : Int) + ((y : Int) + 1)) = 1850 + ((y + 1 : Nat) : Int) := by omega
    rw [e] at hb
    cases hf : date_first.f (1850 + ((y + 1 : Nat) : Int)) with
    | none => rw [hf] at hb; cases hb
    | some b =>
      rw [hf] at hb
      have hb' : b = begF (12 * y) + yearF y := beq_iff_eq.1 hb
      rw [hb', begF_step]
end Go.Proofs.Tt.P
namespace Go.Proofs.Tt.P
open Go Go.Proofs.Tt.Sh Go.RowKit Go.Proofs.YtnifkpljhfpdlaaGreatDoorW.PrintWords Go.Proofs.YtnifkpljhfpdlaaGreatDoorW.PrintLast Go.Proofs.YtnifkpljhfpdlaaGreatDoorW.PrintMore
set_option linter.unusedVariables false
set_option linter.unusedSimpArgs false
def lenV : Array Value := #[.int .i64 31, .int .i64 28, .int .i64 31, .int .i64 30, .int .i64 31, .int .i64 30, .int .i64 31, .int .i64 31, .int .i64 30, .int .i64 31, .int .i64 30, .int .i64 31]
set_option maxHeartbeats 8000000 in
set_option maxRecDepth 100000 in
theorem lengths_calls (w : World) : Calls Tryz.prog 153 #[] w fun e w' => e = .returned (.agg lenV) ∧ Below w.heap.size w w' := by
  have hu243 := Tryz.underlying243
  go_enter Tryz.func153, Tryz.ntmps153
  go_upto_region 0 with fail
  go_cut [0] from 0 to 0 (fun s0 wc => ∃ g, s0 = .pointer (some ⟨g, 0, none⟩) ∧ w.heap.size ≤ g ∧ wc.heap[g]? = some (.cells #[.int .i64 0, .int .i64 0, .int .i64 0, .int .i64 0, .int .i64 0, .int .i64 0, .int .i64 0, .int .i64 0, .int .i64 0, .int .i64 0, .int .i64 0, .int .i64 0] 243 (0, 0)) ∧ Below w.heap.size w wc)
  case first =>
    go_wp2_with fail
    go_meet
    case rel => exact ⟨_, rfl, Nat.le_refl _, blk_new w _, (Below.refl _ w).alloc (Nat.le_refl _) _⟩
  obtain ⟨g, rfl, hg, B, HB⟩ := hcut
  replace hg := ak hg
  have f0 := blk_frozen B 0
  replace HB := ak HB
  have hc : ∀ j : Nat, j < 12 → wc.cell? ⟨g, j, none⟩ = some (.int .i64 0) := by
    intro j hj
    rw [blk_cell B j]
    match j, hj with
    | 0, _ | 1, _ | 2, _ | 3, _ | 4, _ | 5, _ | 6, _ | 7, _ | 8, _ | 9, _ | 10, _ | 11, _ => rfl
  have c0 := hc 0 (by decide)
  have c1 := hc 1 (by decide)
  have c2 := hc 2 (by decide)
  have c3 := hc 3 (by decide)
  have c4 := hc 4 (by decide)
  have c5 := hc 5 (by decide)
  have c6 := hc 6 (by decide)
  have c7 := hc 7 (by decide)
  have c8 := hc 8 (by decide)
  have c9 := hc 9 (by decide)
  have c10 := hc 10 (by decide)
  have c11 := hc 11 (by decide)
  have f1 := blk_frozen B 1
  have f2 := blk_frozen B 2
  have f3 := blk_frozen B 3
  have f4 := blk_frozen B 4
  have f5 := blk_frozen B 5
  have f6 := blk_frozen B 6
  have f7 := blk_frozen B 7
  have f8 := blk_frozen B 8
  have f9 := blk_frozen B 9
  have f10 := blk_frozen B 10
  have f11 := blk_frozen B 11
  clear hc
  go_wp2_with fail
  refine bodyPost_ret (results_cell_row rfl _ _ g 243 lenV (0, 0) _ rfl (blk_put (blk_put (blk_put (blk_put (blk_put (blk_put (blk_put (blk_put (blk_put (blk_put (blk_put (blk_put B 0 _ rfl) 1 _ rfl) 2 _ rfl) 3 _ rfl) 4 _ rfl) 5 _ rfl) 6 _ rfl) 7 _ rfl) 8 _ rfl) 9 _ rfl) 10 _ rfl) 11 _ rfl) Tryz.underlying243 rfl (by kernel_rfl)) rfl ?_
  exact ⟨rfl, (below_set (below_set (below_set (below_set (below_set (below_set (below_set (below_set (below_set (below_set (below_set (below_set HB.out hg.out) hg.out) hg.out) hg.out) hg.out) hg.out) hg.out) hg.out) hg.out) hg.out) hg.out) hg.out)⟩
theorem ix0 (w : World) : (Instr.index 243 (.agg #[.int .i64 31, .int .i64 28, .int .i64 31, .int .i64 30, .int .i64 31, .int .i64 30, .int .i64 31, .int .i64 31, .int .i64 30, .int .i64 31, .int .i64 30, .int .i64 31]) (.int .i64 0)).run Tryz.prog w = .ok (.int .i64 31) w := by kernel_rfl
theorem ix1 (w : World) : (Instr.index 243 (.agg #[.int .i64 31, .int .i64 28, .int .i64 31, .int .i64 30, .int .i64 31, .int .i64 30, .int .i64 31, .int .i64 31, .int .i64 30, .int .i64 31, .int .i64 30, .int .i64 31]) (.int .i64 1)).run Tryz.prog w = .ok (.int .i64 28) w := by kernel_rfl
theorem ix2 (w : World) : (Instr.index 243 (.agg #[.int .i64 31, .int .i64 28, .int .i64 31, .int .i64 30, .int .i64 31, .int .i64 30, .int .i64 31, .int .i64 31, .int .i64 30, .int .i64 31, .int .i64 30, .int .i64 31]) (.int .i64 2)).run Tryz.prog w = .ok (.int .i64 31) w := by kernel_rfl
theorem ix3 (w : World) : (Instr.index 243 (.agg #[.int .i64 31, .int .i64 28, .int .i64 31, .int .i64 30, .int .i64 31, .int .i64 30, .int .i64 31, .int .i64 31, .int .i64 30, .int .i64 31, .int .i64 30, .int .i64 31]) (.int .i64 3)).run Tryz.prog w = .ok (.int .i64 30) w := by kernel_rfl
theorem ix4 (w : World) : (Instr.index 243 (.agg #[.int .i64 31, .int .i64 28, .int .i64 31, .int .i64 30, .int .i64 31, .int .i64 30, .int .i64 31, .int .i64 31, .int .i64 30, .int .i64 31, .int .i64 30, .int .i64 31]) (.int .i64 4)).run Tryz.prog w = .ok (.int .i64 31) w := by kernel_rfl
theorem ix5 (w : World) : (Instr.index 243 (.agg #[.int .i64 31, .int .i64 28, .int .i64 31, .int .i64 30, .int .i64 31, .int .i64 30, .int .i64 31, .int .i64 31, .int .i64 30, .int .i64 31, .int .i64 30, .int .i64 31]) (.int .i64 5)).run Tryz.prog w = .ok (.int .i64 30) w := by kernel_rfl
theorem ix6 (w : World) : (Instr.index 243 (.agg #[.int .i64 31, .int .i64 28, .int .i64 31, .int .i64 30, .int .i64 31, .int .i64 30, .int .i64 31, .int .i64 31, .int .i64 30, .int .i64 31, .int .i64 30, .int .i64 31]) (.int .i64 6)).run Tryz.prog w = .ok (.int .i64 31) w := by kernel_rfl
theorem ix7 (w : World) : (Instr.index 243 (.agg #[.int .i64 31, .int .i64 28, .int .i64 31, .int .i64 30, .int .i64 31, .int .i64 30, .int .i64 31, .int .i64 31, .int .i64 30, .int .i64 31, .int .i64 30, .int .i64 31]) (.int .i64 7)).run Tryz.prog w = .ok (.int .i64 31) w := by kernel_rfl
theorem ix8 (w : World) : (Instr.index 243 (.agg #[.int .i64 31, .int .i64 28, .int .i64 31, .int .i64 30, .int .i64 31, .int .i64 30, .int .i64 31, .int .i64 31, .int .i64 30, .int .i64 31, .int .i64 30, .int .i64 31]) (.int .i64 8)).run Tryz.prog w = .ok (.int .i64 30) w := by kernel_rfl
theorem ix9 (w : World) : (Instr.index 243 (.agg #[.int .i64 31, .int .i64 28, .int .i64 31, .int .i64 30, .int .i64 31, .int .i64 30, .int .i64 31, .int .i64 31, .int .i64 30, .int .i64 31, .int .i64 30, .int .i64 31]) (.int .i64 9)).run Tryz.prog w = .ok (.int .i64 31) w := by kernel_rfl
theorem ix10 (w : World) : (Instr.index 243 (.agg #[.int .i64 31, .int .i64 28, .int .i64 31, .int .i64 30, .int .i64 31, .int .i64 30, .int .i64 31, .int .i64 31, .int .i64 30, .int .i64 31, .int .i64 30, .int .i64 31]) (.int .i64 10)).run Tryz.prog w = .ok (.int .i64 30) w := by kernel_rfl
theorem ix11 (w : World) : (Instr.index 243 (.agg #[.int .i64 31, .int .i64 28, .int .i64 31, .int .i64 30, .int .i64 31, .int .i64 30, .int .i64 31, .int .i64 31, .int .i64 30, .int .i64 31, .int .i64 30, .int .i64 31]) (.int .i64 11)).run Tryz.prog w = .ok (.int .i64 31) w := by kernel_rfl
attribute [local go_sem] ix0 ix1 ix2 ix3 ix4 ix5 ix6 ix7 ix8 ix9 ix10 ix11
set_option maxHeartbeats 8000000 in
set_option maxRecDepth 100000 in
theorem length_calls (y m : Int) (h1 : 1 ≤ m) (h2 : m ≤ 12) (w : World) : Calls Tryz.prog 103 #[.int .i64 y, .int .i64 m] w fun e w' => e = .returned (.int .i64 (lenF y m)) ∧ Below w.heap.size w w' := by
  have hu243 := Tryz.underlying243
  obtain ⟨b, hb⟩ := leap_some y
  replace hb := ak hb
  have hm : m = 1 ∨ m = 2 ∨ m = 3 ∨ m = 4 ∨ m = 5 ∨ m = 6 ∨ m = 7 ∨ m = 8 ∨ m = 9 ∨ m = 10 ∨ m = 11 ∨ m = 12 := by omega
  clear h1 h2
  rcases hm with rfl | rfl | hm
  · go_enter Tryz.func103, Tryz.ntmps103
    go_wp2_with (first | (go_at_call 153; (with_reducible refine (lengths_calls _).mono ?_); rintro en w2 ⟨rfl, hb2⟩; unfold lenV) | fail)
    go_ret
    exact ⟨rfl, hb2⟩
  · have hl : lenF y 2 = if b = true then 29 else 28 := by unfold lenF; rw [if_pos rfl, hb.out]; rfl
    cases b
    · replace hl : lenF y 2 = 28 := hl
      rw [hl]
      clear hl
      go_enter Tryz.func103, Tryz.ntmps103
      go_wp2_with (first | (go_at_call 152; (with_reducible refine (date_IsLeap.calls y _ _ hb.out).mono ?_); rintro e w' ⟨rfl, ⟨nd, rfl⟩⟩) | (go_at_call 153; (with_reducible refine (lengths_calls _).mono ?_); rintro en w2 ⟨rfl, hb2⟩; unfold lenV) | fail)
      go_ret
      exact ⟨rfl, below_step (pw_below_drewN (Below.refl _ _) _) hb2⟩
    · replace hl : lenF y 2 = 29 := hl
      rw [hl]
      clear hl
      go_enter Tryz.func103, Tryz.ntmps103
      go_wp2_with (first | (go_at_call 152; (with_reducible refine (date_IsLeap.calls y _ _ hb.out).mono ?_); rintro e w' ⟨rfl, ⟨nd, rfl⟩⟩) | fail)
      go_ret
      exact ⟨rfl, pw_below_drewN (Below.refl _ _) _⟩
  · rcases hm with rfl | rfl | rfl | rfl | rfl | rfl | rfl | rfl | rfl | rfl
    all_goals
      go_enter Tryz.func103, Tryz.ntmps103
      go_wp2_with (first | (go_at_call 153; (with_reducible refine (lengths_calls _).mono ?_); rintro en w2 ⟨rfl, hb2⟩; unfold lenV) | fail)
      go_ret
      exact ⟨rfl, hb2⟩
end Go.Proofs.Tt.P
namespace Go.Proofs.Tt.P
open Go Go.Proofs.Tt.Sh Go.RowKit Go.Proofs.YtnifkpljhfpdlaaGreatDoorW.PrintWords Go.Proofs.YtnifkpljhfpdlaaGreatDoorW.PrintLast Go.Proofs.YtnifkpljhfpdlaaGreatDoorW.PrintMore
set_option linter.unusedVariables false
set_option linter.unusedSimpArgs false
set_option maxHeartbeats 8000000 in
set_option maxRecDepth 100000 in
theorem begin_calls (M : Nat) (hM : M ≤ 1972) (x : Int) (hx : x = M) (w : World) : Calls Tryz.prog 72 #[.int .i64 x] w fun e w' => e = .returned (.int .i64 (begF M)) ∧ Below w.heap.size w w' := by
  obtain ⟨y, hy⟩ : ∃ y : Nat, y = M / 12 := ⟨_, rfl⟩
  obtain ⟨c, hc⟩ : ∃ c : Nat, c = M % 12 := ⟨_, rfl⟩
  have e1 : Int.tdiv x 12 = (y : Int) := by rw [Int.tdiv_eq_ediv_of_nonneg (by omega)]; omega
  have e2 : Int.tmod x 12 = (c : Int) := by rw [Int.tmod_eq_emod_of_nonneg (by omega)]; omega
  obtain ⟨Y, hY⟩ : ∃ Y : Int, Y = 1850 + (y : Int) := ⟨_, rfl⟩
  have e3 : wrap64 (Int.tdiv x 12) = (y : Int) := by rw [e1, wrapN (by omega) (by omega)]
  have e4 : wrap64 (1850 + (y : Int)) = Y := by rw [wrapN (by omega) (by omega), hY]
  have hf : date_first.f Y = some (begF (12 * y)) := by rw [hY]; exact firstP y (by omega)
  have hb : ∀ i : Nat, i < c → ∀ m : Int, m = (i : Int) + 1 → lenF Y m = begF (12 * y + i + 1) - begF (12 * y + i) := fun i hi m hm => by
    rw [begF]
    have a1 : (1850 : Int) + ((12 * y + i : Nat) : Int) / 12 = Y := by omega
    have a2 : ((12 * y + i : Nat) : Int) % 12 + 1 = m := by omega
    rw [a1, a2]; omega
  have hMc : 12 * y + c = M := by omega
  have hcl : c < 12 := by omega
  clear e1 hx hy
  replace hc := ak hc
  replace hY := ak hY
  replace hb := ak hb
  replace hMc := ak hMc
  replace hcl := ak hcl
  replace hf := ak hf
  go_enter Tryz.func72, Tryz.ntmps72
  go_wp2_with (first | (go_at_call 102; (with_reducible refine (date_first.calls Y _ _ hf.out).mono ?_); rintro e w' ⟨rfl, ⟨nd, rfl⟩⟩) | fail)
  go_loopg [4, 5] c (fun kq v4 v5 w' => ∃ (i : Nat) (n m : Int), v4 = .int .i64 n ∧ v5 = .int .i64 m ∧ Aside0 (i + kq = c ∧ n = begF (12 * y + i) ∧ m = (i : Int) + 1) ∧ Aside0 (Below w.heap.size w w'))
  case atStart => exact ⟨0, _, 1, rfl, rfl, ⟨by omega, rfl, rfl⟩, ⟨pw_below_drewN (Below.refl _ _) _⟩⟩
  case round =>
    obtain ⟨i, n, m, rfl, rfl, ⟨hi, hn, hm⟩, ⟨HR⟩⟩ := hrel
    cases gk with
    | zero =>
      have c1 : decide (m ≤ (c : Int)) = false := decide_eq_false (by omega)
      have hc0 : i = c := by omega
      have hMm := hMc.out
      clear hm hi
      replace hn := ak hn
      go_wp2
      go_ret
      exact ⟨by show Ending.returned (Value.int .i64 n) = _; rw [hn.out, hc0, hMm], HR⟩
    | succ k1 =>
      have c1 : decide (m ≤ (c : Int)) = true := decide_eq_true (by omega)
      have hl := hb.out i (by omega) m hm
      have b1 := begF_le (12 * y + i)
      have b2 := begF_le (12 * y + i + 1)
      have hcl' := hcl.out
      have hMm := hMc.out
      have hw1 := ak (show wrap64 (n + lenF Y m) = begF (12 * y + i + 1) by rw [wrapN (by omega) (by omega)]; omega)
      have hw2 := ak (show wrap64 (m + 1) = ((i + 1 : Nat) : Int) + 1 by rw [wrapN (by omega) (by omega)]; omega)
      have hm1 : 1 ≤ m := by omega
      have hm2 : m ≤ 12 := by omega
      replace hm1 := ak hm1
      replace hm2 := ak hm2
      replace hi := ak hi
      clear hm hn hl b1 b2 hcl' hMm
      replace HR := ak HR
      go_wp2_with (first | (go_at_call 103; (with_reducible refine (length_calls Y m hm1.out hm2.out _).mono ?_); rintro en w2 ⟨rfl, hb2⟩) | fail)
      go_roundg k1
      case measure => omega
      case rel => exact ⟨i + 1, _, _, rfl, rfl, ⟨by have := hi.out; omega, hw1.out, hw2.out⟩, ⟨below_step HR.out hb2⟩⟩
set_option maxHeartbeats 8000000 in
set_option maxRecDepth 100000 in
theorem days_calls (M : Nat) (hM : M ≤ 1971) (x : Int) (hx : x = M) (w : World) : Calls Tryz.prog 33 #[.int .i64 x] w fun e w' => e = .returned (.tuple #[.agg #[.int .i64 (begF M), .int .i64 (hiF M)], .int .i64 0]) ∧ Below w.heap.size w w' := by
  have hu24 := Tryz.underlying24
  have him : date_isMonth.f x = some true := by unfold date_isMonth.f; rw [if_pos (by omega)]; congr 1; exact decide_eq_true (by omega)
  have hcl := daysP M hM
  have hb1 := begF_le (M + 1)
  have hw : wrap64 (begF (M + 1) - 1) = begF (M + 1) - 1 := wrapN (by omega) (by omega)
  have hx1 : wrap64 (x + 1) = (M : Int) + 1 := by rw [wrapN (by omega) (by omega)]; omega
  have hg1 := fun (W : World) => begin_calls M (by omega) x hx W
  have hg2 := fun (W : World) => begin_calls (M + 1) (by omega) ((M : Int) + 1) (by omega) W
  clear hb1
  replace hx := ak hx
  replace him := ak him
  replace hcl := ak hcl
  go_enter Tryz.func33, Tryz.ntmps33
  go_upto_region 0 with fail
  go_cut [2, 3] from 2 to 3 (fun s2 s3 wc => ∃ g2, s2 = .pointer (some ⟨g2, 0, none⟩) ∧ s3 = .int .i64 0 ∧ w.heap.size ≤ g2 ∧ wc.heap[g2]? = some (.cells #[.int .i64 0, .int .i64 0] 24 (0, 0)) ∧ Below w.heap.size w wc)
  case first =>
    go_wp2_with fail
    go_meet
    case rel => exact ⟨_, rfl, rfl, Nat.le_refl _, blk_new w _, (Below.refl _ w).alloc (Nat.le_refl _) _⟩
  obtain ⟨g2, rfl, rfl, hg, B2, HB⟩ := hcut
  go_step
  go_step
  go_cut [6] from 4 to 6 (fun s6 wx => Below wc.heap.size wc wx)
  case first =>
    go_wp2_with (first | (go_at_call 70; (with_reducible refine (date_isMonth.calls x _ _ him.out).mono ?_); rintro e w' ⟨rfl, ⟨nd, rfl⟩⟩) | fail)
    go_meet
    case rel => exact pw_below_drewN (Below.refl _ _) _
  go_upto_region 3 with fail
  replace B2 := blk_below B2 hcut
  replace HB := below_step HB hcut
  clear hcut
  go_cut [3, 14] from 3 to 14 (fun s3 s14 wx => s3 = .int .i64 0 ∧ s14 = .agg #[.int .i64 (begF M), .int .i64 (hiF M)] ∧ wx.heap[g2]? = some (.cells #[.int .i64 (begF M), .int .i64 (hiF M)] 24 (0, 0)) ∧ Below w.heap.size w wx)
  case first =>
    replace hg := ak hg
    replace HB := ak HB
    go_wp2_with (first | (go_at_call 72; (with_reducible refine (hg1 _).mono ?_); rintro en w2 ⟨rfl, hb2⟩; replace B2 := blk_below B2 hb2; replace HB := ak (below_step HB.out hb2); clear hb2 hg1) | (go_at_call 72; (with_reducible refine (hg2 _).mono ?_); rintro en w2 ⟨rfl, hb2⟩; replace B2 := blk_below B2 hb2; replace HB := ak (below_step HB.out hb2); clear hb2 hg2) | (go_at_call 71; (with_reducible refine (date_clipped.calls _ _ _ _ _ hcl.out).mono ?_); rintro en w2 ⟨rfl, hb2⟩; replace B2 := blk_below B2 hb2; replace HB := ak (below_step HB.out hb2); clear hb2; obtain ⟨z0, z1, q0, q1⟩ := cb2 B2) | fail)
    go_meet
    case rel => exact ⟨rfl, rfl, blk_put (blk_put B2 0 _ rfl) 1 _ rfl, below_set (below_set HB.out hg.out) hg.out⟩
  obtain ⟨rfl, rfl, B3, HB3⟩ := hcut
  obtain ⟨z0, z1, q0, q1⟩ := cb2 B3
  go_wp2
  refine bodyPost_ret (v := .tuple #[.agg #[.int .i64 (begF M), .int .i64 (hiF M)], .int .i64 0]) ?_ rfl ⟨rfl, HB3⟩
  simp [results, Tryz.f33, go_sem, z0, z1, hu24]
end Go.Proofs.Tt.P
namespace Go.Proofs.Tt.P
open Go Go.Proofs.Tt.Sh Go.RowKit Go.Proofs.YtnifkpljhfpdlaaGreatDoorW.PrintWords Go.Proofs.YtnifkpljhfpdlaaGreatDoorW.PrintLast Go.Proofs.YtnifkpljhfpdlaaGreatDoorW.PrintMore
set_option linter.unusedVariables false
set_option linter.unusedSimpArgs false
def figC (x : Int × Int × Int) : List Value := [.int .i64 1, .int .i64 x.1, .slice none 0 0, .int .i64 x.2.1, .int .i64 x.2.2]
def kF : Kd (Int × Int × Int) where
  sz := 5
  E := []
  K := fun _ x cs => cs = figC x
  M := fun _ _ _ x cs => cs = figC x
  K_len := fun h => by rw [h]; rfl
  K_one := fun h u hu => by
    rw [h] at hu
    unfold figC at hu
    simp only [List.mem_cons, List.not_mem_nil, or_false] at hu
    rcases hu with rfl | rfl | rfl | rfl | rfl <;> rfl
  K_below := fun _ h => h
  K_of_M := fun h => h
  M_mono := fun _ h => h
  M_bound := fun h => h
  M_move := fun _ h => h
  M_lower := fun _ h => h
theorem info26 : (Tryz.prog.info? 26).map (fun i => (i.zero, i.size, i.bytes)) = some (some (.agg #[.int .i64 0, .int .i64 0, .slice none 0 0, .int .i64 0, .int .i64 0]), 5, 56) := by kernel_rfl
theorem at_I {w : World} {A : Option Addr} {n : Nat} {xs : List Int} (h : Kd.C kI w A n xs) (j : Nat) (hj : j < n) (x : Int) (hx : xs[j]? = some x) : ∃ ad, A = some ad ∧ w.cell? (ad.add j) = some (.int .i64 x) := by
  obtain ⟨ad, c, e, _, hK, hc0⟩ := Kd.C_get h 0 (j : Int) (by omega) (by omega)
  have hg : xs.getD ((j : Int)).toNat 0 = x := by rw [List.getD_eq_getElem?_getD, show ((j : Int)).toNat = j by omega, hx]; rfl
  rw [hg] at hK
  obtain rfl : c = [.int .i64 x] := hK
  have := hc0 0 _ rfl
  rw [show kI.sz = 1 from rfl, Nat.mul_one, show ((j : Int)).toNat = j by omega] at this
  exact ⟨ad, e, this⟩
def mFig (site : Int) (m : Int) : Int × Int × Int := (site, begF m.toNat, hiF m.toNat)
def mLoop (site : Int) (l : List Int) : List (Int × Int × Int) × Int := if l.any (fun m => hiF m.toNat == 60000) = true then ([], 4) else (l.map (mFig site), 0)
def monF (site : Int) (l : List Int) (er : Int) : List (Int × Int × Int) × Int := if site < 1 ∨ 1073741824 < site then ([], 1) else if er ≠ 0 then ([], er) else if 8 < l.length then ([], 2) else mLoop site l
def MonOut (r : List (Int × Int × Int) × Int) (w : World) (en : Ending) (w' : World) : Prop := ∃ v, en = .returned (.tuple #[v, .int .i64 r.2]) ∧ Kd.R kF 26 w' w.heap.size (fun _ => True) v r.1 ∧ Below w.heap.size w w'
set_option maxHeartbeats 8000000 in
set_option maxRecDepth 100000 in
theorem monthsP_calls {site month y0 y1 : Int} {k : Nat} {l : List Int} {er : Int} (ha : date_Alike.f k month y0 y1 = some (l, er)) (hm : ∀ m ∈ l, 0 ≤ m ∧ m ≤ 1971) (w : World) :
    Calls Tryz.prog 9 #[.int .i64 site, .int .i64 month, .agg #[.int .i64 y0, .int .i64 y1]] w (MonOut (monF site l er) w) := by
  have hu24 := Tryz.underlying24
  have hu26 := Tryz.underlying26
  have hu58 := Tryz.underlying58
  replace ha := ak ha
  replace hm := ak hm
  obtain ⟨r, hr⟩ : ∃ r, monF site l er = r := ⟨_, rfl⟩
  rw [hr]
  unfold monF at hr
  go_enter Tryz.func9, Tryz.ntmps9
  go_upto_region 0 with fail
  go_cut [5, 6, 7] from 5 to 7 (fun s5 s6 s7 wc => ∃ g5, s5 = .pointer (some ⟨g5, 0, none⟩) ∧ s6 = .slice none 0 0 ∧ s7 = .int .i64 0 ∧ wc.heap[g5]? = some (.cells #[.int .i64 y0, .int .i64 y1] 24 (0, 0)) ∧ Below w.heap.size w wc)
  case first =>
    go_wp2_with fail
    go_meet
    case rel => exact ⟨_, rfl, rfl, rfl, blk_new w _, (Below.refl _ w).alloc (Nat.le_refl _) _⟩
  obtain ⟨g5, rfl, rfl, rfl, B5, HB⟩ := hcut
  by_cases hs : site < 1 ∨ 1073741824 < site
  · rw [if_pos hs] at hr
    subst hr
    replace hs := ak hs
    go_wp2
    all_goals first
      | (exfalso; have := hs.out; omega)
      | (go_ret2; exact ⟨_, rfl, Kd.R_nil _ _ _ _ _, HB⟩)
  · rw [if_neg hs] at hr
    have s1 : decide (site < 1) = false := decide_eq_false (fun h => hs (.inl h))
    have s2 : decide (site > 1073741824) = false := decide_eq_false (fun h => hs (.inr h))
    clear hs
    replace hr := ak hr
    obtain ⟨z50, z51, q0, q1⟩ := cb2 B5
    replace HB := ak HB
    go_upto_region 3 with fail
    go_cut [8, 9] from 8 to 26 (fun s8 s9 wx => ∃ A8 c8, s8 = .slice A8 l.length c8 ∧ s9 = .int .i64 er ∧ Kd.C kI wx A8 l.length l ∧ Below w.heap.size w wx)
    case first =>
      go_wp2_with (first | (go_at_call 32; (with_reducible refine (date_Alike.calls k month y0 y1 _ _ _ ha.out).mono ?_); rintro en w2 ⟨v, rfl, hR, hb2⟩) | fail)
      go_meet
      case rel =>
        obtain ⟨A8, c8, rfl, _, hC⟩ := Kd.R_reads hR
        exact ⟨A8, c8, rfl, rfl, hC, below_step HB.out hb2⟩
    clear z50 z51 q0 q1 B5 HB ha
    obtain ⟨A8, c8, rfl, rfl, hC, HB⟩ := hcut
    replace HB := ak HB
    replace hC := ak hC
    by_cases he : er = 0
    · subst he
      rw [if_neg (by omega)] at hr
      by_cases hl : 8 < l.length
      · rw [if_pos hl] at hr
        obtain rfl := hr.out
        have l1 : decide ((l.length : Int) > 8) = true := decide_eq_true (by omega)
        have l2 : decide (8 < (l.length : Int)) = true := decide_eq_true (by omega)
        clear hr
        go_wp2
        go_ret2
        exact ⟨_, rfl, Kd.R_nil _ _ _ _ _, HB.out⟩
      · rw [if_neg hl] at hr
        have l1 : decide ((l.length : Int) > 8) = false := decide_eq_false (by omega)
        have l2 : decide (8 < (l.length : Int)) = false := decide_eq_false (by omega)
        go_wp2
        generalize hW0 : wc = W0 at HB hC ⊢
        clear hW0
        go_loopg [10, 35] l.length (fun kq v10 v35 w' => ∃ (i : Nat) (x : Int), v35 = .int .i64 x ∧ Aside0 (x = i ∧ i + kq = l.length ∧ (l.take i).any (fun m => hiF m.toNat == 60000) = false) ∧ Aside0 (Kd.R kF 26 w' W0.heap.size (fun _ => True) v10 ((l.take i).map (mFig site))) ∧ Aside0 (Below W0.heap.size W0 w'))
        case atStart => exact ⟨0, 0, rfl, ⟨rfl, by omega, rfl⟩, ⟨Kd.R_nil _ _ _ _ _⟩, ⟨Below.refl _ _⟩⟩
        case round =>
          obtain ⟨i, x, rfl, ⟨hx, hi, hany⟩, hR, HR⟩ := hrel
          cases gk with
          | zero =>
            have c1 : decide (x < (l.length : Int)) = false := decide_eq_false (by omega)
            have ht : l.take i = l := List.take_of_length_le (by omega)
            rw [ht] at hany hR
            have hr2 := hr.out
            unfold mLoop at hr2
            rw [hany, if_neg (by decide)] at hr2
            subst hr2
            clear hx hi hr
            go_wp2
            go_ret2
            exact ⟨_, rfl, Kd.R_lower hR.out HB.out.size, below_step HB.out HR.out⟩
          | succ k1 =>
            have hlt : i < l.length := by omega
            have c1 : decide (x < (l.length : Int)) = true := decide_eq_true (by omega)
            obtain ⟨m, hmi⟩ : ∃ m, l[i]? = some m := ⟨_, List.getElem?_eq_getElem hlt⟩
            have hml : m ∈ l := List.mem_of_getElem? hmi
            have hmb := hm.out m hml
            have htk : l.take (i + 1) = l.take i ++ [m] := by rw [List.take_add_one, hmi]; rfl
            obtain ⟨ad1, e1', h10⟩ := at_I (Kd.C_below hC.out HR.out) i hlt m hmi
            subst e1'
            have hxi : x.toNat = i := by omega
            have px : (0 ≤ x) = True := eq_true (by omega)
            have qx : (x < (l.length : Int)) = True := eq_true (by omega)
            have hw := ak (show wrap64 (x + 1) = ((i + 1 : Nat) : Int) by rw [hx, wrapN (by omega) (by omega)]; rfl)
            rw [← hxi] at h10
            replace hxi := ak hxi
            replace hx := ak hx
            replace hi := ak hi
            replace htk := ak htk
            replace hmb := ak hmb
            have hcap := ak (show (((l.take i).map (mFig site)).length + 1) * 56 ≤ 140737488355328 by simp; omega)
            have hd := fun (W : World) => days_calls m.toNat (by have := hmb.out; omega) m (by have := hmb.out; omega) W
            go_upto_region 12 with fail
            go_cut [13, 14, 39, 40, 41, 42, 43] (fun s13 s14 s39 s40 s41 s42 s43 wx => ∃ g13, s13 = .pointer (some ⟨g13, 0, none⟩) ∧ s14 = .int .i64 0 ∧ wx.heap[g13]? = some (.cells #[.int .i64 (begF m.toNat), .int .i64 (hiF m.toNat)] 24 (0, 0)) ∧ Below wr.heap.size wr wx)
            case first =>
              go_wp2_with (first | (go_at_call 33; (with_reducible refine (hd _).mono ?_); rintro en w2 ⟨rfl, hb2⟩) | fail)
              go_meet
              case rel => exact ⟨_, rfl, rfl, blk_new w2 _, hb2.trans (((Below.refl _ w2).alloc (Nat.le_refl _) _).mono hb2.size)⟩
            obtain ⟨g13, rfl, rfl, B13, hb2⟩ := hcut
            replace hR := ak (Kd.R_below hR.out hb2)
            replace HR := ak (below_step HR.out hb2)
            clear hb2 hd h10 px qx
            obtain ⟨z0, z1, q0, q1⟩ := cb2 B13
            by_cases hh : hiF m.toNat = 60000
            · have h1 : (hiF m.toNat == 60000) = true := beq_iff_eq.2 hh
              have hr2 := hr.out
              unfold mLoop at hr2
              rw [if_pos (List.any_eq_true.2 ⟨m, hml, h1⟩)] at hr2
              subst hr2
              clear hr hh
              go_wp2
              go_ret2
              exact ⟨_, rfl, Kd.R_nil _ _ _ _ _, below_step HB.out HR.out⟩
            · have h1 : (hiF m.toNat == 60000) = false := beq_eq_false_iff_ne.2 hh
              have hany2 := ak (show (l.take (i + 1)).any (fun m => hiF m.toNat == 60000) = false by rw [htk.out, List.any_append, hany]; simp [h1])
              clear hh
              obtain ⟨X, hX⟩ : ∃ X, X = (l.take i).map (mFig site) := ⟨_, rfl⟩
              rw [← hX] at hR hcap
              replace hX := ak hX
              obtain ⟨A10, k10, ev⟩ := Kd.R_slice hR.out
              subst ev
              go_wp2_with (first | ((with_reducible refine gate_builtin (b := .append) (xs := #[.tmp 50, .tmp 54]) rfl ?_); at_builtin; refine Kd.R_append kF (w0 := W0) W0.heap.size rfl (.tmp 50) (.tmp 54) 37 26 (.agg #[.int .i64 0, .int .i64 0, .slice none 0 0, .int .i64 0, .int .i64 0]) 56 rfl Tryz.underlying37 info26 rfl (by decide) (by omega) (.slice A10 X.length k10) X (mFig site m) [.int .i64 1, .int .i64 site, .slice none 0 0, .int .i64 (begF m.toNat), .int .i64 (hiF m.toNat)] (fun _ => True) (fun _ => False) rfl rfl rfl (fun _ hk => hk.elim) (fun _ _ => trivial) hR.out HR.out HR.out.size hcap.out ?_; intro v3 w3 ho3 hb3 hg3 _) | fail)
              go_roundg k1
              case measure => omega
              case rel => exact ⟨i + 1, wrap64 (x + 1), rfl, ⟨hw.out, by have := hi.out; omega, hany2.out⟩, ⟨by rw [htk.out, List.map_append, ← hX.out]; exact ho3⟩, ⟨hb3⟩⟩
    · have e1 : (er != 0) = true := by simpa using he
      rw [if_pos he] at hr
      obtain rfl := hr.out
      clear hr
      go_wp2
      go_ret2
      exact ⟨_, rfl, Kd.R_nil _ _ _ _ _, HB.out⟩
end Go.Proofs.Tt.P
namespace Go.Proofs.Tt.P
open Go Go.Proofs.Tt.Sh Go.RowKit Go.Proofs.YtnifkpljhfpdlaaGreatDoorW.PrintWords Go.Proofs.YtnifkpljhfpdlaaGreatDoorW.PrintLast Go.Proofs.YtnifkpljhfpdlaaGreatDoorW.PrintMore
set_option linter.unusedVariables false
set_option linter.unusedSimpArgs false
theorem daysR_calls (M : Nat) (hM : M ≤ 1971) (x : Int) (hx : x = M) (w : World) : Calls Tryz.prog 35 #[.int .i64 x] w fun e w' => e = .returned (.agg #[.int .i64 (begF M), .int .i64 (hiF M)]) ∧ Below w.heap.size w w' := by
  subst hx
  exact udometerref01_Days.calls 2002 _ _ _ w (daysR M hM)
def badM (site month y0 y1 : Int) : Prop := site < 1 ∨ 1073741824 < site ∨ month < 0 ∨ 1971 < month ∨ y0 < 1850 ∨ y1 < y0 ∨ 2014 < y1
instance (a b c d : Int) : Decidable (badM a b c d) := by unfold badM; infer_instance
def monR (site month y0 y1 : Int) (l : List Int) : List (Int × Int × Int) × Int := if badM site month y0 y1 then ([], 1) else if 8 < l.length then ([], 2) else mLoop site l
set_option maxHeartbeats 8000000 in
set_option maxRecDepth 100000 in
theorem monthsR_calls {site month y0 y1 : Int} {k : Nat} {l : List Int} (ha : ¬ badM site month y0 y1 → udometerref01_Alike.f k month y0 y1 = some l) (hm : ∀ m ∈ l, 0 ≤ m ∧ m ≤ 1971) (w : World) :
    Calls Tryz.prog 10 #[.int .i64 site, .int .i64 month, .agg #[.int .i64 y0, .int .i64 y1]] w (MonOut (monR site month y0 y1 l) w) := by
  have hu24 := Tryz.underlying24
  have hu26 := Tryz.underlying26
  have hu58 := Tryz.underlying58
  replace ha := ak ha
  replace hm := ak hm
  obtain ⟨r, hr⟩ : ∃ r, monR site month y0 y1 l = r := ⟨_, rfl⟩
  rw [hr]
  unfold monR at hr
  go_enter Tryz.func10, Tryz.ntmps10
  go_upto_region 0 with fail
  go_cut [5, 6, 7] from 5 to 7 (fun s5 s6 s7 wc => ∃ g5, s5 = .pointer (some ⟨g5, 0, none⟩) ∧ s6 = .slice none 0 0 ∧ s7 = .int .i64 0 ∧ wc.heap[g5]? = some (.cells #[.int .i64 y0, .int .i64 y1] 24 (0, 0)) ∧ Below w.heap.size w wc)
  case first =>
    go_wp2_with fail
    go_meet
    case rel => exact ⟨_, rfl, rfl, rfl, blk_new w _, (Below.refl _ w).alloc (Nat.le_refl _) _⟩
  obtain ⟨g5, rfl, rfl, rfl, B5, HB⟩ := hcut
  obtain ⟨z50, z51, q0, q1⟩ := cb2 B5
  by_cases hs : badM site month y0 y1
  · rw [if_pos hs] at hr
    subst hr
    unfold badM at hs
    replace hs := ak hs
    replace HB := ak HB
    go_wp2
    all_goals first
      | (exfalso; have := hs.out; omega)
      | (go_ret2; exact ⟨_, rfl, Kd.R_nil _ _ _ _ _, HB.out⟩)
  · rw [if_neg hs] at hr
    have ha2 := ak (ha.out hs)
    unfold badM at hs
    have s1 : decide (site < 1) = false := decide_eq_false (by omega)
    have s2 : decide (site > 1073741824) = false := decide_eq_false (by omega)
    have s3 : decide (month < 0) = false := decide_eq_false (by omega)
    have s4 : decide (month > 1971) = false := decide_eq_false (by omega)
    have s5 : decide (y0 < 1850) = false := decide_eq_false (by omega)
    have s6 : decide (y0 > y1) = false := decide_eq_false (by omega)
    have s7 : decide (y1 > 2014) = false := decide_eq_false (by omega)
    clear hs ha
    replace hr := ak hr
    replace HB := ak HB
    go_upto_region 3 with fail
    go_cut [8] from 8 to 45 (fun s8 wx => ∃ A8 c8, s8 = .slice A8 l.length c8 ∧ Kd.C kI wx A8 l.length l ∧ Below w.heap.size w wx)
    case first =>
      go_wp2_with (first | (go_at_call 34; (with_reducible refine (udometerref01_Alike.calls k month y0 y1 _ _ ha2.out).mono ?_); rintro en w2 ⟨v, rfl, hR, hb2⟩) | fail)
      go_meet
      case rel =>
        obtain ⟨A8, c8, rfl, _, hC⟩ := Kd.R_reads hR
        exact ⟨A8, c8, rfl, hC, below_step HB.out hb2⟩
    clear z50 z51 q0 q1 B5 HB ha2 s1 s2 s3 s4 s5 s6 s7
    obtain ⟨A8, c8, rfl, hC, HB⟩ := hcut
    replace HB := ak HB
    replace hC := ak hC
    by_cases hl : 8 < l.length
    · rw [if_pos hl] at hr
      obtain rfl := hr.out
      have l1 : decide ((l.length : Int) > 8) = true := decide_eq_true (by omega)
      have l2 : decide (8 < (l.length : Int)) = true := decide_eq_true (by omega)
      clear hr
      go_wp2
      go_ret2
      exact ⟨_, rfl, Kd.R_nil _ _ _ _ _, HB.out⟩
    · rw [if_neg hl] at hr
      have l1 : decide ((l.length : Int) > 8) = false := decide_eq_false (by omega)
      have l2 : decide (8 < (l.length : Int)) = false := decide_eq_false (by omega)
      go_wp2
      generalize hW0 : wc = W0 at HB hC ⊢
      clear hW0
      go_loopg [9, 10] l.length (fun kq v9 v10 w' => ∃ (i : Nat) (x : Int), v10 = .int .i64 x ∧ Aside0 (x = i ∧ i + kq = l.length ∧ (l.take i).any (fun m => hiF m.toNat == 60000) = false) ∧ Aside0 (Kd.R kF 26 w' W0.heap.size (fun _ => True) v9 ((l.take i).map (mFig site))) ∧ Aside0 (Below W0.heap.size W0 w'))
      case atStart => exact ⟨0, 0, rfl, ⟨rfl, by omega, rfl⟩, ⟨Kd.R_nil _ _ _ _ _⟩, ⟨Below.refl _ _⟩⟩
      case round =>
        obtain ⟨i, x, rfl, ⟨hx, hi, hany⟩, hR, HR⟩ := hrel
        cases gk with
        | zero =>
          have c1 : decide (x < (l.length : Int)) = false := decide_eq_false (by omega)
          have ht : l.take i = l := List.take_of_length_le (by omega)
          rw [ht] at hany hR
          have hr2 := hr.out
          unfold mLoop at hr2
          rw [hany, if_neg (by decide)] at hr2
          subst hr2
          clear hx hi hr
          go_wp2
          go_ret2
          exact ⟨_, rfl, Kd.R_lower hR.out HB.out.size, below_step HB.out HR.out⟩
        | succ k1 =>
          have hlt : i < l.length := by omega
          have c1 : decide (x < (l.length : Int)) = true := decide_eq_true (by omega)
          obtain ⟨m, hmi⟩ : ∃ m, l[i]? = some m := ⟨_, List.getElem?_eq_getElem hlt⟩
          have hml : m ∈ l := List.mem_of_getElem? hmi
          have hmb := hm.out m hml
          have htk : l.take (i + 1) = l.take i ++ [m] := by rw [List.take_add_one, hmi]; rfl
          obtain ⟨ad1, e1', h10⟩ := at_I (Kd.C_below hC.out HR.out) i hlt m hmi
          subst e1'
          have hxi : x.toNat = i := by omega
          have px : (0 ≤ x) = True := eq_true (by omega)
          have qx : (x < (l.length : Int)) = True := eq_true (by omega)
          have hw := ak (show wrap64 (x + 1) = ((i + 1 : Nat) : Int) by rw [hx, wrapN (by omega) (by omega)]; rfl)
          rw [← hxi] at h10
          replace hxi := ak hxi
          replace hx := ak hx
          replace hi := ak hi
          replace htk := ak htk
          replace hmb := ak hmb
          have hcap := ak (show (((l.take i).map (mFig site)).length + 1) * 56 ≤ 140737488355328 by simp; omega)
          have hd := fun (W : World) => daysR_calls m.toNat (by have := hmb.out; omega) m (by have := hmb.out; omega) W
          go_upto_region 10 with fail
          go_cut [11, 55, 56, 57, 58, 59] (fun s11 s55 s56 s57 s58 s59 wx => ∃ g13, s11 = .pointer (some ⟨g13, 0, none⟩) ∧ wx.heap[g13]? = some (.cells #[.int .i64 (begF m.toNat), .int .i64 (hiF m.toNat)] 24 (0, 0)) ∧ Below wr.heap.size wr wx)
          case first =>
            go_wp2_with (first | (go_at_call 35; (with_reducible refine (hd _).mono ?_); rintro en w2 ⟨rfl, hb2⟩) | fail)
            go_meet
            case rel => exact ⟨_, rfl, blk_new w2 _, hb2.trans (((Below.refl _ w2).alloc (Nat.le_refl _) _).mono hb2.size)⟩
          obtain ⟨g13, rfl, B13, hb2⟩ := hcut
          replace hR := ak (Kd.R_below hR.out hb2)
          replace HR := ak (below_step HR.out hb2)
          clear hb2 hd h10 px qx
          obtain ⟨z0, z1, q0, q1⟩ := cb2 B13
          by_cases hh : hiF m.toNat = 60000
          · have h1 : (hiF m.toNat == 60000) = true := beq_iff_eq.2 hh
            have hr2 := hr.out
            unfold mLoop at hr2
            rw [if_pos (List.any_eq_true.2 ⟨m, hml, h1⟩)] at hr2
            subst hr2
            clear hr hh
            go_wp2
            go_ret2
            exact ⟨_, rfl, Kd.R_nil _ _ _ _ _, below_step HB.out HR.out⟩
          · have h1 : (hiF m.toNat == 60000) = false := beq_eq_false_iff_ne.2 hh
            have hany2 := ak (show (l.take (i + 1)).any (fun m => hiF m.toNat == 60000) = false by rw [htk.out, List.any_append, hany]; simp [h1])
            clear hh
            obtain ⟨X, hX⟩ : ∃ X, X = (l.take i).map (mFig site) := ⟨_, rfl⟩
            rw [← hX] at hR hcap
            replace hX := ak hX
            obtain ⟨A10, k10, ev⟩ := Kd.R_slice hR.out
            subst ev
            go_wp2_with (first | ((with_reducible refine gate_builtin (b := .append) (xs := #[.tmp 63, .tmp 67]) rfl ?_); at_builtin; refine Kd.R_append kF (w0 := W0) W0.heap.size rfl (.tmp 63) (.tmp 67) 37 26 (.agg #[.int .i64 0, .int .i64 0, .slice none 0 0, .int .i64 0, .int .i64 0]) 56 rfl Tryz.underlying37 info26 rfl (by decide) (by omega) (.slice A10 X.length k10) X (mFig site m) [.int .i64 1, .int .i64 site, .slice none 0 0, .int .i64 (begF m.toNat), .int .i64 (hiF m.toNat)] (fun _ => True) (fun _ => False) rfl rfl rfl (fun _ hk => hk.elim) (fun _ _ => trivial) hR.out HR.out HR.out.size hcap.out ?_; intro v3 w3 ho3 hb3 hg3 _) | fail)
            go_roundg k1
            case measure => omega
            case rel => exact ⟨i + 1, wrap64 (x + 1), rfl, ⟨hw.out, by have := hi.out; omega, hany2.out⟩, ⟨by rw [htk.out, List.map_append, ← hX.out]; exact ho3⟩, ⟨hb3⟩⟩
end Go.Proofs.Tt.P
namespace Go.Proofs.Tt.P
open Go Go.Proofs.Tt.Sh Go.RowKit Go.Proofs.YtnifkpljhfpdlaaGreatDoorW.PrintWords Go.Proofs.YtnifkpljhfpdlaaGreatDoorW.PrintLast Go.Proofs.YtnifkpljhfpdlaaGreatDoorW.PrintMore
set_option linter.unusedVariables false
set_option linter.unusedSimpArgs false
def alM (c n : Nat) : List Int := if 12 * n + c ≤ 1971 then [((12 * n + c : Nat) : Int)] else []
def alA (c : Nat) : Nat → Nat → List Int
  | _, 0 => []
  | n, cnt + 1 => alM c n ++ alA c (n + 1) cnt
def alB (c : Nat) : Nat → Nat → List Int
  | _, 0 => []
  | m, cnt + 1 => if m ≤ 1971 then (if m % 12 = c then [(m : Int)] else []) ++ alB c (m + 1) cnt else []
theorem alB_in {c m cnt : Nat} (h : m ≤ 1971) (d : m % 12 = c) : alB c m (cnt + 1) = [(m : Int)] ++ alB c (m + 1) cnt := by rw [alB, if_pos h, if_pos d]
theorem alB_out {c m cnt : Nat} (h : m ≤ 1971) (d : ¬ m % 12 = c) : alB c m (cnt + 1) = alB c (m + 1) cnt := by rw [alB, if_pos h, if_neg d, List.nil_append]
theorem alB_skip {c : Nat} : ∀ (j m k : Nat), m + j ≤ 1972 → (∀ i, i < j → ¬ (m + i) % 12 = c) → alB c m (j + k) = alB c (m + j) k
  | 0, m, k, _, _ => by rw [Nat.zero_add, Nat.add_zero]
  | j + 1, m, k, h, d => by
    rw [show j + 1 + k = (j + k) + 1 by omega, alB_out (c := c) (m := m) (by omega) (by have := d 0 (by omega); rwa [Nat.add_zero] at this), alB_skip j (m + 1) k (by omega) (fun i hi => by have := d (i + 1) (by omega); rwa [show m + 1 + i = m + (i + 1) by omega]), show m + 1 + j = m + (j + 1) by omega]
theorem alB_year {c n : Nat} (hc : c < 12) (hn : n < 164) (k : Nat) : alB c (12 * n) (12 + k) = alM c n ++ alB c (12 * (n + 1)) k := by
  rw [show 12 + k = c + (((11 - c) + k) + 1) by omega, alB_skip c (12 * n) _ (by omega) (fun i hi => by omega), alB_in (by omega) (by omega), alB_skip (11 - c) (12 * n + c + 1) k (by omega) (fun i hi => by omega), show 12 * n + c + 1 + (11 - c) = 12 * (n + 1) by omega]
  unfold alM
  rw [if_pos (by omega)]
theorem alB_last {c : Nat} (hc : c < 12) : alB c (12 * 164) 12 = alM c 164 := by
  have : c = 0 ∨ c = 1 ∨ c = 2 ∨ c = 3 ∨ c = 4 ∨ c = 5 ∨ c = 6 ∨ c = 7 ∨ c = 8 ∨ c = 9 ∨ c = 10 ∨ c = 11 := by omega
  rcases this with rfl | rfl | rfl | rfl | rfl | rfl | rfl | rfl | rfl | rfl | rfl | rfl <;> decide +kernel
theorem alB_A {c : Nat} (hc : c < 12) : ∀ (cnt n : Nat), n + cnt ≤ 165 → alB c (12 * n) (12 * cnt) = alA c n cnt
  | 0, n, _ => rfl
  | cnt + 1, n, h => by
    by_cases hn : n < 164
    · rw [show 12 * (cnt + 1) = 12 + 12 * cnt by omega, alB_year hc hn, alB_A hc cnt (n + 1) (by omega), alA]
    · obtain rfl : n = 164 := by omega
      obtain rfl : cnt = 0 := by omega
      rw [alA, alA, List.append_nil]
      exact alB_last hc
theorem alA_mem {c : Nat} : ∀ (cnt n : Nat) (m : Int), m ∈ alA c n cnt → 0 ≤ m ∧ m ≤ 1971
  | 0, n, m, h => by cases h
  | cnt + 1, n, m, h => by
    rw [alA, List.mem_append] at h
    rcases h with h | h
    · unfold alM at h
      split at h
      · rw [List.mem_singleton] at h; omega
      · cases h
    · exact alA_mem cnt (n + 1) m h
theorem alA_len {c : Nat} : ∀ (cnt n : Nat), (alA c n cnt).length ≤ cnt
  | 0, n => Nat.le_refl _
  | cnt + 1, n => by
    have := alA_len (c := c) cnt (n + 1)
    have h2 : (alM c n).length ≤ 1 := by unfold alM; split <;> simp
    rw [alA, List.length_append]; omega
theorem mon_val {x : Int} {c n : Nat} (hx : 0 ≤ x) (hc : x % 12 = (c : Int)) (hn : n ≤ 200) (h12 : c < 12) : wrap64 (wrap64 (12 * (wrap64 (1850 + (n : Int) - 1850))) + Int.tmod x 12) = ((12 * n + c : Nat) : Int) := by
  have e1 : 1850 + (n : Int) - 1850 = n := by omega
  have e2 : Int.tmod x 12 = (c : Int) := by rw [Int.tmod_eq_emod_of_nonneg hx, hc]
  have w1 : wrap64 (n : Int) = n := wrapN (by omega) (by omega)
  have w2 : wrap64 (12 * (n : Int)) = 12 * (n : Int) := wrapN (by omega) (by omega)
  have w3 : wrap64 (12 * (n : Int) + (c : Int)) = 12 * (n : Int) + (c : Int) := wrapN (by omega) (by omega)
  rw [e1, e2, w1, w2, w3]
  push_cast
  rfl
theorem isM {m : Nat} : date_isMonth.f ((m : Nat) : Int) = some (decide (m ≤ 1971)) := by
  unfold date_isMonth.f
  rw [if_pos (by omega)]
  congr 1
  exact decide_eq_decide.2 (by omega)
theorem al_end (k : Nat) (x : Int) (acc : List Int) (y y0 y1 : Int) (h : ¬ y ≤ y1) : date_Alike.l0 (k + 1) x acc y y0 y1 = some (acc, 0) := by
  rw [date_Alike.l0, if_neg h]
theorem al_in (k : Nat) (x : Int) (acc : List Int) (n c : Nat) (y0 y1 : Int) (hx : 0 ≤ x) (hc : x % 12 = (c : Int)) (hn : n ≤ 200) (h12 : c < 12) (h : 1850 + (n : Int) ≤ y1) (hl : acc.length ≤ n) :
    date_Alike.l0 (k + 1) x acc (1850 + (n : Int)) y0 y1 = date_Alike.l0 k x (acc ++ alM c n) (1850 + ((n + 1 : Nat) : Int)) y0 y1 := by
  have w1 : wrap64 (1850 + (n : Int) + 1) = 1850 + ((n + 1 : Nat) : Int) := by rw [wrapN (by omega) (by omega)]; omega
  have hlen : acc.length < 17592186044416 := by omega
  rw [date_Alike.l0, if_pos h, mon_val hx hc hn h12, isM, Option.bind_some, w1]
  unfold alM
  by_cases hm : 12 * n + c ≤ 1971
  · rw [decide_eq_true hm, if_pos rfl, if_pos hlen, if_pos hm]
  · rw [decide_eq_false hm, if_neg (by decide), if_neg hm, List.append_nil]
theorem alP {x : Int} {c : Nat} (hx : 0 ≤ x) (hc : x % 12 = (c : Int)) (h12 : c < 12) (y0 y1 : Int) : ∀ (cnt k n : Nat) (acc : List Int), n + cnt ≤ 165 → y1 = 1849 + (n : Int) + cnt → acc.length ≤ n → date_Alike.l0 (cnt + 1 + k) x acc (1850 + (n : Int)) y0 y1 = some (acc ++ alA c n cnt, 0)
  | 0, k, n, acc, h, hy, hl => by
    rw [show 0 + 1 + k = k + 1 by omega, al_end k x acc _ y0 y1 (by omega), alA, List.append_nil]
  | cnt + 1, k, n, acc, h, hy, hl => by
    have h2 : (acc ++ alM c n).length ≤ n + 1 := by
      have h2 : (alM c n).length ≤ 1 := by unfold alM; split <;> simp
      rw [List.length_append]; omega
    rw [show cnt + 1 + 1 + k = (cnt + 1 + k) + 1 by omega, al_in _ x acc n c y0 y1 hx hc (by omega) h12 (by omega) hl, alP hx hc h12 y0 y1 cnt k (n + 1) _ (by omega) (by omega) h2, alA, List.append_assoc]
theorem rl_end (k : Nat) (x : Int) (acc : List Int) (m : Nat) (y0 y1 : Int) (h : ¬ (m : Int) < wrap64 (12 * (wrap64 (y1 - 1849)))) : udometerref01_Alike.l0 (k + 2) x acc m y0 y1 = some acc := by
  rw [udometerref01_Alike.l0, if_neg h, udometerref01_Alike.j1, if_neg (by decide)]
theorem rl_far (k : Nat) (x : Int) (acc : List Int) (m : Nat) (y0 y1 : Int) (h : (m : Int) < wrap64 (12 * (wrap64 (y1 - 1849)))) (hm : ¬ m ≤ 1971) : udometerref01_Alike.l0 (k + 2) x acc m y0 y1 = some acc := by
  rw [udometerref01_Alike.l0, if_pos h, udometerref01_Alike.j1, decide_eq_false (show ¬ (m : Int) ≤ 1971 by omega), if_neg (by decide)]
theorem rl_in (k : Nat) (x : Int) (acc : List Int) (m c : Nat) (y0 y1 : Int) (hx : 0 ≤ x) (hc : x % 12 = (c : Int)) (h : (m : Int) < wrap64 (12 * (wrap64 (y1 - 1849)))) (hm : m ≤ 1971) (hl : acc.length ≤ m) :
    udometerref01_Alike.l0 (k + 2) x acc m y0 y1 = udometerref01_Alike.l0 k x (acc ++ if m % 12 = c then [(m : Int)] else []) ((m + 1 : Nat) : Int) y0 y1 := by
  have e2 : Int.tmod x 12 = (c : Int) := by rw [Int.tmod_eq_emod_of_nonneg hx, hc]
  have e3 : Int.tmod (m : Int) 12 = ((m % 12 : Nat) : Int) := by rw [Int.tmod_eq_emod_of_nonneg (by omega)]; omega
  have w1 : wrap64 ((m : Int) + 1) = ((m + 1 : Nat) : Int) := by rw [wrapN (by omega) (by omega)]; omega
  have hlen : acc.length < 17592186044416 := by omega
  rw [udometerref01_Alike.l0, if_pos h, udometerref01_Alike.j1, decide_eq_true (show (m : Int) ≤ 1971 by omega), if_pos rfl, e2, e3, w1]
  by_cases hd : m % 12 = c
  · rw [if_pos (by omega), if_pos hlen, if_pos hd]
  · rw [if_neg (by omega), if_neg hd, List.append_nil]
theorem alR {x : Int} {c : Nat} (hx : 0 ≤ x) (hc : x % 12 = (c : Int)) (y0 y1 : Int) (e : Nat) (he : wrap64 (12 * (wrap64 (y1 - 1849))) = (e : Int)) : ∀ (cnt k m : Nat) (acc : List Int), m + cnt = e → acc.length ≤ m → udometerref01_Alike.l0 (2 * cnt + 2 + k) x acc m y0 y1 = some (acc ++ alB c m cnt)
  | 0, k, m, acc, h, hl => by
    rw [show 2 * 0 + 2 + k = k + 2 by omega, rl_end k x acc m y0 y1 (by omega), alB, List.append_nil]
  | cnt + 1, k, m, acc, h, hl => by
    by_cases hm : m ≤ 1971
    · have h2 : (acc ++ if m % 12 = c then [(m : Int)] else []).length ≤ m + 1 := by
        have h2 : (if m % 12 = c then [(m : Int)] else []).length ≤ 1 := by split <;> simp
        rw [List.length_append]; omega
      rw [show 2 * (cnt + 1) + 2 + k = (2 * cnt + 2 + k) + 2 by omega, rl_in _ x acc m c y0 y1 hx hc (by omega) hm hl, alR hx hc y0 y1 e he cnt k (m + 1) _ (by omega) h2, alB, if_pos hm, List.append_assoc]
    · rw [show 2 * (cnt + 1) + 2 + k = (2 * cnt + 2 + k) + 2 by omega, rl_far _ x acc m y0 y1 (by omega) hm, alB, if_neg hm, List.append_nil]
theorem aP_bad (k : Nat) {m y0 y1 : Int} (h : m < 0 ∨ 1971 < m ∨ y0 < 1850 ∨ y1 < y0 ∨ 2014 < y1) : date_Alike.f (k + 1) m y0 y1 = some ([], 1) := by
  have hj : ∀ b, b = true → date_Alike.j0 (k + 1) m b y0 y1 = some ([], 1) := fun b hb => by rw [date_Alike.j0, if_pos hb]
  unfold date_Alike.f date_isMonth.f
  by_cases h0 : m ≥ 0
  · rw [if_pos h0, Option.bind_some]
    by_cases h1 : m ≤ 1971
    · rw [decide_eq_true h1, if_pos rfl]
      by_cases h2 : y0 < 1850
      · rw [if_pos h2]; exact hj _ rfl
      · rw [if_neg h2]
        by_cases h3 : y0 > y1
        · rw [if_pos h3]; exact hj _ rfl
        · rw [if_neg h3]; exact hj _ (decide_eq_true (by omega))
    · rw [decide_eq_false h1, if_neg (by decide)]; exact hj _ rfl
  · rw [if_neg h0, Option.bind_some, if_neg (by decide)]; exact hj _ rfl
theorem aP_good (k : Nat) {m y0 y1 : Int} (h : ¬ (m < 0 ∨ 1971 < m ∨ y0 < 1850 ∨ y1 < y0 ∨ 2014 < y1)) : date_Alike.f (k + 1) m y0 y1 = date_Alike.l0 k m [] y0 y0 y1 := by
  unfold date_Alike.f date_isMonth.f
  rw [if_pos (show m ≥ 0 by omega), Option.bind_some, decide_eq_true (show m ≤ 1971 by omega), if_pos rfl, if_neg (show ¬ y0 < 1850 by omega), if_neg (show ¬ y0 > y1 by omega), decide_eq_false (show ¬ y1 > 2014 by omega), date_Alike.j0, if_neg (by decide)]
theorem months_eq (site month y0 y1 : Int) : ∃ (k k' : Nat) (l l' : List Int) (er : Int), date_Alike.f k month y0 y1 = some (l, er) ∧ (∀ m ∈ l, 0 ≤ m ∧ m ≤ 1971) ∧ (¬ badM site month y0 y1 → udometerref01_Alike.f k' month y0 y1 = some l') ∧ (∀ m ∈ l', 0 ≤ m ∧ m ≤ 1971) ∧ monF site l er = monR site month y0 y1 l' := by
  by_cases hb : month < 0 ∨ 1971 < month ∨ y0 < 1850 ∨ y1 < y0 ∨ 2014 < y1
  · refine ⟨1, 0, [], [], 1, aP_bad 0 hb, (fun m h => (List.not_mem_nil h).elim), (fun h => absurd ?_ h), (fun m h => (List.not_mem_nil h).elim), ?_⟩
    · unfold badM; omega
    · unfold monF monR
      rw [if_pos (show badM site month y0 y1 by unfold badM; omega)]
      split
      · rfl
      · rw [if_pos (by decide)]
  · obtain ⟨n, hn⟩ : ∃ n : Nat, y0 = 1850 + (n : Int) := ⟨(y0 - 1850).toNat, by omega⟩
    obtain ⟨cnt, hcnt⟩ : ∃ cnt : Nat, y1 = 1849 + (n : Int) + cnt := ⟨(y1 - y0 + 1).toNat, by omega⟩
    obtain ⟨c, hc⟩ : ∃ c : Nat, month % 12 = (c : Int) := ⟨(month % 12).toNat, by omega⟩
    have hm0 : 0 ≤ month := by omega
    have h12 : c < 12 := by omega
    have hle : n + cnt ≤ 165 := by omega
    have w1 : wrap64 (y0 - 1850) = (n : Int) := by rw [wrapN (by omega) (by omega)]; omega
    have w2 : wrap64 (12 * (n : Int)) = ((12 * n : Nat) : Int) := by rw [wrapN (by omega) (by omega)]; omega
    have w3 : wrap64 (12 * (wrap64 (y1 - 1849))) = ((12 * n + 12 * cnt : Nat) : Int) := by
      have w4 : wrap64 (y1 - 1849) = (n : Int) + cnt := by rw [wrapN (by omega) (by omega)]; omega
      rw [w4, wrapN (by omega) (by omega)]; omega
    refine ⟨(cnt + 1 + 0) + 1, 2 * (12 * cnt) + 2 + 0, alA c n cnt, alA c n cnt, 0, ?_, alA_mem cnt n, fun _ => ?_, alA_mem cnt n, ?_⟩
    · rw [aP_good _ hb, hn, alP hm0 hc h12 _ y1 cnt 0 n [] hle hcnt (Nat.zero_le _), List.nil_append]
    · unfold udometerref01_Alike.f
      rw [w1, w2, alR hm0 hc y0 y1 _ w3 (12 * cnt) 0 (12 * n) [] rfl (Nat.zero_le _), List.nil_append, alB_A h12 cnt n hle]
    · unfold monF monR
      by_cases hs : site < 1 ∨ 1073741824 < site
      · rw [if_pos hs, if_pos (show badM site month y0 y1 by unfold badM; omega)]
      · rw [if_neg hs, if_neg (show ¬ badM site month y0 y1 by unfold badM; omega), if_neg (by decide)]
end Go.Proofs.Tt.P
