/- What is proved: the law's function returns true at every input, if the example's run does (Sane). The condition stands in each theorem. -/
import Derived.Test.YtemomehoikbegaaGreatDoorGates
import Derived.WalkKit
import Derived.ProofKit

namespace Go.Ab
open Go.Proofs Go.RowKit
set_option maxHeartbeats 400000 in
theorem judge_out (op lo hi : Int) (w : World) (h : op < 0 ∨ 6 < op) :
    Calls Tryz.prog 4 #[.int .i64 op, .agg #[.int .i64 lo, .int .i64 hi]] w fun e w' => e = .returned (.tuple #[.int .i64 0, .int .i64 1]) ∧ w' = w.alloc (.cells #[.int .i64 lo, .int .i64 hi] 23) := by
  rcases h with h | h
  · have d1 : decide (0 ≤ op) = false := by simp; omega
    go_enter Tryz.func4, Tryz.ntmps4
    go_wp2
    go_ret2
    exact ⟨rfl, rfl⟩
  · have d1 : decide (0 ≤ op) = true := by simp; omega
    have d2 : decide (op ≤ 6) = false := by simp; omega
    go_enter Tryz.func4, Tryz.ntmps4
    go_wp2
    go_ret2
    exact ⟨rfl, rfl⟩
set_option maxHeartbeats 400000 in
theorem judge_gt (op lo hi : Int) (w : World) (h1 : 0 ≤ op) (h2 : op ≤ 6) (h3 : hi < lo) :
    Calls Tryz.prog 4 #[.int .i64 op, .agg #[.int .i64 lo, .int .i64 hi]] w fun e w' => e = .returned (.tuple #[.int .i64 0, .int .i64 1]) ∧ w' = w.alloc (.cells #[.int .i64 lo, .int .i64 hi] 23) := by
  have d1 : decide (0 ≤ op) = true := by simp; omega
  have d2 : decide (op ≤ 6) = true := by simp; omega
  have d3 : decide (hi < lo) = true := by simp; omega
  go_enter Tryz.func4, Tryz.ntmps4
  go_wp2
  go_ret2
  exact ⟨rfl, rfl⟩
set_option maxHeartbeats 400000 in
theorem judge_in (op lo hi r : Int) (w : World) (h1 : 0 ≤ op) (h2 : op ≤ 6) (h3 : lo ≤ hi)
    (c : ∀ w : World, 6 ≤ w.heap.size → Calls Tryz.prog 8 #[.int .i64 op, .agg #[.int .i64 lo, .int .i64 hi]] w fun e w' => e = .returned (.int .i64 r) ∧ Below w.heap.size w w') (hw : 6 ≤ w.heap.size) :
    Calls Tryz.prog 4 #[.int .i64 op, .agg #[.int .i64 lo, .int .i64 hi]] w fun e w' => e = .returned (.tuple #[.int .i64 r, .int .i64 0]) ∧ Below w.heap.size w w' := by
  have d1 : decide (0 ≤ op) = true := by simp; omega
  have d2 : decide (op ≤ 6) = true := by simp; omega
  have d3 : decide (hi < lo) = false := by simp; omega
  go_enter Tryz.func4, Tryz.ntmps4
  go_wp2_with (first
    | (go_at_call 8; refine (c _ (by simp; omega)).mono ?_; rintro e w1 ⟨rfl, hb⟩)
    | go_in)
  go_ret2
  exact ⟨rfl, ((Below.refl _ w).alloc (Nat.le_refl _) _).trans (hb.mono (by simp))⟩
/-- the law: its example holds, in whatever world that has the globals -/
def Sane : Prop := ∀ w : World, 6 ≤ w.heap.size → Calls Tryz.prog 5 #[] w fun e w' => e = .returned (.bool true) ∧ Below w.heap.size w w'
theorem bcell2 {W w1 : World} (hb : Below W.heap.size W w1) : (∀ b o, b < W.heap.size → w1.cell? ⟨b, o, none⟩ = W.cell? ⟨b, o, none⟩) ∧ (∀ b o, b < W.heap.size → w1.frozen? ⟨b, o, none⟩ = W.frozen? ⟨b, o, none⟩) :=
  ⟨fun b o h => hb.cell (p := ⟨b, o, none⟩) h, fun b o h => hb.frozen (p := ⟨b, o, none⟩) h⟩
set_option maxHeartbeats 1000000 in
theorem law_out (S : Sane) (op lo hi : Int) (w : World) (hw : 6 ≤ w.heap.size) (h : op < 0 ∨ 6 < op) :
    Calls Tryz.prog 3 #[.int .i64 op, .agg #[.int .i64 lo, .int .i64 hi]] w fun e w' => e = .returned (.bool true) ∧ Below w.heap.size w w' := by
  have C := fun W => judge_out op lo hi W h
  rcases h with h | h
  · have d1 : decide (op < 0) = true := by simp; omega
    go_enter Tryz.func3, Tryz.ntmps3
    go_wp2_with (first
      | (go_at_call 4; refine (C _).mono ?_; rintro e w1 ⟨rfl, rfl⟩)
      | (go_at_call 5; refine (S _ (by simp; omega)).mono ?_; rintro e w1 ⟨rfl, hb⟩)
      | go_in)
    go_ret
    exact ⟨rfl, (((Below.refl _ w).alloc (Nat.le_refl _) _).alloc (by simp) _).trans (hb.mono (by simp; omega))⟩
  · have d1 : decide (op < 0) = false := by simp; omega
    have d2 : decide (6 < op) = true := by simp; omega
    go_enter Tryz.func3, Tryz.ntmps3
    go_wp2_with (first
      | (go_at_call 4; refine (C _).mono ?_; rintro e w1 ⟨rfl, rfl⟩)
      | (go_at_call 5; refine (S _ (by simp; omega)).mono ?_; rintro e w1 ⟨rfl, hb⟩)
      | go_in)
    go_ret
    exact ⟨rfl, (((Below.refl _ w).alloc (Nat.le_refl _) _).alloc (by simp) _).trans (hb.mono (by simp; omega))⟩
set_option maxHeartbeats 1000000 in
theorem law_gt (S : Sane) (op lo hi : Int) (w : World) (hw : 6 ≤ w.heap.size) (h1 : 0 ≤ op) (h2 : op ≤ 6) (h3 : hi < lo) :
    Calls Tryz.prog 3 #[.int .i64 op, .agg #[.int .i64 lo, .int .i64 hi]] w fun e w' => e = .returned (.bool true) ∧ Below w.heap.size w w' := by
  have C := fun W => judge_gt op lo hi W h1 h2 h3
  have d1 : decide (op < 0) = false := by simp; omega
  have d2 : decide (6 < op) = false := by simp; omega
  have d3 : decide (hi < lo) = true := by simp; omega
  go_enter Tryz.func3, Tryz.ntmps3
  go_wp2_with (first
    | (go_at_call 4; refine (C _).mono ?_; rintro e w1 ⟨rfl, rfl⟩)
    | (go_at_call 5; refine (S _ (by simp; omega)).mono ?_; rintro e w1 ⟨rfl, hb⟩)
    | go_in)
  go_ret
  exact ⟨rfl, (((Below.refl _ w).alloc (Nat.le_refl _) _).alloc (by simp) _).trans (hb.mono (by simp; omega))⟩
set_option maxHeartbeats 1000000 in
theorem law_in (S : Sane) (op lo hi : Int) (w : World) (hw : 6 ≤ w.heap.size) (h1 : 0 ≤ op) (h2 : op ≤ 6) (h3 : lo ≤ hi) :
    Calls Tryz.prog 3 #[.int .i64 op, .agg #[.int .i64 lo, .int .i64 hi]] w fun e w' => e = .returned (.bool true) ∧ Below w.heap.size w w' := by
  obtain ⟨r, hr⟩ := judges op lo hi h1 h2
  have C8 := hr 8 (.inl rfl)
  have C6 := hr 6 (.inr rfl)
  have C := fun W hW => judge_in op lo hi r W h1 h2 h3 C8 hW
  clear hr
  have d1 : decide (op < 0) = false := by simp; omega
  have d2 : decide (6 < op) = false := by simp; omega
  have d3 : decide (hi < lo) = false := by simp; omega
  go_enter Tryz.func3, Tryz.ntmps3
  go_wp2_with fail
  refine (C _ (by simp; omega)).mono ?_
  rintro e w1 ⟨rfl, hb⟩
  obtain ⟨hc, hf⟩ := bcell2 hb
  have hz : w.heap.size + 1 ≤ w1.heap.size := by have := hb.size; simp at this; omega
  go_wp2_with fail
  refine (S w1 (by omega)).mono ?_
  rintro e w2 ⟨rfl, hb2⟩
  obtain ⟨hc2, hf2⟩ := bcell2 hb2
  have hz2 : w1.heap.size ≤ w2.heap.size := hb2.size
  have l0 : w2.cell? ⟨w.heap.size, 0, none⟩ = some (.int .i64 lo) := by rw [hc2 _ _ (by omega), hc _ _ (by simp)]; simp
  have l1 : w2.cell? ⟨w.heap.size, 1, none⟩ = some (.int .i64 hi) := by rw [hc2 _ _ (by omega), hc _ _ (by simp)]; simp
  clear hc hf hc2 hf2
  go_wp2_with fail
  refine (C6 w2 (by omega)).mono ?_
  rintro e w3 ⟨rfl, hb3⟩
  go_wp2_with fail
  go_ret
  refine ⟨?_, ?_⟩
  · simp
  · exact (((Below.refl _ w).alloc (Nat.le_refl _) _).trans (hb.mono (by simp))).trans ((hb2.mono (by omega)).trans (hb3.mono (by omega)))
end Go.Ab
