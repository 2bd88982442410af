/- What is proved: what functions of the program do, as plain functions with their contracts (printed by a copy of the kit's print that a program of this repository has turned). Conditions stand in each theorem. -/
import Derived.Test.YtjhjgkdmacndgaaGreatDoorPLx0
import Derived.Test.YtjhjgkdmacndgaaGreatDoorPLx2
namespace Go.Proofs.YtjhjgkdmacndgaaGreatDoor.PLx
open Go.RowKit Go.Proofs.YtjhjgkdmacndgaaGreatDoorW.PrintWords Go.Proofs.YtjhjgkdmacndgaaGreatDoorW.PrintLast Go.Proofs.YtjhjgkdmacndgaaGreatDoorW.PrintMore
attribute [local go_sem] max2_int min2_int max_two min_two max_three min_three max_four min_four   -- for this text's walks alone
set_option linter.unusedVariables false
set_option linter.unusedSimpArgs false

/-! ### ask_Lex: function 5 -/
mutual
def ask_Lex.l0 : Nat → ByteArray → List (S72) → Int → Option ((List (S72)) × Int × Int)
  | 0, _, _, _ => none
  | k + 1, x0, x5, x6 => if x6 < (x0.size : Int) then (if 0 ≤ x6 then (if x6 ≤ (x0.size : Int) then (if 0 < ((x0.extract (x6 : Int).toNat x0.size).size : Int) then (if (wrap32 (bt (x0.extract (x6 : Int).toNat x0.size) 0)) = 32 then (ask_Lex.j1 k x0 x5 x6 (x0.extract (x6 : Int).toNat x0.size) (wrap32 (bt (x0.extract (x6 : Int).toNat x0.size) 0)) true 0 (⟨#[]⟩ : ByteArray) 0 x6) else (ask_Lex.j1 k x0 x5 x6 (x0.extract (x6 : Int).toNat x0.size) (wrap32 (bt (x0.extract (x6 : Int).toNat x0.size) 0)) ((wrap32 (bt (x0.extract (x6 : Int).toNat x0.size) 0)) == 10) 0 (⟨#[]⟩ : ByteArray) 0 x6)) else (none)) else (none)) else (none)) else (some (x5, 0, (-1)))
def ask_Lex.j1 : Nat → ByteArray → List (S72) → Int → ByteArray → Int → Bool → Int → ByteArray → Int → Int → Option ((List (S72)) × Int × Int)
  | 0, _, _, _, _, _, _, _, _, _, _ => none
  | k + 1, x0, x5, x6, x7, x9, x35, x103000, x103001, x103002, x103003 => if x35 = true then (ask_Lex.l0 k x0 x5 (wrap64 (x6 + 1))) else ((ask_isLetter.f x9).bind fun t103 => (if t103 = true then ((ask_run.f x7 17).bind fun t104 => (if 0 ≤ t104 then (if t104 ≤ (x7.size : Int) then (if x5.length < 3518437208883 then (ask_Lex.l0 k x0 (x5 ++ [(⟨1, x7.extract 0 (t104 : Int).toNat, x103002, x103003⟩ : S72)]) (wrap64 (x6 + ((x7.extract 0 (t104 : Int).toNat).size : Int)))) else (none)) else (none)) else (none))) else ((ask_isDigit.f x9).bind fun t108 => (if t108 = true then ((ask_run.f x7 19).bind fun t109 => (if 0 ≤ t109 then (if t109 ≤ (x7.size : Int) then ((ask_value.f (x7.extract 0 (t109 : Int).toNat)).bind fun bt110 => (if bt110.2 = true then (if x5.length < 3518437208883 then (ask_Lex.l0 k x0 (x5 ++ [(⟨2, x7.extract 0 (t109 : Int).toNat, bt110.1, x103003⟩ : S72)]) (wrap64 (x6 + ((x7.extract 0 (t109 : Int).toNat).size : Int)))) else (none)) else (some (([] : List (S72)), 3, x6)))) else (none)) else (none))) else ((ask_sign.f k x7).bind fun t115 => (if t115.toList = ([] : List UInt8) then (some (([] : List (S72)), 7, x6)) else (if x5.length < 3518437208883 then (ask_Lex.l0 k x0 (x5 ++ [(⟨3, t115, x103002, x103003⟩ : S72)]) (wrap64 (x6 + (t115.size : Int)))) else (none))))))))
end
def ask_Lex.f (k : Nat) (a0 : ByteArray) : Option ((List (S72)) × Int × Int) := if (a0.size : Int) > 600 then (some (([] : List (S72)), 2, (-1))) else (ask_Lex.l0 k a0 ([] : List (S72)) 0)
theorem ask_Lex.mono_l : ∀ k, (∀ y0 y1 y2, LeO (ask_Lex.l0 k y0 y1 y2) (ask_Lex.l0 (k + 1) y0 y1 y2)) ∧ (∀ y0 y1 y2 y3 y4 y5 y6 y7 y8 y9, LeO (ask_Lex.j1 k y0 y1 y2 y3 y4 y5 y6 y7 y8 y9) (ask_Lex.j1 (k + 1) y0 y1 y2 y3 y4 y5 y6 y7 y8 y9))
  | 0 => ⟨fun _ _ _ r h => by simp [ask_Lex.l0] at h, fun _ _ _ _ _ _ _ _ _ _ r h => by simp [ask_Lex.j1] at h⟩
  | k + 1 => by
    obtain ⟨ih0, ih1⟩ := ask_Lex.mono_l k
    refine ⟨?_, ?_⟩
    · intro y0 y1 y2
      unfold ask_Lex.l0
      repeat' first
      | (with_reducible exact ih0 _ _ _)
      | (with_reducible exact ih1 _ _ _ _ _ _ _ _ _ _)
      | (with_reducible exact ask_sign.mono _ _)
      | (with_reducible exact LeO.refl _)
      | (with_reducible exact LeO.none _)
      | (with_reducible refine LeO.ite ?_ ?_)
      | (with_reducible refine LeO.bind ?_ (fun _ => ?_))
      | exact ih0 _ _ _
      | exact ih1 _ _ _ _ _ _ _ _ _ _
      | exact ask_sign.mono _ _
      | exact LeO.none _
      | refine LeO.ite ?_ ?_
      | refine LeO.bind ?_ (fun _ => ?_)
    · intro y0 y1 y2 y3 y4 y5 y6 y7 y8 y9
      unfold ask_Lex.j1
      repeat' first
      | (with_reducible exact ih0 _ _ _)
      | (with_reducible exact ih1 _ _ _ _ _ _ _ _ _ _)
      | (with_reducible exact ask_sign.mono _ _)
      | (with_reducible exact LeO.refl _)
      | (with_reducible exact LeO.none _)
      | (with_reducible refine LeO.ite ?_ ?_)
      | (with_reducible refine LeO.bind ?_ (fun _ => ?_))
      | exact ih0 _ _ _
      | exact ih1 _ _ _ _ _ _ _ _ _ _
      | exact ask_sign.mono _ _
      | exact LeO.none _
      | refine LeO.ite ?_ ?_
      | refine LeO.bind ?_ (fun _ => ?_)
theorem ask_Lex.mono : ∀ a0 k, LeO (ask_Lex.f k a0) (ask_Lex.f (k + 1) a0) := by
  intro a0 k
  obtain ⟨ih0, ih1⟩ := ask_Lex.mono_l k
  unfold ask_Lex.f
  repeat' first
      | (with_reducible exact ih0 _ _ _)
      | (with_reducible exact ih1 _ _ _ _ _ _ _ _ _ _)
      | (with_reducible exact ask_sign.mono _ _)
      | (with_reducible exact LeO.refl _)
      | (with_reducible exact LeO.none _)
      | (with_reducible refine LeO.ite ?_ ?_)
      | (with_reducible refine LeO.bind ?_ (fun _ => ?_))
      | exact ih0 _ _ _
      | exact ih1 _ _ _ _ _ _ _ _ _ _
      | exact ask_sign.mono _ _
      | exact LeO.none _
      | refine LeO.ite ?_ ?_
      | refine LeO.bind ?_ (fun _ => ?_)
def ask_Lex.T15 : Bool × List (List Nat × List Nat) := (true, [([], []), ([], []), ([1], [1]), ([0, 2], [0, 2]), ([], []), ([4, 2], [4]), ([0, 1, 2, 3, 4, 5], []), ([6, 3, 5, 0, 1, 2, 3, 4, 5], [3, 6])])
def ask_Lex.B15 : List Nat := [0, 0, 2, 7, 0, 22, 63, 127]
theorem ask_Lex.tab15 : rtab .any (opsOf Tryz.f5 15) = ask_Lex.T15 := by kernel_rfl
theorem ask_Lex.bits15 : waitsOk ask_Lex.T15.2 ask_Lex.B15 = true := by kernel_rfl
def ask_Lex.T17 : Bool × List (List Nat × List Nat) := (true, [([], []), ([], []), ([1], [1]), ([0, 2], [0, 2]), ([], []), ([4, 2], [4]), ([0, 1, 2, 3, 4, 5], []), ([6, 3, 5, 0, 1, 2, 3, 4, 5], [3, 6])])
def ask_Lex.B17 : List Nat := [0, 0, 2, 7, 0, 22, 63, 127]
theorem ask_Lex.tab17 : rtab .any (opsOf Tryz.f5 17) = ask_Lex.T17 := by kernel_rfl
theorem ask_Lex.bits17 : waitsOk ask_Lex.T17.2 ask_Lex.B17 = true := by kernel_rfl
set_option maxHeartbeats 8000000 in
set_option maxRecDepth 100000 in
theorem ask_Lex.calls (k : Nat) (a0 : ByteArray) (r1 : List (S72)) (r2 : Int) (r3 : Int) (w : World) (h : ask_Lex.f k a0 = some (r1, r2, r3)) :
    Calls Tryz.prog 5 #[.string a0] w fun e w' => ∃ v0_ : Value, e = .returned (.tuple #[v0_, .int .i64 r2, .int .i64 r3]) ∧ Kd.R k72 72 w' w.heap.size (fun _ => True) v0_ r1 ∧ Below w.heap.size w w' := by
  have hu72 := Tryz.underlying72
  have HB := Aside0.mk (Below.refl w.heap.size w)
  have H : (if (a0.size : Int) > 600 then (some (([] : List (S72)), 2, (-1))) else (ask_Lex.l0 k a0 ([] : List (S72)) 0)) = some (r1, r2, r3) := h
  clear h
  by_cases c2 : (a0.size : Int) > 600
  · rw [if_pos c2] at H
    have c2b0 : decide (600 < (a0.size : Int)) = true := decide_eq_true c2
    have c2b1 : decide (600 < a0.size) = true := decide_eq_true (by omega)
    clear c2
    simp only [Option.some.injEq, Prod.mk.injEq] at H
    obtain ⟨rfl, rfl, rfl⟩ := H
    go_enter Tryz.func5, Tryz.ntmps5
    go_wp2
    go_ret3
    exact ⟨_, by first | rfl | (simp [errW_none, errW_some] <;> rfl) | (simp [*, errW_none, errW_some] <;> rfl), by first | exact Kd.R_nil _ _ _ _ _ | exact Kd.N_nil _ _ _ _ _ | exact Kd.V_nil _ _ _ _ _ | exact Kd.Q_nil _ _ _ _ _ | exact Kd.S_nil _ _ _ _ _, by repeat (first | (with_reducible first | exact HB.out | apply below_alloc | apply pw_below_drewN | apply below_drew1) | exact HB.out)⟩
  · rw [if_neg c2] at H
    have c2b0 : decide (600 < (a0.size : Int)) = false := decide_eq_false c2
    have c2b1 : decide (600 < a0.size) = false := decide_eq_false (by omega)
    clear c2
    have H' := Aside0.mk H
    clear H
    go_enter Tryz.func5, Tryz.ntmps5
    go_wp2
    go_loopg [5, 6] k (fun kq v5 v6 w' => ∃ (x5_1 : List (S72)) (x6_1 : Int), v6 = .int .i64 x6_1 ∧ Aside0 (ask_Lex.l0 kq a0 x5_1 x6_1 = some (r1, r2, r3)) ∧ Aside0 (kq ≤ k) ∧ Aside0 (Kd.R k72 72 w' w.heap.size (fun _ => True) v5 x5_1) ∧ Aside0 (Below w.heap.size w w'))
    case atStart => exact ⟨(([] : List (S72))), (0), (by first | rfl | (simp; done) | (simp [*]; done)), H', ⟨Nat.le_refl _⟩, ⟨by first | exact Kd.R_nil _ _ _ _ _ | exact Kd.N_nil _ _ _ _ _ | exact Kd.V_nil _ _ _ _ _ | exact Kd.Q_nil _ _ _ _ _ | exact Kd.S_nil _ _ _ _ _⟩, ⟨by repeat (first | (with_reducible first | exact HB.out | apply below_alloc | apply pw_below_drewN | apply below_drew1) | exact HB.out)⟩⟩
    case round =>
      clear H'
      try clear c2
      try clear c2b0
      try clear c2b1
      try clear p2
      obtain ⟨x5_1, x6_1, rfl, HA, HK1, HO_5, HB⟩ := hrel
      cases gk with
      | zero => exact absurd HA.out (by simp [ask_Lex.l0])
      | succ k1 =>
        have H := HA.out
        clear HA
        simp only [ask_Lex.l0] at H
        by_cases c3 : x6_1 < (a0.size : Int)
        · rw [if_pos c3] at H
          have c3b0 : decide (x6_1 < (a0.size : Int)) = true := decide_eq_true c3
          clear c3
          by_cases c4 : 0 ≤ x6_1
          · rw [if_pos c4] at H
            have c4b0 := eq_true c4
            have c4b1 : decide (0 ≤ x6_1) = true := decide_eq_true c4
            clear c4
            by_cases c5 : x6_1 ≤ (a0.size : Int)
            · rw [if_pos c5] at H
              have c5b0 := eq_true c5
              have c5b1 : decide (x6_1 ≤ (a0.size : Int)) = true := decide_eq_true c5
              clear c5
              by_cases c6 : 0 < ((a0.extract (x6_1 : Int).toNat a0.size).size : Int)
              · rw [if_pos c6] at H
                have c6b0 : decide (0 < ((a0.extract (x6_1 : Int).toNat a0.size).size : Int)) = true := decide_eq_true c6
                (try (have c6b0z := c6b0; simp only [ByteArray.size_extract, Nat.min_self] at c6b0z))
                have c6b1 : decide (0 < (a0.extract (x6_1 : Int).toNat a0.size).size) = true := decide_eq_true (by omega)
                (try (have c6b1z := c6b1; simp only [ByteArray.size_extract, Nat.min_self] at c6b1z))
                clear c6
                have HC8 := Aside0.mk H
                clear H
                go_upto_region 12 with (first | ((with_reducible refine gate_dst (N := 8) rfl ?_); refine box_event ?hg (N := 8) ?hd (cs := #[.int .i64 0, .string (⟨#[]⟩ : ByteArray), .int .i64 0, .int .i64 0]) (t := 72) ?hr ?_; (case hd => rfl); (case hg => rfl); (case hr => first | (go_simp; done) | (go_simp; rfl)); intro gb102 hg w9 hbox hb; have n0_ := Aside0.mk (Kd.R_below (Kd.R_elderB (by (with_reducible repeat (first | apply Kd.R_alloc | apply Kd.R_drewN | apply Kd.R_drew)); exact HO_5.out) gb102 (Nat.le_of_eq hg.symm)) hb); have n1_ := Aside0.mk (below_step (by repeat (first | (with_reducible first | exact HB.out | apply below_alloc | apply pw_below_drewN | apply below_drew1) | exact HB.out)) hb); have n2_ := Aside0.mk (hbox); have n3_ := Aside0.mk ((by rw [hg]; exact (below_size (by repeat (first | (with_reducible first | exact HB.out | apply below_alloc | apply pw_below_drewN | apply below_drew1) | exact HB.out))) : w.heap.size ≤ gb102)); have n4_ := Aside0.mk ((by rw [hg]; exact (below_size (by repeat (first | (with_reducible first | exact HB.out | apply below_alloc | apply pw_below_drewN | apply below_drew1) | exact HB.out))) : w.heap.size ≤ gb102)); clear HO_5; clear HB; have HO_5 := n0_; have HB := n1_; have BK102 := n2_; have GW102 := n3_; have GE102 := n4_; clear n0_ n1_ n2_ n3_ n4_; clear hb hbox hg; have hcz10_0 : w9.cell? ⟨gb102, 0, none⟩ = some (.int .i64 0) := (blk_cell BK102.out 0).trans rfl; have hcz10_1 : w9.cell? ⟨gb102, 1, none⟩ = some (.string (⟨#[]⟩ : ByteArray)) := (blk_cell BK102.out 1).trans rfl; have hcz10_2 : w9.cell? ⟨gb102, 2, none⟩ = some (.int .i64 0) := (blk_cell BK102.out 2).trans rfl; have hcz10_3 : w9.cell? ⟨gb102, 3, none⟩ = some (.int .i64 0) := (blk_cell BK102.out 3).trans rfl; have hfz10_0 := blk_frozen BK102.out 0; have hfz10_1 := blk_frozen BK102.out 1; have hfz10_2 := blk_frozen BK102.out 2; have hfz10_3 := blk_frozen BK102.out 3; have p7 : 0 ≤ (0 : Int) := (by omega); have q7 : 0 < (a0.extract (x6_1 : Int).toNat a0.size).size := (by have : (0 : Int) < ((a0.extract (x6_1 : Int).toNat a0.size).size : Int) := of_decide_eq_true (by first | (with_reducible assumption) | assumption); omega); have hx7 : ∀ h : 0 < (a0.extract (x6_1 : Int).toNat a0.size).size, (((a0.extract (x6_1 : Int).toNat a0.size)[0]'h).toNat : Int) = bt (a0.extract (x6_1 : Int).toNat a0.size) 0 := bt_at (a0.extract (x6_1 : Int).toNat a0.size) 0; clear p7; have qi7 : (0 < ((a0.extract (x6_1 : Int).toNat a0.size).size : Int)) = True := eq_true (of_decide_eq_true (by first | (with_reducible assumption) | assumption)); replace q7 := eq_true q7; (try (have q7z := q7; simp only [ByteArray.size_extract, Nat.min_self] at q7z))))
                (try simp only [Act.put, List.setIfInBounds_toArray, List.set_cons_zero, List.set_cons_succ])
                go_cut [35] (fun v35 wc => ∃ (kq : Nat) (x35_7 : Bool), v35 = .bool x35_7 ∧ Aside0 (ask_Lex.j1 kq a0 x5_1 x6_1 (a0.extract (x6_1 : Int).toNat a0.size) (wrap32 (bt (a0.extract (x6_1 : Int).toNat a0.size) 0)) x35_7 0 (⟨#[]⟩ : ByteArray) 0 x6_1 = some (r1, r2, r3)) ∧ Aside0 (kq ≤ k1) ∧ Aside0 (Kd.R k72 72 wc w.heap.size (fun k_ => k_ ≠ gb102) u5 x5_1) ∧ Aside0 (wc.heap[gb102]? = some (.cells #[.int .i64 0, .string (⟨#[]⟩ : ByteArray), .int .i64 0, .int .i64 x6_1] 72 (0, 0))) ∧ Aside0 (Below w.heap.size w wc))
                case first =>
                  have H := HC8.out
                  clear HC8
                  by_cases c11 : (wrap32 (bt (a0.extract (x6_1 : Int).toNat a0.size) 0)) = 32
                  · rw [if_pos c11] at H
                    have c11b0 : ((wrap32 (bt (a0.extract (x6_1 : Int).toNat a0.size) 0)) == 32) = true := beq_iff_eq.mpr c11
                    (try (have c11b0z := c11b0; simp only [ByteArray.size_extract, Nat.min_self] at c11b0z))
                    have c11b1 : ((wrap32 (bt (a0.extract (x6_1 : Int).toNat a0.size) 0)) != 32) = false := bne_eq_false_iff_eq.mpr c11
                    (try (have c11b1z := c11b1; simp only [ByteArray.size_extract, Nat.min_self] at c11b1z))
                    clear c11
                    (first | rw [c11b0] | (simp only [i64_w, i32_w]; rw [c11b0]) | skip)
                    have H' := Aside0.mk H
                    clear H
                    go_wp2
                    go_meet
                    case rel => exact ⟨_, (true), (by first | rfl | (simp; done) | (simp [*]; done)), H', ⟨by have := HK1.out; first | omega | exact Nat.le_refl _⟩, ⟨by (with_reducible repeat (first | apply Kd.R_alloc | apply Kd.R_drewN | apply Kd.R_drew)); exact Kd.R_mono (Kd.R_far (p := ⟨gb102, 3, none⟩) (Kd.R_far (p := ⟨gb102, 2, none⟩) (Kd.R_far (p := ⟨gb102, 1, none⟩) (Kd.R_far (p := ⟨gb102, 0, none⟩) (Kd.R_mono HO_5.out (fun k_ hk => (⟨hk, hk.2⟩ : _ ∧ k_ ≠ gb102))) (fun _ hk => hk.2) (.int .i64 0)) (fun _ hk => hk.2) (.string (⟨#[]⟩ : ByteArray))) (fun _ hk => hk.2) (.int .i64 0)) (fun _ hk => hk.2) (.int .i64 x6_1)) (fun _ hk => hk.1.2)⟩, ⟨by (with_reducible repeat (first | refine blk_drewN ?_ _ | refine blk_drew ?_ | refine blk_alloc ?_ _)); refine blk_put (cs := #[.int .i64 0, .string (⟨#[]⟩ : ByteArray), .int .i64 0, .int .i64 0]) ?_ 3 _ rfl; (with_reducible repeat (first | refine blk_drewN ?_ _ | refine blk_drew ?_ | refine blk_alloc ?_ _)); refine blk_put (cs := #[.int .i64 0, .string (⟨#[]⟩ : ByteArray), .int .i64 0, .int .i64 0]) ?_ 2 _ rfl; (with_reducible repeat (first | refine blk_drewN ?_ _ | refine blk_drew ?_ | refine blk_alloc ?_ _)); refine blk_put (cs := #[.int .i64 0, .string (⟨#[]⟩ : ByteArray), .int .i64 0, .int .i64 0]) ?_ 1 _ rfl; (with_reducible repeat (first | refine blk_drewN ?_ _ | refine blk_drew ?_ | refine blk_alloc ?_ _)); refine blk_put (cs := #[.int .i64 0, .string (⟨#[]⟩ : ByteArray), .int .i64 0, .int .i64 0]) ?_ 0 _ rfl; (with_reducible repeat (first | refine blk_drewN ?_ _ | refine blk_drew ?_ | refine blk_alloc ?_ _)); exact BK102.out⟩, ⟨by repeat (first | (with_reducible first | exact HB.out | apply below_alloc | apply pw_below_drewN | apply below_drew1 | refine below_set ?_ GE102.out) | exact HB.out)⟩⟩
                  · rw [if_neg c11] at H
                    have c11b0 : ((wrap32 (bt (a0.extract (x6_1 : Int).toNat a0.size) 0)) == 32) = false := beq_eq_false_iff_ne.mpr c11
                    (try (have c11b0z := c11b0; simp only [ByteArray.size_extract, Nat.min_self] at c11b0z))
                    have c11b1 : ((wrap32 (bt (a0.extract (x6_1 : Int).toNat a0.size) 0)) != 32) = true := bne_iff_ne.mpr c11
                    (try (have c11b1z := c11b1; simp only [ByteArray.size_extract, Nat.min_self] at c11b1z))
                    (first | rw [c11b0] | (simp only [i64_w, i32_w]; rw [c11b0]) | skip)
                    have H' := Aside0.mk H
                    clear H
                    go_wp2
                    go_meet
                    case rel => exact ⟨_, (((wrap32 (bt (a0.extract (x6_1 : Int).toNat a0.size) 0)) == 10)), (by first | rfl | (simp; done) | (simp [*]; done)), H', ⟨by have := HK1.out; first | omega | exact Nat.le_refl _⟩, ⟨by (with_reducible repeat (first | apply Kd.R_alloc | apply Kd.R_drewN | apply Kd.R_drew)); exact Kd.R_mono (Kd.R_far (p := ⟨gb102, 3, none⟩) (Kd.R_far (p := ⟨gb102, 2, none⟩) (Kd.R_far (p := ⟨gb102, 1, none⟩) (Kd.R_far (p := ⟨gb102, 0, none⟩) (Kd.R_mono HO_5.out (fun k_ hk => (⟨hk, hk.2⟩ : _ ∧ k_ ≠ gb102))) (fun _ hk => hk.2) (.int .i64 0)) (fun _ hk => hk.2) (.string (⟨#[]⟩ : ByteArray))) (fun _ hk => hk.2) (.int .i64 0)) (fun _ hk => hk.2) (.int .i64 x6_1)) (fun _ hk => hk.1.2)⟩, ⟨by (with_reducible repeat (first | refine blk_drewN ?_ _ | refine blk_drew ?_ | refine blk_alloc ?_ _)); refine blk_put (cs := #[.int .i64 0, .string (⟨#[]⟩ : ByteArray), .int .i64 0, .int .i64 0]) ?_ 3 _ rfl; (with_reducible repeat (first | refine blk_drewN ?_ _ | refine blk_drew ?_ | refine blk_alloc ?_ _)); refine blk_put (cs := #[.int .i64 0, .string (⟨#[]⟩ : ByteArray), .int .i64 0, .int .i64 0]) ?_ 2 _ rfl; (with_reducible repeat (first | refine blk_drewN ?_ _ | refine blk_drew ?_ | refine blk_alloc ?_ _)); refine blk_put (cs := #[.int .i64 0, .string (⟨#[]⟩ : ByteArray), .int .i64 0, .int .i64 0]) ?_ 1 _ rfl; (with_reducible repeat (first | refine blk_drewN ?_ _ | refine blk_drew ?_ | refine blk_alloc ?_ _)); refine blk_put (cs := #[.int .i64 0, .string (⟨#[]⟩ : ByteArray), .int .i64 0, .int .i64 0]) ?_ 0 _ rfl; (with_reducible repeat (first | refine blk_drewN ?_ _ | refine blk_drew ?_ | refine blk_alloc ?_ _)); exact BK102.out⟩, ⟨by repeat (first | (with_reducible first | exact HB.out | apply below_alloc | apply pw_below_drewN | apply below_drew1 | refine below_set ?_ GE102.out) | exact HB.out)⟩⟩
                case rest =>
                  clear HC8
                  try clear c1
                  try clear c2
                  try clear c2b0
                  try clear c2b1
                  try clear p2
                  try clear c3
                  try clear c3b0
                  try clear p3
                  try clear c4
                  try clear c4b0
                  try clear c4b1
                  try clear c5
                  try clear c5b0
                  try clear c5b1
                  try clear c6
                  try clear c6b0
                  try clear c6b1
                  try clear p7
                  try clear q7
                  try clear hx7
                  try clear qi7
                  try clear c11
                  try clear c11b0
                  try clear c11b1
                  try clear hcz10_0
                  try clear hcz10_1
                  try clear hcz10_2
                  try clear hcz10_3
                  try clear hfz10_0
                  try clear hfz10_1
                  try clear hfz10_2
                  try clear hfz10_3
                  try clear p2
                  try clear p7
                  try clear q7
                  obtain ⟨kq, x35_7, rfl, HA, HJ7, HO_5, BK102, HB⟩ := hcut
                  cases kq with
                  | zero => exact absurd HA.out (by simp [ask_Lex.j1])
                  | succ kj7 =>
                    have H := HA.out
                    clear HA
                    simp only [ask_Lex.j1] at H
                    by_cases c12 : x35_7 = true
                    · subst c12
                      have H1 : (ask_Lex.l0 kj7 a0 x5_1 (wrap64 (x6_1 + 1))) = some (r1, r2, r3) := by rw [if_pos rfl] at H; exact H
                      clear H
                      have H := H1
                      clear H1
                      have H' := Aside0.mk H
                      clear H
                      go_wp2
                      go_roundg kj7
                      case measure => have := HK1.out; have := HJ7.out; omega
                      case rel => exact ⟨(x5_1), (wrap64 (x6_1 + 1)), (by first | rfl | (simp; done) | (simp [*]; done)), H', ⟨by have := HK1.out; have := HJ7.out; omega⟩, ⟨by (with_reducible repeat (first | apply Kd.R_alloc | apply Kd.R_drewN | apply Kd.R_drew)); exact Kd.R_mono HO_5.out (fun _ hk => trivial)⟩, ⟨by repeat (first | (with_reducible first | exact HB.out | apply below_alloc | apply pw_below_drewN | apply below_drew1 | refine below_set ?_ GE102.out) | exact HB.out)⟩⟩
                    · replace c12 := Bool.eq_false_iff.mpr c12
                      subst c12
                      have H1 : ((ask_isLetter.f (wrap32 (bt (a0.extract (x6_1 : Int).toNat a0.size) 0))).bind fun t103 => (if t103 = true then ((ask_run.f (a0.extract (x6_1 : Int).toNat a0.size) 17).bind fun t104 => (if 0 ≤ t104 then (if t104 ≤ ((a0.extract (x6_1 : Int).toNat a0.size).size : Int) then (if x5_1.length < 3518437208883 then (ask_Lex.l0 kj7 a0 (x5_1 ++ [(⟨1, (a0.extract (x6_1 : Int).toNat a0.size).extract 0 (t104 : Int).toNat, 0, x6_1⟩ : S72)]) (wrap64 (x6_1 + (((a0.extract (x6_1 : Int).toNat a0.size).extract 0 (t104 : Int).toNat).size : Int)))) else (none)) else (none)) else (none))) else ((ask_isDigit.f (wrap32 (bt (a0.extract (x6_1 : Int).toNat a0.size) 0))).bind fun t108 => (if t108 = true then ((ask_run.f (a0.extract (x6_1 : Int).toNat a0.size) 19).bind fun t109 => (if 0 ≤ t109 then (if t109 ≤ ((a0.extract (x6_1 : Int).toNat a0.size).size : Int) then ((ask_value.f ((a0.extract (x6_1 : Int).toNat a0.size).extract 0 (t109 : Int).toNat)).bind fun bt110 => (if bt110.2 = true then (if x5_1.length < 3518437208883 then (ask_Lex.l0 kj7 a0 (x5_1 ++ [(⟨2, (a0.extract (x6_1 : Int).toNat a0.size).extract 0 (t109 : Int).toNat, bt110.1, x6_1⟩ : S72)]) (wrap64 (x6_1 + (((a0.extract (x6_1 : Int).toNat a0.size).extract 0 (t109 : Int).toNat).size : Int)))) else (none)) else (some (([] : List (S72)), 3, x6_1)))) else (none)) else (none))) else ((ask_sign.f kj7 (a0.extract (x6_1 : Int).toNat a0.size)).bind fun t115 => (if t115.toList = ([] : List UInt8) then (some (([] : List (S72)), 7, x6_1)) else (if x5_1.length < 3518437208883 then (ask_Lex.l0 kj7 a0 (x5_1 ++ [(⟨3, t115, 0, x6_1⟩ : S72)]) (wrap64 (x6_1 + (t115.size : Int)))) else (none)))))))) = some (r1, r2, r3) := by rw [if_neg (show ¬ (false = true) by decide)] at H; exact H
                      clear H
                      have H := H1
                      clear H1
                      replace H := Option.bind_eq_some_iff.mp H
                      obtain ⟨t103, A130, H⟩ := H
                      replace H : (if t103 = true then ((ask_run.f (a0.extract (x6_1 : Int).toNat a0.size) 17).bind fun t104 => (if 0 ≤ t104 then (if t104 ≤ ((a0.extract (x6_1 : Int).toNat a0.size).size : Int) then (if x5_1.length < 3518437208883 then (ask_Lex.l0 kj7 a0 (x5_1 ++ [(⟨1, (a0.extract (x6_1 : Int).toNat a0.size).extract 0 (t104 : Int).toNat, 0, x6_1⟩ : S72)]) (wrap64 (x6_1 + (((a0.extract (x6_1 : Int).toNat a0.size).extract 0 (t104 : Int).toNat).size : Int)))) else (none)) else (none)) else (none))) else ((ask_isDigit.f (wrap32 (bt (a0.extract (x6_1 : Int).toNat a0.size) 0))).bind fun t108 => (if t108 = true then ((ask_run.f (a0.extract (x6_1 : Int).toNat a0.size) 19).bind fun t109 => (if 0 ≤ t109 then (if t109 ≤ ((a0.extract (x6_1 : Int).toNat a0.size).size : Int) then ((ask_value.f ((a0.extract (x6_1 : Int).toNat a0.size).extract 0 (t109 : Int).toNat)).bind fun bt110 => (if bt110.2 = true then (if x5_1.length < 3518437208883 then (ask_Lex.l0 kj7 a0 (x5_1 ++ [(⟨2, (a0.extract (x6_1 : Int).toNat a0.size).extract 0 (t109 : Int).toNat, bt110.1, x6_1⟩ : S72)]) (wrap64 (x6_1 + (((a0.extract (x6_1 : Int).toNat a0.size).extract 0 (t109 : Int).toNat).size : Int)))) else (none)) else (some (([] : List (S72)), 3, x6_1)))) else (none)) else (none))) else ((ask_sign.f kj7 (a0.extract (x6_1 : Int).toNat a0.size)).bind fun t115 => (if t115.toList = ([] : List UInt8) then (some (([] : List (S72)), 7, x6_1)) else (if x5_1.length < 3518437208883 then (ask_Lex.l0 kj7 a0 (x5_1 ++ [(⟨3, t115, 0, x6_1⟩ : S72)]) (wrap64 (x6_1 + (t115.size : Int)))) else (none))))))) = some (r1, r2, r3) := H
                      have A13 := Aside0.mk A130
                      clear A130
                      by_cases c14 : t103 = true
                      · subst c14
                        have H1 : ((ask_run.f (a0.extract (x6_1 : Int).toNat a0.size) 17).bind fun t104 => (if 0 ≤ t104 then (if t104 ≤ ((a0.extract (x6_1 : Int).toNat a0.size).size : Int) then (if x5_1.length < 3518437208883 then (ask_Lex.l0 kj7 a0 (x5_1 ++ [(⟨1, (a0.extract (x6_1 : Int).toNat a0.size).extract 0 (t104 : Int).toNat, 0, x6_1⟩ : S72)]) (wrap64 (x6_1 + (((a0.extract (x6_1 : Int).toNat a0.size).extract 0 (t104 : Int).toNat).size : Int)))) else (none)) else (none)) else (none))) = some (r1, r2, r3) := by rw [if_pos rfl] at H; exact H
                        clear H
                        have H := H1
                        clear H1
                        replace H := Option.bind_eq_some_iff.mp H
                        obtain ⟨t104, A150, H⟩ := H
                        replace H : (if 0 ≤ t104 then (if t104 ≤ ((a0.extract (x6_1 : Int).toNat a0.size).size : Int) then (if x5_1.length < 3518437208883 then (ask_Lex.l0 kj7 a0 (x5_1 ++ [(⟨1, (a0.extract (x6_1 : Int).toNat a0.size).extract 0 (t104 : Int).toNat, 0, x6_1⟩ : S72)]) (wrap64 (x6_1 + (((a0.extract (x6_1 : Int).toNat a0.size).extract 0 (t104 : Int).toNat).size : Int)))) else (none)) else (none)) else (none)) = some (r1, r2, r3) := H
                        have A15 := Aside0.mk A150
                        clear A150
                        by_cases c16 : 0 ≤ t104
                        · rw [if_pos c16] at H
                          have c16b0 := eq_true c16
                          have c16b1 : decide (0 ≤ t104) = true := decide_eq_true c16
                          clear c16
                          by_cases c17 : t104 ≤ ((a0.extract (x6_1 : Int).toNat a0.size).size : Int)
                          · rw [if_pos c17] at H
                            have c17b0 := eq_true c17
                            (try (have c17b0z := c17b0; simp only [ByteArray.size_extract, Nat.min_self] at c17b0z))
                            have c17b1 : decide (t104 ≤ ((a0.extract (x6_1 : Int).toNat a0.size).size : Int)) = true := decide_eq_true c17
                            (try (have c17b1z := c17b1; simp only [ByteArray.size_extract, Nat.min_self] at c17b1z))
                            clear c17
                            by_cases c18 : x5_1.length < 3518437208883
                            · rw [if_pos c18] at H
                              have LMc18 := Aside0.mk c18
                              clear c18
                              obtain ⟨y105, hy105⟩ : ∃ y_ : List (S72), y_ = (x5_1 ++ [(⟨1, (a0.extract (x6_1 : Int).toNat a0.size).extract 0 (t104 : Int).toNat, 0, x6_1⟩ : S72)]) := ⟨_, rfl⟩
                              replace H : (ask_Lex.l0 kj7 a0 y105 (wrap64 (x6_1 + (((a0.extract (x6_1 : Int).toNat a0.size).extract 0 (t104 : Int).toNat).size : Int)))) = some (r1, r2, r3) := by first | (rw [hy105]; with_reducible exact H) | (have H2_ := (Option.bind_some _ _).symm.trans H; rw [hy105]; with_reducible exact H2_) | (have H2_ := (Option.bind_some _ _).symm.trans H; with_reducible exact H2_) | with_reducible exact H | (rw [hy105]; exact H) | exact H
                              have Ny105 := Aside0.mk hy105
                              clear hy105
                              have H' := Aside0.mk H
                              clear H
                              try go_wp2_with (first | ((with_reducible refine gate_callee (f := 17) rfl ?_); refine goesL_ (some 46) rfl rfl Tryz.func17 (by kernel_rfl) rfl #[.int .i32 (wrap32 (bt (a0.extract (x6_1 : Int).toNat a0.size) 0))] rfl (by (try simp only [List.map_toArray, List.map_cons, List.map_nil]); first | done | rfl | (simp only [List.length_drop, List.length_take]; rfl)) ?_; (with_reducible refine (ask_isLetter.calls (wrap32 (bt (a0.extract (x6_1 : Int).toNat a0.size) 0)) true _ A13.out).mono ?_); rintro e w' ⟨rfl, ⟨nd, rfl⟩⟩; refine ⟨_, rfl, ?_⟩; (try (rw [drewN_self wc]; generalize hq_ : World.drewN wc _ = wc; have n0_ : Aside0 (Kd.R k72 72 wc w.heap.size (fun k_ => k_ ≠ gb102) u5 x5_1) := ⟨by rw [← hq_]; exact (by (with_reducible repeat (first | apply Kd.R_alloc | apply Kd.R_drewN | apply Kd.R_drew)); exact HO_5.out)⟩; have n1_ : Aside0 (wc.heap[gb102]? = some (.cells #[.int .i64 0, .string (⟨#[]⟩ : ByteArray), .int .i64 0, .int .i64 x6_1] 72 (0, 0))) := ⟨by rw [← hq_]; exact (by (with_reducible repeat (first | refine blk_drewN ?_ _ | refine blk_drew ?_ | refine blk_alloc ?_ _)); exact BK102.out)⟩; have n2_ : Aside0 (Below w.heap.size w wc) := ⟨by rw [← hq_]; exact (by repeat (first | (with_reducible first | exact HB.out | apply below_alloc | apply pw_below_drewN | apply below_drew1 | refine below_set ?_ GE102.out) | exact HB.out))⟩; clear HO_5 BK102 HB hq_; have HO_5 := n0_; have BK102 := n1_; have HB := n2_; clear n0_ n1_ n2_))))
                              have n0_ := Aside0.mk (Kd.R_drew HO_5.out)
                              have n1_ := Aside0.mk (blk_drew BK102.out)
                              have n2_ := Aside0.mk (below_drew1 HB.out)
                              clear HO_5
                              clear BK102
                              clear HB
                              have HO_5 := n0_
                              have BK102 := n1_
                              have HB := n2_
                              clear n0_ n1_ n2_
                              refine start_ (n := 8) (S := fun w' => True) (ds := []) #[false, false, false, false, false, false, false, false] (by kernel_rfl) rfl rfl trivial (fun hHeld => ?_); refine with_tabW ask_Lex.tab15 ask_Lex.bits15 (fun HT_ HW_ => ?_)
                              generalize wc.drew = w19 at HO_5 BK102 HB hHeld ⊢
                              refine pure_ (i := 0) (N := some 47) (v := ?_) (a' := ?_) #[true, false, false, false, false, false, false, false] rfl rfl (any_of HT_.out (by kernel_rfl)) (fun _ _ _ h => h) (Or.inl ⟨by rfl, ?_⟩) ?_ ?_
                              rotate_left
                              · intro w'
                                go_simp
                                with_reducible rfl
                              rotate_left
                              · simp only [Act.put, List.setIfInBounds_toArray, List.set_cons_zero, List.set_cons_succ, i64_w, i32_w]
                                rfl
                              refine pure_ (i := 1) (N := some 48) (v := ?_) (a' := ?_) #[true, true, false, false, false, false, false, false] rfl rfl (any_of HT_.out (by kernel_rfl)) (fun _ _ _ h => h) (Or.inl ⟨by rfl, ?_⟩) ?_ ?_
                              rotate_left
                              · intro w'
                                go_simp
                                with_reducible rfl
                              rotate_left
                              · simp only [Act.put, List.setIfInBounds_toArray, List.set_cons_zero, List.set_cons_succ, i64_w, i32_w]
                                rfl
                              refine pure_ (i := 4) (N := some 51) (v := ?_) (a' := ?_) #[true, true, false, false, true, false, false, false] rfl rfl (any_of HT_.out (by kernel_rfl)) (fun _ _ _ h => h) (Or.inl ⟨by rfl, ?_⟩) ?_ ?_
                              rotate_left
                              · intro w'
                                go_simp
                                with_reducible rfl
                              rotate_left
                              · simp only [Act.put, List.setIfInBounds_toArray, List.set_cons_zero, List.set_cons_succ, i64_w, i32_w]
                                rfl
                              refine one_ (i := 2) (N := some 49) #[true, true, true, false, true, false, false, false] rfl rfl (one_of HT_.out (by kernel_rfl)) (by decide) (fun K hK => ?_)
                              refine goes_ Tryz.func18 (by kernel_rfl) rfl #[.string (a0.extract (x6_1 : Int).toNat a0.size), .func (.func 17) #[] #[]] (by rfl) rfl rfl (by (try simp only [List.map_toArray, List.map_cons, List.map_nil]); first | done | rfl | (simp only [List.length_drop, List.length_take]; rfl)) ?_
                              with_reducible refine (ask_run.calls (a0.extract (x6_1 : Int).toNat a0.size) 17 t104 _ A15.out).mono ?_
                              rintro e w20 ⟨rfl, hb⟩
                              refine ⟨_, rfl, ?_⟩
                              have n0_ := Aside0.mk (Kd.R_below (by (with_reducible repeat (first | apply Kd.R_alloc | apply Kd.R_drewN | apply Kd.R_drew)); exact HO_5.out) hb)
                              have n1_ := Aside0.mk (blk_below (g := gb102) (o := .cells #[.int .i64 0, .string (⟨#[]⟩ : ByteArray), .int .i64 0, .int .i64 x6_1] 72 (0, 0)) (by (with_reducible repeat (first | refine blk_drewN ?_ _ | refine blk_drew ?_ | refine blk_alloc ?_ _)); exact BK102.out) hb)
                              have n2_ := Aside0.mk (below_step (by repeat (first | (with_reducible first | exact HB.out | apply below_alloc | apply pw_below_drewN | apply below_drew1 | refine below_set ?_ GE102.out) | exact HB.out)) hb)
                              clear HO_5
                              clear BK102
                              clear HB
                              have HO_5 := n0_
                              have BK102 := n1_
                              have HB := n2_
                              clear n0_ n1_ n2_
                              (try clear hb)
                              (try clear hb2)
                              (try clear hk)
                              (try clear hi)
                              refine hK.out _ _ trivial (fun hHeld => ?_)
                              clear hK K
                              refine norm_ (a' := ?_) ?_ ?_
                              rotate_left
                              · show Act.put _ (some 49) _ = _
                                simp only [Act.put, List.setIfInBounds_toArray, List.set_cons_zero, List.set_cons_succ, i64_w, i32_w]
                                rfl
                              refine pure_ (i := 3) (N := some 50) (v := ?_) (a' := ?_) #[true, true, true, true, true, false, false, false] rfl rfl (any_of HT_.out (by kernel_rfl)) (fun _ _ _ h => h) (Or.inl ⟨by rfl, ?_⟩) ?_ ?_
                              rotate_left
                              · intro w'
                                go_simp
                                with_reducible rfl
                              rotate_left
                              · simp only [Act.put, List.setIfInBounds_toArray, List.set_cons_zero, List.set_cons_succ, i64_w, i32_w]
                                rfl
                              refine one_ (i := 5) (N := none) #[true, true, true, true, true, true, false, false] rfl rfl (one_of HT_.out (by kernel_rfl)) (by decide) (fun K hK => ?_)
                              have hs21 : w20.cell? ⟨gb102, 0, none⟩ = some (.int .i64 0) := (blk_cell BK102.out 0).trans rfl
                              have hfs21 := blk_frozen BK102.out 0
                              refine skip_ (w1 := ?_) (by rfl) rfl ?_ ?_
                              rotate_left
                              · go_simp
                                rfl
                              refine hK.out _ _ trivial (fun hHeld => ?_)
                              clear hK K
                              refine pure_ (i := 6) (N := some 52) (v := ?_) (a' := ?_) #[true, true, true, true, true, true, true, false] rfl rfl (any_of HT_.out (by kernel_rfl)) (fun _ _ _ h => h) (Or.inl ⟨by rfl, ?_⟩) ?_ ?_
                              rotate_left
                              · intro w'
                                go_simp
                                with_reducible rfl
                              rotate_left
                              · simp only [Act.put, List.setIfInBounds_toArray, List.set_cons_zero, List.set_cons_succ, i64_w, i32_w]
                                rfl
                              refine one_ (i := 7) (N := none) #[true, true, true, true, true, true, true, true] rfl rfl (one_of HT_.out (by kernel_rfl)) (by decide) (fun K hK => ?_)
                              have hs22 : w20.cell? ⟨gb102, 1, none⟩ = some (.string (⟨#[]⟩ : ByteArray)) := (blk_cell BK102.out 1).trans rfl
                              have hfs22 := blk_frozen BK102.out 1
                              refine skip_ (w1 := ?_) (by rfl) rfl ?_ ?_
                              rotate_left
                              · go_simp
                                rfl
                              refine hK.out _ _ trivial (fun hHeld => ?_)
                              clear hK K
                              refine done_ (done_of HT_.out (by kernel_rfl)) ?_
                              have hcz23_0 : w20.cell? ⟨gb102, 0, none⟩ = some (.int .i64 0) := (blk_cell BK102.out 0).trans rfl
                              have hcz23_1 : w20.cell? ⟨gb102, 1, none⟩ = some (.string (⟨#[]⟩ : ByteArray)) := (blk_cell BK102.out 1).trans rfl
                              have hcz23_2 : w20.cell? ⟨gb102, 2, none⟩ = some (.int .i64 0) := (blk_cell BK102.out 2).trans rfl
                              have hcz23_3 : w20.cell? ⟨gb102, 3, none⟩ = some (.int .i64 x6_1) := (blk_cell BK102.out 3).trans rfl
                              have hfz23_0 := blk_frozen BK102.out 0
                              have hfz23_1 := blk_frozen BK102.out 1
                              have hfz23_2 := blk_frozen BK102.out 2
                              have hfz23_3 := blk_frozen BK102.out 3
                              try go_wp2_with (first | ((with_reducible refine gate_builtin (b := .append) (xs := #[.tmp 73, .tmp 75]) rfl ?_); at_builtin; refine Kd.R_append k72 (w0 := w) w.heap.size rfl (.tmp 73) (.tmp 75) 23 72 (.agg #[(.int .i64 0), (.string ⟨#[]⟩), (.int .i64 0), (.int .i64 0)]) 40 rfl Tryz.underlying23 info72 rfl (by decide) (by omega) u5 x5_1 (⟨1, (a0.extract (x6_1 : Int).toNat a0.size).extract 0 (t104 : Int).toNat, 0, x6_1⟩ : S72) [.int .i64 1, .string ((a0.extract (x6_1 : Int).toNat a0.size).extract 0 (t104 : Int).toNat), .int .i64 0, .int .i64 x6_1] (fun k_ => k_ ≠ gb102) (fun _ => False) rfl (by first | (go_simp; done) | (go_simp; rfl)) ?aP (fun _ hk => hk.elim) ?aF ?aO ?aB ?aS ?aL ?_; (case aP => exact k72_mkM _ _ _ (⟨1, (a0.extract (x6_1 : Int).toNat a0.size).extract 0 (t104 : Int).toNat, 0, x6_1⟩ : S72)); (case aB => exact (by repeat (first | (with_reducible first | exact HB.out | apply below_alloc | apply pw_below_drewN | apply below_drew1 | refine below_set ?_ GE102.out) | exact HB.out))); (case aF => exact (fun k_ hk => Kd.freshB (g := gb102) (o := .cells #[.int .i64 1, .string ((a0.extract (x6_1 : Int).toNat a0.size).extract 0 (t104 : Int).toNat), .int .i64 0, .int .i64 x6_1] 72 (0, 0)) (by (with_reducible repeat (first | refine blk_drewN ?_ _ | refine blk_drew ?_ | refine blk_alloc ?_ _)); refine blk_put (cs := #[.int .i64 1, .string (⟨#[]⟩ : ByteArray), .int .i64 0, .int .i64 x6_1]) ?_ 1 _ rfl; (with_reducible repeat (first | refine blk_drewN ?_ _ | refine blk_drew ?_ | refine blk_alloc ?_ _)); refine blk_put (cs := #[.int .i64 0, .string (⟨#[]⟩ : ByteArray), .int .i64 0, .int .i64 x6_1]) ?_ 0 _ rfl; (with_reducible repeat (first | refine blk_drewN ?_ _ | refine blk_drew ?_ | refine blk_alloc ?_ _)); exact BK102.out) k_ hk)); (case aO => exact (by (with_reducible repeat (first | apply Kd.R_alloc | apply Kd.R_drewN | apply Kd.R_drew)); exact Kd.R_mono (Kd.R_far (p := ⟨gb102, 1, none⟩) (Kd.R_far (p := ⟨gb102, 0, none⟩) (Kd.R_mono HO_5.out (fun k_ hk => (⟨hk, hk⟩ : _ ∧ k_ ≠ gb102))) (fun _ hk => hk.2) (.int .i64 1)) (fun _ hk => hk.2) (.string ((a0.extract (x6_1 : Int).toNat a0.size).extract 0 (t104 : Int).toNat))) (fun _ hk => hk.1))); (case aS => exact (below_size (by repeat (first | (with_reducible first | exact HB.out | apply below_alloc | apply pw_below_drewN | apply below_drew1 | refine below_set ?_ GE102.out) | exact HB.out)))); (case aL => have := LMc18.out; omega); intro v106 w24 ho hb hg hat; rw [← Ny105.out] at ho; have n0_ := Aside0.mk (blk_grown (g := gb102) (o := .cells #[.int .i64 1, .string ((a0.extract (x6_1 : Int).toNat a0.size).extract 0 (t104 : Int).toNat), .int .i64 0, .int .i64 x6_1] 72 (0, 0)) (by (with_reducible repeat (first | refine blk_drewN ?_ _ | refine blk_drew ?_ | refine blk_alloc ?_ _)); refine blk_put (cs := #[.int .i64 1, .string (⟨#[]⟩ : ByteArray), .int .i64 0, .int .i64 x6_1]) ?_ 1 _ rfl; (with_reducible repeat (first | refine blk_drewN ?_ _ | refine blk_drew ?_ | refine blk_alloc ?_ _)); refine blk_put (cs := #[.int .i64 0, .string (⟨#[]⟩ : ByteArray), .int .i64 0, .int .i64 x6_1]) ?_ 0 _ rfl; (with_reducible repeat (first | refine blk_drewN ?_ _ | refine blk_drew ?_ | refine blk_alloc ?_ _)); exact BK102.out) hg (Kd.R_away HO_5.out (fun _ hk => hk))); have n1_ := Aside0.mk (hb); have n2_ := Aside0.mk (ho); clear BK102; clear HB; clear HO_5; have BK102 := n0_; have HB := n1_; have HO107 := n2_; clear n0_ n1_ n2_; clear ho hb hg hat; have hcz25_0 : w24.cell? ⟨gb102, 0, none⟩ = some (.int .i64 1) := (blk_cell BK102.out 0).trans rfl; have hcz25_1 : w24.cell? ⟨gb102, 1, none⟩ = some (.string ((a0.extract (x6_1 : Int).toNat a0.size).extract 0 (t104 : Int).toNat)) := (blk_cell BK102.out 1).trans rfl; have hcz25_2 : w24.cell? ⟨gb102, 2, none⟩ = some (.int .i64 0) := (blk_cell BK102.out 2).trans rfl; have hcz25_3 : w24.cell? ⟨gb102, 3, none⟩ = some (.int .i64 x6_1) := (blk_cell BK102.out 3).trans rfl; have hfz25_0 := blk_frozen BK102.out 0; have hfz25_1 := blk_frozen BK102.out 1; have hfz25_2 := blk_frozen BK102.out 2; have hfz25_3 := blk_frozen BK102.out 3))
                              go_roundg kj7
                              case measure => have := HK1.out; have := HJ7.out; omega
                              case rel => exact ⟨(y105), (wrap64 (x6_1 + (((a0.extract (x6_1 : Int).toNat a0.size).extract 0 (t104 : Int).toNat).size : Int))), (by first | rfl | (simp; done) | (simp [*]; done)), H', ⟨by have := HK1.out; have := HJ7.out; omega⟩, ⟨by (with_reducible repeat (first | apply Kd.R_alloc | apply Kd.R_drewN | apply Kd.R_drew)); exact Kd.R_mono HO107.out (fun _ hk => trivial)⟩, ⟨by repeat (first | (with_reducible first | exact HB.out | apply below_alloc | apply pw_below_drewN | apply below_drew1 | refine below_set ?_ GE102.out) | exact HB.out)⟩⟩
                            · rw [if_neg c18] at H
                              exact absurd H (by simp)
                          · rw [if_neg c17] at H
                            exact absurd H (by simp)
                        · rw [if_neg c16] at H
                          exact absurd H (by simp)
                      · replace c14 := Bool.eq_false_iff.mpr c14
                        subst c14
                        have H1 : ((ask_isDigit.f (wrap32 (bt (a0.extract (x6_1 : Int).toNat a0.size) 0))).bind fun t108 => (if t108 = true then ((ask_run.f (a0.extract (x6_1 : Int).toNat a0.size) 19).bind fun t109 => (if 0 ≤ t109 then (if t109 ≤ ((a0.extract (x6_1 : Int).toNat a0.size).size : Int) then ((ask_value.f ((a0.extract (x6_1 : Int).toNat a0.size).extract 0 (t109 : Int).toNat)).bind fun bt110 => (if bt110.2 = true then (if x5_1.length < 3518437208883 then (ask_Lex.l0 kj7 a0 (x5_1 ++ [(⟨2, (a0.extract (x6_1 : Int).toNat a0.size).extract 0 (t109 : Int).toNat, bt110.1, x6_1⟩ : S72)]) (wrap64 (x6_1 + (((a0.extract (x6_1 : Int).toNat a0.size).extract 0 (t109 : Int).toNat).size : Int)))) else (none)) else (some (([] : List (S72)), 3, x6_1)))) else (none)) else (none))) else ((ask_sign.f kj7 (a0.extract (x6_1 : Int).toNat a0.size)).bind fun t115 => (if t115.toList = ([] : List UInt8) then (some (([] : List (S72)), 7, x6_1)) else (if x5_1.length < 3518437208883 then (ask_Lex.l0 kj7 a0 (x5_1 ++ [(⟨3, t115, 0, x6_1⟩ : S72)]) (wrap64 (x6_1 + (t115.size : Int)))) else (none)))))) = some (r1, r2, r3) := by rw [if_neg (show ¬ (false = true) by decide)] at H; exact H
                        clear H
                        have H := H1
                        clear H1
                        replace H := Option.bind_eq_some_iff.mp H
                        obtain ⟨t108, A260, H⟩ := H
                        replace H : (if t108 = true then ((ask_run.f (a0.extract (x6_1 : Int).toNat a0.size) 19).bind fun t109 => (if 0 ≤ t109 then (if t109 ≤ ((a0.extract (x6_1 : Int).toNat a0.size).size : Int) then ((ask_value.f ((a0.extract (x6_1 : Int).toNat a0.size).extract 0 (t109 : Int).toNat)).bind fun bt110 => (if bt110.2 = true then (if x5_1.length < 3518437208883 then (ask_Lex.l0 kj7 a0 (x5_1 ++ [(⟨2, (a0.extract (x6_1 : Int).toNat a0.size).extract 0 (t109 : Int).toNat, bt110.1, x6_1⟩ : S72)]) (wrap64 (x6_1 + (((a0.extract (x6_1 : Int).toNat a0.size).extract 0 (t109 : Int).toNat).size : Int)))) else (none)) else (some (([] : List (S72)), 3, x6_1)))) else (none)) else (none))) else ((ask_sign.f kj7 (a0.extract (x6_1 : Int).toNat a0.size)).bind fun t115 => (if t115.toList = ([] : List UInt8) then (some (([] : List (S72)), 7, x6_1)) else (if x5_1.length < 3518437208883 then (ask_Lex.l0 kj7 a0 (x5_1 ++ [(⟨3, t115, 0, x6_1⟩ : S72)]) (wrap64 (x6_1 + (t115.size : Int)))) else (none))))) = some (r1, r2, r3) := H
                        have A26 := Aside0.mk A260
                        clear A260
                        by_cases c27 : t108 = true
                        · subst c27
                          have H1 : ((ask_run.f (a0.extract (x6_1 : Int).toNat a0.size) 19).bind fun t109 => (if 0 ≤ t109 then (if t109 ≤ ((a0.extract (x6_1 : Int).toNat a0.size).size : Int) then ((ask_value.f ((a0.extract (x6_1 : Int).toNat a0.size).extract 0 (t109 : Int).toNat)).bind fun bt110 => (if bt110.2 = true then (if x5_1.length < 3518437208883 then (ask_Lex.l0 kj7 a0 (x5_1 ++ [(⟨2, (a0.extract (x6_1 : Int).toNat a0.size).extract 0 (t109 : Int).toNat, bt110.1, x6_1⟩ : S72)]) (wrap64 (x6_1 + (((a0.extract (x6_1 : Int).toNat a0.size).extract 0 (t109 : Int).toNat).size : Int)))) else (none)) else (some (([] : List (S72)), 3, x6_1)))) else (none)) else (none))) = some (r1, r2, r3) := by rw [if_pos rfl] at H; exact H
                          clear H
                          have H := H1
                          clear H1
                          replace H := Option.bind_eq_some_iff.mp H
                          obtain ⟨t109, A280, H⟩ := H
                          replace H : (if 0 ≤ t109 then (if t109 ≤ ((a0.extract (x6_1 : Int).toNat a0.size).size : Int) then ((ask_value.f ((a0.extract (x6_1 : Int).toNat a0.size).extract 0 (t109 : Int).toNat)).bind fun bt110 => (if bt110.2 = true then (if x5_1.length < 3518437208883 then (ask_Lex.l0 kj7 a0 (x5_1 ++ [(⟨2, (a0.extract (x6_1 : Int).toNat a0.size).extract 0 (t109 : Int).toNat, bt110.1, x6_1⟩ : S72)]) (wrap64 (x6_1 + (((a0.extract (x6_1 : Int).toNat a0.size).extract 0 (t109 : Int).toNat).size : Int)))) else (none)) else (some (([] : List (S72)), 3, x6_1)))) else (none)) else (none)) = some (r1, r2, r3) := H
                          have A28 := Aside0.mk A280
                          clear A280
                          by_cases c29 : 0 ≤ t109
                          · rw [if_pos c29] at H
                            have c29b0 := eq_true c29
                            have c29b1 : decide (0 ≤ t109) = true := decide_eq_true c29
                            clear c29
                            by_cases c30 : t109 ≤ ((a0.extract (x6_1 : Int).toNat a0.size).size : Int)
                            · rw [if_pos c30] at H
                              have c30b0 := eq_true c30
                              (try (have c30b0z := c30b0; simp only [ByteArray.size_extract, Nat.min_self] at c30b0z))
                              have c30b1 : decide (t109 ≤ ((a0.extract (x6_1 : Int).toNat a0.size).size : Int)) = true := decide_eq_true c30
                              (try (have c30b1z := c30b1; simp only [ByteArray.size_extract, Nat.min_self] at c30b1z))
                              clear c30
                              replace H := Option.bind_eq_some_iff.mp H
                              obtain ⟨⟨t110, t111⟩, A310, H⟩ := H
                              replace H : (if t111 = true then (if x5_1.length < 3518437208883 then (ask_Lex.l0 kj7 a0 (x5_1 ++ [(⟨2, (a0.extract (x6_1 : Int).toNat a0.size).extract 0 (t109 : Int).toNat, t110, x6_1⟩ : S72)]) (wrap64 (x6_1 + (((a0.extract (x6_1 : Int).toNat a0.size).extract 0 (t109 : Int).toNat).size : Int)))) else (none)) else (some (([] : List (S72)), 3, x6_1))) = some (r1, r2, r3) := H
                              have A31 := Aside0.mk A310
                              clear A310
                              by_cases c32 : t111 = true
                              · subst c32
                                have H1 : (if x5_1.length < 3518437208883 then (ask_Lex.l0 kj7 a0 (x5_1 ++ [(⟨2, (a0.extract (x6_1 : Int).toNat a0.size).extract 0 (t109 : Int).toNat, t110, x6_1⟩ : S72)]) (wrap64 (x6_1 + (((a0.extract (x6_1 : Int).toNat a0.size).extract 0 (t109 : Int).toNat).size : Int)))) else (none)) = some (r1, r2, r3) := by rw [if_pos rfl] at H; exact H
                                clear H
                                have H := H1
                                clear H1
                                by_cases c33 : x5_1.length < 3518437208883
                                · rw [if_pos c33] at H
                                  have LMc33 := Aside0.mk c33
                                  clear c33
                                  obtain ⟨y112, hy112⟩ : ∃ y_ : List (S72), y_ = (x5_1 ++ [(⟨2, (a0.extract (x6_1 : Int).toNat a0.size).extract 0 (t109 : Int).toNat, t110, x6_1⟩ : S72)]) := ⟨_, rfl⟩
                                  replace H : (ask_Lex.l0 kj7 a0 y112 (wrap64 (x6_1 + (((a0.extract (x6_1 : Int).toNat a0.size).extract 0 (t109 : Int).toNat).size : Int)))) = some (r1, r2, r3) := by first | (rw [hy112]; with_reducible exact H) | (have H2_ := (Option.bind_some _ _).symm.trans H; rw [hy112]; with_reducible exact H2_) | (have H2_ := (Option.bind_some _ _).symm.trans H; with_reducible exact H2_) | with_reducible exact H | (rw [hy112]; exact H) | exact H
                                  have Ny112 := Aside0.mk hy112
                                  clear hy112
                                  have H' := Aside0.mk H
                                  clear H
                                  try go_wp2_with (first | ((with_reducible refine gate_callee (f := 17) rfl ?_); refine goesL_ (some 46) rfl rfl Tryz.func17 (by kernel_rfl) rfl #[.int .i32 (wrap32 (bt (a0.extract (x6_1 : Int).toNat a0.size) 0))] rfl (by (try simp only [List.map_toArray, List.map_cons, List.map_nil]); first | done | rfl | (simp only [List.length_drop, List.length_take]; rfl)) ?_; (with_reducible refine (ask_isLetter.calls (wrap32 (bt (a0.extract (x6_1 : Int).toNat a0.size) 0)) false _ A13.out).mono ?_); rintro e w' ⟨rfl, ⟨nd, rfl⟩⟩; refine ⟨_, rfl, ?_⟩; (try (rw [drewN_self wc]; generalize hq_ : World.drewN wc _ = wc; have n0_ : Aside0 (Kd.R k72 72 wc w.heap.size (fun k_ => k_ ≠ gb102) u5 x5_1) := ⟨by rw [← hq_]; exact (by (with_reducible repeat (first | apply Kd.R_alloc | apply Kd.R_drewN | apply Kd.R_drew)); exact HO_5.out)⟩; have n1_ : Aside0 (wc.heap[gb102]? = some (.cells #[.int .i64 0, .string (⟨#[]⟩ : ByteArray), .int .i64 0, .int .i64 x6_1] 72 (0, 0))) := ⟨by rw [← hq_]; exact (by (with_reducible repeat (first | refine blk_drewN ?_ _ | refine blk_drew ?_ | refine blk_alloc ?_ _)); exact BK102.out)⟩; have n2_ : Aside0 (Below w.heap.size w wc) := ⟨by rw [← hq_]; exact (by repeat (first | (with_reducible first | exact HB.out | apply below_alloc | apply pw_below_drewN | apply below_drew1 | refine below_set ?_ GE102.out) | exact HB.out))⟩; clear HO_5 BK102 HB hq_; have HO_5 := n0_; have BK102 := n1_; have HB := n2_; clear n0_ n1_ n2_))) | ((with_reducible refine gate_callee (f := 19) rfl ?_); refine goesL_ (some 55) rfl rfl Tryz.func19 (by kernel_rfl) rfl #[.int .i32 (wrap32 (bt (a0.extract (x6_1 : Int).toNat a0.size) 0))] rfl (by (try simp only [List.map_toArray, List.map_cons, List.map_nil]); first | done | rfl | (simp only [List.length_drop, List.length_take]; rfl)) ?_; (with_reducible refine (ask_isDigit.calls (wrap32 (bt (a0.extract (x6_1 : Int).toNat a0.size) 0)) true _ A26.out).mono ?_); rintro e w' ⟨rfl, ⟨nd, rfl⟩⟩; refine ⟨_, rfl, ?_⟩; (try (rw [drewN_self wc]; generalize hq_ : World.drewN wc _ = wc; have n0_ : Aside0 (Kd.R k72 72 wc w.heap.size (fun k_ => k_ ≠ gb102) u5 x5_1) := ⟨by rw [← hq_]; exact (by (with_reducible repeat (first | apply Kd.R_alloc | apply Kd.R_drewN | apply Kd.R_drew)); exact HO_5.out)⟩; have n1_ : Aside0 (wc.heap[gb102]? = some (.cells #[.int .i64 0, .string (⟨#[]⟩ : ByteArray), .int .i64 0, .int .i64 x6_1] 72 (0, 0))) := ⟨by rw [← hq_]; exact (by (with_reducible repeat (first | refine blk_drewN ?_ _ | refine blk_drew ?_ | refine blk_alloc ?_ _)); exact BK102.out)⟩; have n2_ : Aside0 (Below w.heap.size w wc) := ⟨by rw [← hq_]; exact (by repeat (first | (with_reducible first | exact HB.out | apply below_alloc | apply pw_below_drewN | apply below_drew1 | refine below_set ?_ GE102.out) | exact HB.out))⟩; clear HO_5 BK102 HB hq_; have HO_5 := n0_; have BK102 := n1_; have HB := n2_; clear n0_ n1_ n2_))))
                                  have n0_ := Aside0.mk (Kd.R_drew HO_5.out)
                                  have n1_ := Aside0.mk (blk_drew BK102.out)
                                  have n2_ := Aside0.mk (below_drew1 HB.out)
                                  clear HO_5
                                  clear BK102
                                  clear HB
                                  have HO_5 := n0_
                                  have BK102 := n1_
                                  have HB := n2_
                                  clear n0_ n1_ n2_
                                  refine start_ (n := 8) (S := fun w' => True) (ds := []) #[false, false, false, false, false, false, false, false] (by kernel_rfl) rfl rfl trivial (fun hHeld => ?_); refine with_tabW ask_Lex.tab17 ask_Lex.bits17 (fun HT_ HW_ => ?_)
                                  generalize wc.drew = w34 at HO_5 BK102 HB hHeld ⊢
                                  refine pure_ (i := 0) (N := some 56) (v := ?_) (a' := ?_) #[true, false, false, false, false, false, false, false] rfl rfl (any_of HT_.out (by kernel_rfl)) (fun _ _ _ h => h) (Or.inl ⟨by rfl, ?_⟩) ?_ ?_
                                  rotate_left
                                  · intro w'
                                    go_simp
                                    with_reducible rfl
                                  rotate_left
                                  · simp only [Act.put, List.setIfInBounds_toArray, List.set_cons_zero, List.set_cons_succ, i64_w, i32_w]
                                    rfl
                                  refine pure_ (i := 1) (N := some 57) (v := ?_) (a' := ?_) #[true, true, false, false, false, false, false, false] rfl rfl (any_of HT_.out (by kernel_rfl)) (fun _ _ _ h => h) (Or.inl ⟨by rfl, ?_⟩) ?_ ?_
                                  rotate_left
                                  · intro w'
                                    go_simp
                                    with_reducible rfl
                                  rotate_left
                                  · simp only [Act.put, List.setIfInBounds_toArray, List.set_cons_zero, List.set_cons_succ, i64_w, i32_w]
                                    rfl
                                  refine pure_ (i := 4) (N := some 60) (v := ?_) (a' := ?_) #[true, true, false, false, true, false, false, false] rfl rfl (any_of HT_.out (by kernel_rfl)) (fun _ _ _ h => h) (Or.inl ⟨by rfl, ?_⟩) ?_ ?_
                                  rotate_left
                                  · intro w'
                                    go_simp
                                    with_reducible rfl
                                  rotate_left
                                  · simp only [Act.put, List.setIfInBounds_toArray, List.set_cons_zero, List.set_cons_succ, i64_w, i32_w]
                                    rfl
                                  refine one_ (i := 2) (N := some 58) #[true, true, true, false, true, false, false, false] rfl rfl (one_of HT_.out (by kernel_rfl)) (by decide) (fun K hK => ?_)
                                  refine goes_ Tryz.func18 (by kernel_rfl) rfl #[.string (a0.extract (x6_1 : Int).toNat a0.size), .func (.func 19) #[] #[]] (by rfl) rfl rfl (by (try simp only [List.map_toArray, List.map_cons, List.map_nil]); first | done | rfl | (simp only [List.length_drop, List.length_take]; rfl)) ?_
                                  with_reducible refine (ask_run.calls (a0.extract (x6_1 : Int).toNat a0.size) 19 t109 _ A28.out).mono ?_
                                  rintro e w35 ⟨rfl, hb⟩
                                  refine ⟨_, rfl, ?_⟩
                                  have n0_ := Aside0.mk (Kd.R_below (by (with_reducible repeat (first | apply Kd.R_alloc | apply Kd.R_drewN | apply Kd.R_drew)); exact HO_5.out) hb)
                                  have n1_ := Aside0.mk (blk_below (g := gb102) (o := .cells #[.int .i64 0, .string (⟨#[]⟩ : ByteArray), .int .i64 0, .int .i64 x6_1] 72 (0, 0)) (by (with_reducible repeat (first | refine blk_drewN ?_ _ | refine blk_drew ?_ | refine blk_alloc ?_ _)); exact BK102.out) hb)
                                  have n2_ := Aside0.mk (below_step (by repeat (first | (with_reducible first | exact HB.out | apply below_alloc | apply pw_below_drewN | apply below_drew1 | refine below_set ?_ GE102.out) | exact HB.out)) hb)
                                  clear HO_5
                                  clear BK102
                                  clear HB
                                  have HO_5 := n0_
                                  have BK102 := n1_
                                  have HB := n2_
                                  clear n0_ n1_ n2_
                                  (try clear hb)
                                  (try clear hb2)
                                  (try clear hk)
                                  (try clear hi)
                                  refine hK.out _ _ trivial (fun hHeld => ?_)
                                  clear hK K
                                  refine norm_ (a' := ?_) ?_ ?_
                                  rotate_left
                                  · show Act.put _ (some 58) _ = _
                                    simp only [Act.put, List.setIfInBounds_toArray, List.set_cons_zero, List.set_cons_succ, i64_w, i32_w]
                                    rfl
                                  refine pure_ (i := 3) (N := some 59) (v := ?_) (a' := ?_) #[true, true, true, true, true, false, false, false] rfl rfl (any_of HT_.out (by kernel_rfl)) (fun _ _ _ h => h) (Or.inl ⟨by rfl, ?_⟩) ?_ ?_
                                  rotate_left
                                  · intro w'
                                    go_simp
                                    with_reducible rfl
                                  rotate_left
                                  · simp only [Act.put, List.setIfInBounds_toArray, List.set_cons_zero, List.set_cons_succ, i64_w, i32_w]
                                    rfl
                                  refine one_ (i := 5) (N := none) #[true, true, true, true, true, true, false, false] rfl rfl (one_of HT_.out (by kernel_rfl)) (by decide) (fun K hK => ?_)
                                  have hs36 : w35.cell? ⟨gb102, 0, none⟩ = some (.int .i64 0) := (blk_cell BK102.out 0).trans rfl
                                  have hfs36 := blk_frozen BK102.out 0
                                  refine skip_ (w1 := ?_) (by rfl) rfl ?_ ?_
                                  rotate_left
                                  · go_simp
                                    rfl
                                  refine hK.out _ _ trivial (fun hHeld => ?_)
                                  clear hK K
                                  refine pure_ (i := 6) (N := some 61) (v := ?_) (a' := ?_) #[true, true, true, true, true, true, true, false] rfl rfl (any_of HT_.out (by kernel_rfl)) (fun _ _ _ h => h) (Or.inl ⟨by rfl, ?_⟩) ?_ ?_
                                  rotate_left
                                  · intro w'
                                    go_simp
                                    with_reducible rfl
                                  rotate_left
                                  · simp only [Act.put, List.setIfInBounds_toArray, List.set_cons_zero, List.set_cons_succ, i64_w, i32_w]
                                    rfl
                                  refine one_ (i := 7) (N := none) #[true, true, true, true, true, true, true, true] rfl rfl (one_of HT_.out (by kernel_rfl)) (by decide) (fun K hK => ?_)
                                  have hs37 : w35.cell? ⟨gb102, 1, none⟩ = some (.string (⟨#[]⟩ : ByteArray)) := (blk_cell BK102.out 1).trans rfl
                                  have hfs37 := blk_frozen BK102.out 1
                                  refine skip_ (w1 := ?_) (by rfl) rfl ?_ ?_
                                  rotate_left
                                  · go_simp
                                    rfl
                                  refine hK.out _ _ trivial (fun hHeld => ?_)
                                  clear hK K
                                  refine done_ (done_of HT_.out (by kernel_rfl)) ?_
                                  have hcz38_0 : w35.cell? ⟨gb102, 0, none⟩ = some (.int .i64 0) := (blk_cell BK102.out 0).trans rfl
                                  have hcz38_1 : w35.cell? ⟨gb102, 1, none⟩ = some (.string (⟨#[]⟩ : ByteArray)) := (blk_cell BK102.out 1).trans rfl
                                  have hcz38_2 : w35.cell? ⟨gb102, 2, none⟩ = some (.int .i64 0) := (blk_cell BK102.out 2).trans rfl
                                  have hcz38_3 : w35.cell? ⟨gb102, 3, none⟩ = some (.int .i64 x6_1) := (blk_cell BK102.out 3).trans rfl
                                  have hfz38_0 := blk_frozen BK102.out 0
                                  have hfz38_1 := blk_frozen BK102.out 1
                                  have hfz38_2 := blk_frozen BK102.out 2
                                  have hfz38_3 := blk_frozen BK102.out 3
                                  try go_wp2_with (first | ((with_reducible refine gate_callee (f := 20) rfl ?_); refine goesL_ (some 65) rfl rfl Tryz.func20 (by kernel_rfl) rfl #[.string ((a0.extract (x6_1 : Int).toNat a0.size).extract 0 (t109 : Int).toNat)] rfl (by (try simp only [List.map_toArray, List.map_cons, List.map_nil]); first | done | rfl | (simp only [List.length_drop, List.length_take]; rfl)) ?_; (with_reducible refine (ask_value.calls ((a0.extract (x6_1 : Int).toNat a0.size).extract 0 (t109 : Int).toNat) t110 true _ A31.out).mono ?_); rintro e w39 ⟨rfl, hb⟩; refine ⟨_, rfl, ?_⟩; have n0_ := Aside0.mk (Kd.R_below (by (with_reducible repeat (first | apply Kd.R_alloc | apply Kd.R_drewN | apply Kd.R_drew)); exact (Kd.R_mono (Kd.R_far (p := ⟨gb102, 1, none⟩) (Kd.R_far (p := ⟨gb102, 0, none⟩) (Kd.R_mono HO_5.out (fun k_ hk => (⟨hk, hk⟩ : _ ∧ k_ ≠ gb102))) (fun _ hk => hk.2) (.int .i64 2)) (fun _ hk => hk.2) (.string ((a0.extract (x6_1 : Int).toNat a0.size).extract 0 (t109 : Int).toNat))) (fun _ h_ => h_.1))) hb); have n1_ := Aside0.mk (blk_below (g := gb102) (o := .cells #[.int .i64 2, .string ((a0.extract (x6_1 : Int).toNat a0.size).extract 0 (t109 : Int).toNat), .int .i64 0, .int .i64 x6_1] 72 (0, 0)) (by (with_reducible repeat (first | refine blk_drewN ?_ _ | refine blk_drew ?_ | refine blk_alloc ?_ _)); refine blk_put (cs := #[.int .i64 2, .string (⟨#[]⟩ : ByteArray), .int .i64 0, .int .i64 x6_1]) ?_ 1 _ rfl; (with_reducible repeat (first | refine blk_drewN ?_ _ | refine blk_drew ?_ | refine blk_alloc ?_ _)); refine blk_put (cs := #[.int .i64 0, .string (⟨#[]⟩ : ByteArray), .int .i64 0, .int .i64 x6_1]) ?_ 0 _ rfl; (with_reducible repeat (first | refine blk_drewN ?_ _ | refine blk_drew ?_ | refine blk_alloc ?_ _)); exact BK102.out) hb); have n2_ := Aside0.mk (below_step (by repeat (first | (with_reducible first | exact HB.out | apply below_alloc | apply pw_below_drewN | apply below_drew1 | refine below_set ?_ GE102.out) | exact HB.out)) hb); clear HO_5; clear BK102; clear HB; have HO_5 := n0_; have BK102 := n1_; have HB := n2_; clear n0_ n1_ n2_; (try clear hb); (try clear hb2); (try clear hk); (try clear hi); have hcz40_0 : w39.cell? ⟨gb102, 0, none⟩ = some (.int .i64 2) := (blk_cell BK102.out 0).trans rfl; have hcz40_1 : w39.cell? ⟨gb102, 1, none⟩ = some (.string ((a0.extract (x6_1 : Int).toNat a0.size).extract 0 (t109 : Int).toNat)) := (blk_cell BK102.out 1).trans rfl; have hcz40_2 : w39.cell? ⟨gb102, 2, none⟩ = some (.int .i64 0) := (blk_cell BK102.out 2).trans rfl; have hcz40_3 : w39.cell? ⟨gb102, 3, none⟩ = some (.int .i64 x6_1) := (blk_cell BK102.out 3).trans rfl; have hfz40_0 := blk_frozen BK102.out 0; have hfz40_1 := blk_frozen BK102.out 1; have hfz40_2 := blk_frozen BK102.out 2; have hfz40_3 := blk_frozen BK102.out 3) | ((with_reducible refine gate_builtin (b := .append) (xs := #[.tmp 73, .tmp 75]) rfl ?_); at_builtin; refine Kd.R_append k72 (w0 := w) w.heap.size rfl (.tmp 73) (.tmp 75) 23 72 (.agg #[(.int .i64 0), (.string ⟨#[]⟩), (.int .i64 0), (.int .i64 0)]) 40 rfl Tryz.underlying23 info72 rfl (by decide) (by omega) u5 x5_1 (⟨2, (a0.extract (x6_1 : Int).toNat a0.size).extract 0 (t109 : Int).toNat, t110, x6_1⟩ : S72) [.int .i64 2, .string ((a0.extract (x6_1 : Int).toNat a0.size).extract 0 (t109 : Int).toNat), .int .i64 t110, .int .i64 x6_1] (fun k_ => k_ ≠ gb102) (fun _ => False) rfl (by first | (go_simp; done) | (go_simp; rfl)) ?aP (fun _ hk => hk.elim) ?aF ?aO ?aB ?aS ?aL ?_; (case aP => exact k72_mkM _ _ _ (⟨2, (a0.extract (x6_1 : Int).toNat a0.size).extract 0 (t109 : Int).toNat, t110, x6_1⟩ : S72)); (case aB => exact (by repeat (first | (with_reducible first | exact HB.out | apply below_alloc | apply pw_below_drewN | apply below_drew1 | refine below_set ?_ GE102.out) | exact HB.out))); (case aF => exact (fun k_ hk => Kd.freshB (g := gb102) (o := .cells #[.int .i64 2, .string ((a0.extract (x6_1 : Int).toNat a0.size).extract 0 (t109 : Int).toNat), .int .i64 t110, .int .i64 x6_1] 72 (0, 0)) (by (with_reducible repeat (first | refine blk_drewN ?_ _ | refine blk_drew ?_ | refine blk_alloc ?_ _)); refine blk_put (cs := #[.int .i64 2, .string ((a0.extract (x6_1 : Int).toNat a0.size).extract 0 (t109 : Int).toNat), .int .i64 0, .int .i64 x6_1]) ?_ 2 _ rfl; (with_reducible repeat (first | refine blk_drewN ?_ _ | refine blk_drew ?_ | refine blk_alloc ?_ _)); exact BK102.out) k_ hk)); (case aO => exact (by (with_reducible repeat (first | apply Kd.R_alloc | apply Kd.R_drewN | apply Kd.R_drew)); exact Kd.R_mono (Kd.R_far (p := ⟨gb102, 2, none⟩) (Kd.R_mono HO_5.out (fun k_ hk => (⟨hk, hk⟩ : _ ∧ k_ ≠ gb102))) (fun _ hk => hk.2) (.int .i64 t110)) (fun _ hk => hk.1))); (case aS => exact (below_size (by repeat (first | (with_reducible first | exact HB.out | apply below_alloc | apply pw_below_drewN | apply below_drew1 | refine below_set ?_ GE102.out) | exact HB.out)))); (case aL => have := LMc33.out; omega); intro v113 w41 ho hb hg hat; rw [← Ny112.out] at ho; have n0_ := Aside0.mk (blk_grown (g := gb102) (o := .cells #[.int .i64 2, .string ((a0.extract (x6_1 : Int).toNat a0.size).extract 0 (t109 : Int).toNat), .int .i64 t110, .int .i64 x6_1] 72 (0, 0)) (by (with_reducible repeat (first | refine blk_drewN ?_ _ | refine blk_drew ?_ | refine blk_alloc ?_ _)); refine blk_put (cs := #[.int .i64 2, .string ((a0.extract (x6_1 : Int).toNat a0.size).extract 0 (t109 : Int).toNat), .int .i64 0, .int .i64 x6_1]) ?_ 2 _ rfl; (with_reducible repeat (first | refine blk_drewN ?_ _ | refine blk_drew ?_ | refine blk_alloc ?_ _)); exact BK102.out) hg (Kd.R_away HO_5.out (fun _ hk => hk))); have n1_ := Aside0.mk (hb); have n2_ := Aside0.mk (ho); clear BK102; clear HB; clear HO_5; have BK102 := n0_; have HB := n1_; have HO114 := n2_; clear n0_ n1_ n2_; clear ho hb hg hat; have hcz42_0 : w41.cell? ⟨gb102, 0, none⟩ = some (.int .i64 2) := (blk_cell BK102.out 0).trans rfl; have hcz42_1 : w41.cell? ⟨gb102, 1, none⟩ = some (.string ((a0.extract (x6_1 : Int).toNat a0.size).extract 0 (t109 : Int).toNat)) := (blk_cell BK102.out 1).trans rfl; have hcz42_2 : w41.cell? ⟨gb102, 2, none⟩ = some (.int .i64 t110) := (blk_cell BK102.out 2).trans rfl; have hcz42_3 : w41.cell? ⟨gb102, 3, none⟩ = some (.int .i64 x6_1) := (blk_cell BK102.out 3).trans rfl; have hfz42_0 := blk_frozen BK102.out 0; have hfz42_1 := blk_frozen BK102.out 1; have hfz42_2 := blk_frozen BK102.out 2; have hfz42_3 := blk_frozen BK102.out 3))
                                  go_roundg kj7
                                  case measure => have := HK1.out; have := HJ7.out; omega
                                  case rel => exact ⟨(y112), (wrap64 (x6_1 + (((a0.extract (x6_1 : Int).toNat a0.size).extract 0 (t109 : Int).toNat).size : Int))), (by first | rfl | (simp; done) | (simp [*]; done)), H', ⟨by have := HK1.out; have := HJ7.out; omega⟩, ⟨by (with_reducible repeat (first | apply Kd.R_alloc | apply Kd.R_drewN | apply Kd.R_drew)); exact Kd.R_mono HO114.out (fun _ hk => trivial)⟩, ⟨by repeat (first | (with_reducible first | exact HB.out | apply below_alloc | apply pw_below_drewN | apply below_drew1 | refine below_set ?_ GE102.out) | exact HB.out)⟩⟩
                                · rw [if_neg c33] at H
                                  exact absurd H (by simp)
                              · replace c32 := Bool.eq_false_iff.mpr c32
                                subst c32
                                have H1 : (some (([] : List (S72)), 3, x6_1)) = some (r1, r2, r3) := by rw [if_neg (show ¬ (false = true) by decide)] at H; exact H
                                clear H
                                have H := H1
                                clear H1
                                simp only [Option.some.injEq, Prod.mk.injEq] at H
                                obtain ⟨rfl, rfl, rfl⟩ := H
                                try go_wp2_with (first | ((with_reducible refine gate_callee (f := 17) rfl ?_); refine goesL_ (some 46) rfl rfl Tryz.func17 (by kernel_rfl) rfl #[.int .i32 (wrap32 (bt (a0.extract (x6_1 : Int).toNat a0.size) 0))] rfl (by (try simp only [List.map_toArray, List.map_cons, List.map_nil]); first | done | rfl | (simp only [List.length_drop, List.length_take]; rfl)) ?_; (with_reducible refine (ask_isLetter.calls (wrap32 (bt (a0.extract (x6_1 : Int).toNat a0.size) 0)) false _ A13.out).mono ?_); rintro e w' ⟨rfl, ⟨nd, rfl⟩⟩; refine ⟨_, rfl, ?_⟩; (try (rw [drewN_self wc]; generalize hq_ : World.drewN wc _ = wc; have n0_ : Aside0 (Kd.R k72 72 wc w.heap.size (fun k_ => k_ ≠ gb102) u5 x5_1) := ⟨by rw [← hq_]; exact (by (with_reducible repeat (first | apply Kd.R_alloc | apply Kd.R_drewN | apply Kd.R_drew)); exact HO_5.out)⟩; have n1_ : Aside0 (wc.heap[gb102]? = some (.cells #[.int .i64 0, .string (⟨#[]⟩ : ByteArray), .int .i64 0, .int .i64 x6_1] 72 (0, 0))) := ⟨by rw [← hq_]; exact (by (with_reducible repeat (first | refine blk_drewN ?_ _ | refine blk_drew ?_ | refine blk_alloc ?_ _)); exact BK102.out)⟩; have n2_ : Aside0 (Below w.heap.size w wc) := ⟨by rw [← hq_]; exact (by repeat (first | (with_reducible first | exact HB.out | apply below_alloc | apply pw_below_drewN | apply below_drew1 | refine below_set ?_ GE102.out) | exact HB.out))⟩; clear HO_5 BK102 HB hq_; have HO_5 := n0_; have BK102 := n1_; have HB := n2_; clear n0_ n1_ n2_))) | ((with_reducible refine gate_callee (f := 19) rfl ?_); refine goesL_ (some 55) rfl rfl Tryz.func19 (by kernel_rfl) rfl #[.int .i32 (wrap32 (bt (a0.extract (x6_1 : Int).toNat a0.size) 0))] rfl (by (try simp only [List.map_toArray, List.map_cons, List.map_nil]); first | done | rfl | (simp only [List.length_drop, List.length_take]; rfl)) ?_; (with_reducible refine (ask_isDigit.calls (wrap32 (bt (a0.extract (x6_1 : Int).toNat a0.size) 0)) true _ A26.out).mono ?_); rintro e w' ⟨rfl, ⟨nd, rfl⟩⟩; refine ⟨_, rfl, ?_⟩; (try (rw [drewN_self wc]; generalize hq_ : World.drewN wc _ = wc; have n0_ : Aside0 (Kd.R k72 72 wc w.heap.size (fun k_ => k_ ≠ gb102) u5 x5_1) := ⟨by rw [← hq_]; exact (by (with_reducible repeat (first | apply Kd.R_alloc | apply Kd.R_drewN | apply Kd.R_drew)); exact HO_5.out)⟩; have n1_ : Aside0 (wc.heap[gb102]? = some (.cells #[.int .i64 0, .string (⟨#[]⟩ : ByteArray), .int .i64 0, .int .i64 x6_1] 72 (0, 0))) := ⟨by rw [← hq_]; exact (by (with_reducible repeat (first | refine blk_drewN ?_ _ | refine blk_drew ?_ | refine blk_alloc ?_ _)); exact BK102.out)⟩; have n2_ : Aside0 (Below w.heap.size w wc) := ⟨by rw [← hq_]; exact (by repeat (first | (with_reducible first | exact HB.out | apply below_alloc | apply pw_below_drewN | apply below_drew1 | refine below_set ?_ GE102.out) | exact HB.out))⟩; clear HO_5 BK102 HB hq_; have HO_5 := n0_; have BK102 := n1_; have HB := n2_; clear n0_ n1_ n2_))))
                                have n0_ := Aside0.mk (Kd.R_drew HO_5.out)
                                have n1_ := Aside0.mk (blk_drew BK102.out)
                                have n2_ := Aside0.mk (below_drew1 HB.out)
                                clear HO_5
                                clear BK102
                                clear HB
                                have HO_5 := n0_
                                have BK102 := n1_
                                have HB := n2_
                                clear n0_ n1_ n2_
                                refine start_ (n := 8) (S := fun w' => True) (ds := []) #[false, false, false, false, false, false, false, false] (by kernel_rfl) rfl rfl trivial (fun hHeld => ?_); refine with_tabW ask_Lex.tab17 ask_Lex.bits17 (fun HT_ HW_ => ?_)
                                generalize wc.drew = w43 at HO_5 BK102 HB hHeld ⊢
                                refine pure_ (i := 0) (N := some 56) (v := ?_) (a' := ?_) #[true, false, false, false, false, false, false, false] rfl rfl (any_of HT_.out (by kernel_rfl)) (fun _ _ _ h => h) (Or.inl ⟨by rfl, ?_⟩) ?_ ?_
                                rotate_left
                                · intro w'
                                  go_simp
                                  with_reducible rfl
                                rotate_left
                                · simp only [Act.put, List.setIfInBounds_toArray, List.set_cons_zero, List.set_cons_succ, i64_w, i32_w]
                                  rfl
                                refine pure_ (i := 1) (N := some 57) (v := ?_) (a' := ?_) #[true, true, false, false, false, false, false, false] rfl rfl (any_of HT_.out (by kernel_rfl)) (fun _ _ _ h => h) (Or.inl ⟨by rfl, ?_⟩) ?_ ?_
                                rotate_left
                                · intro w'
                                  go_simp
                                  with_reducible rfl
                                rotate_left
                                · simp only [Act.put, List.setIfInBounds_toArray, List.set_cons_zero, List.set_cons_succ, i64_w, i32_w]
                                  rfl
                                refine pure_ (i := 4) (N := some 60) (v := ?_) (a' := ?_) #[true, true, false, false, true, false, false, false] rfl rfl (any_of HT_.out (by kernel_rfl)) (fun _ _ _ h => h) (Or.inl ⟨by rfl, ?_⟩) ?_ ?_
                                rotate_left
                                · intro w'
                                  go_simp
                                  with_reducible rfl
                                rotate_left
                                · simp only [Act.put, List.setIfInBounds_toArray, List.set_cons_zero, List.set_cons_succ, i64_w, i32_w]
                                  rfl
                                refine one_ (i := 2) (N := some 58) #[true, true, true, false, true, false, false, false] rfl rfl (one_of HT_.out (by kernel_rfl)) (by decide) (fun K hK => ?_)
                                refine goes_ Tryz.func18 (by kernel_rfl) rfl #[.string (a0.extract (x6_1 : Int).toNat a0.size), .func (.func 19) #[] #[]] (by rfl) rfl rfl (by (try simp only [List.map_toArray, List.map_cons, List.map_nil]); first | done | rfl | (simp only [List.length_drop, List.length_take]; rfl)) ?_
                                with_reducible refine (ask_run.calls (a0.extract (x6_1 : Int).toNat a0.size) 19 t109 _ A28.out).mono ?_
                                rintro e w44 ⟨rfl, hb⟩
                                refine ⟨_, rfl, ?_⟩
                                have n0_ := Aside0.mk (Kd.R_below (by (with_reducible repeat (first | apply Kd.R_alloc | apply Kd.R_drewN | apply Kd.R_drew)); exact HO_5.out) hb)
                                have n1_ := Aside0.mk (blk_below (g := gb102) (o := .cells #[.int .i64 0, .string (⟨#[]⟩ : ByteArray), .int .i64 0, .int .i64 x6_1] 72 (0, 0)) (by (with_reducible repeat (first | refine blk_drewN ?_ _ | refine blk_drew ?_ | refine blk_alloc ?_ _)); exact BK102.out) hb)
                                have n2_ := Aside0.mk (below_step (by repeat (first | (with_reducible first | exact HB.out | apply below_alloc | apply pw_below_drewN | apply below_drew1 | refine below_set ?_ GE102.out) | exact HB.out)) hb)
                                clear HO_5
                                clear BK102
                                clear HB
                                have HO_5 := n0_
                                have BK102 := n1_
                                have HB := n2_
                                clear n0_ n1_ n2_
                                (try clear hb)
                                (try clear hb2)
                                (try clear hk)
                                (try clear hi)
                                refine hK.out _ _ trivial (fun hHeld => ?_)
                                clear hK K
                                refine norm_ (a' := ?_) ?_ ?_
                                rotate_left
                                · show Act.put _ (some 58) _ = _
                                  simp only [Act.put, List.setIfInBounds_toArray, List.set_cons_zero, List.set_cons_succ, i64_w, i32_w]
                                  rfl
                                refine pure_ (i := 3) (N := some 59) (v := ?_) (a' := ?_) #[true, true, true, true, true, false, false, false] rfl rfl (any_of HT_.out (by kernel_rfl)) (fun _ _ _ h => h) (Or.inl ⟨by rfl, ?_⟩) ?_ ?_
                                rotate_left
                                · intro w'
                                  go_simp
                                  with_reducible rfl
                                rotate_left
                                · simp only [Act.put, List.setIfInBounds_toArray, List.set_cons_zero, List.set_cons_succ, i64_w, i32_w]
                                  rfl
                                refine one_ (i := 5) (N := none) #[true, true, true, true, true, true, false, false] rfl rfl (one_of HT_.out (by kernel_rfl)) (by decide) (fun K hK => ?_)
                                have hs45 : w44.cell? ⟨gb102, 0, none⟩ = some (.int .i64 0) := (blk_cell BK102.out 0).trans rfl
                                have hfs45 := blk_frozen BK102.out 0
                                refine skip_ (w1 := ?_) (by rfl) rfl ?_ ?_
                                rotate_left
                                · go_simp
                                  rfl
                                refine hK.out _ _ trivial (fun hHeld => ?_)
                                clear hK K
                                refine pure_ (i := 6) (N := some 61) (v := ?_) (a' := ?_) #[true, true, true, true, true, true, true, false] rfl rfl (any_of HT_.out (by kernel_rfl)) (fun _ _ _ h => h) (Or.inl ⟨by rfl, ?_⟩) ?_ ?_
                                rotate_left
                                · intro w'
                                  go_simp
                                  with_reducible rfl
                                rotate_left
                                · simp only [Act.put, List.setIfInBounds_toArray, List.set_cons_zero, List.set_cons_succ, i64_w, i32_w]
                                  rfl
                                refine one_ (i := 7) (N := none) #[true, true, true, true, true, true, true, true] rfl rfl (one_of HT_.out (by kernel_rfl)) (by decide) (fun K hK => ?_)
                                have hs46 : w44.cell? ⟨gb102, 1, none⟩ = some (.string (⟨#[]⟩ : ByteArray)) := (blk_cell BK102.out 1).trans rfl
                                have hfs46 := blk_frozen BK102.out 1
                                refine skip_ (w1 := ?_) (by rfl) rfl ?_ ?_
                                rotate_left
                                · go_simp
                                  rfl
                                refine hK.out _ _ trivial (fun hHeld => ?_)
                                clear hK K
                                refine done_ (done_of HT_.out (by kernel_rfl)) ?_
                                have hcz47_0 : w44.cell? ⟨gb102, 0, none⟩ = some (.int .i64 0) := (blk_cell BK102.out 0).trans rfl
                                have hcz47_1 : w44.cell? ⟨gb102, 1, none⟩ = some (.string (⟨#[]⟩ : ByteArray)) := (blk_cell BK102.out 1).trans rfl
                                have hcz47_2 : w44.cell? ⟨gb102, 2, none⟩ = some (.int .i64 0) := (blk_cell BK102.out 2).trans rfl
                                have hcz47_3 : w44.cell? ⟨gb102, 3, none⟩ = some (.int .i64 x6_1) := (blk_cell BK102.out 3).trans rfl
                                have hfz47_0 := blk_frozen BK102.out 0
                                have hfz47_1 := blk_frozen BK102.out 1
                                have hfz47_2 := blk_frozen BK102.out 2
                                have hfz47_3 := blk_frozen BK102.out 3
                                try go_wp2_with (first | ((with_reducible refine gate_callee (f := 20) rfl ?_); refine goesL_ (some 65) rfl rfl Tryz.func20 (by kernel_rfl) rfl #[.string ((a0.extract (x6_1 : Int).toNat a0.size).extract 0 (t109 : Int).toNat)] rfl (by (try simp only [List.map_toArray, List.map_cons, List.map_nil]); first | done | rfl | (simp only [List.length_drop, List.length_take]; rfl)) ?_; (with_reducible refine (ask_value.calls ((a0.extract (x6_1 : Int).toNat a0.size).extract 0 (t109 : Int).toNat) t110 false _ A31.out).mono ?_); rintro e w48 ⟨rfl, hb⟩; refine ⟨_, rfl, ?_⟩; have n0_ := Aside0.mk (Kd.R_below (by (with_reducible repeat (first | apply Kd.R_alloc | apply Kd.R_drewN | apply Kd.R_drew)); exact (Kd.R_mono (Kd.R_far (p := ⟨gb102, 1, none⟩) (Kd.R_far (p := ⟨gb102, 0, none⟩) (Kd.R_mono HO_5.out (fun k_ hk => (⟨hk, hk⟩ : _ ∧ k_ ≠ gb102))) (fun _ hk => hk.2) (.int .i64 2)) (fun _ hk => hk.2) (.string ((a0.extract (x6_1 : Int).toNat a0.size).extract 0 (t109 : Int).toNat))) (fun _ h_ => h_.1))) hb); have n1_ := Aside0.mk (blk_below (g := gb102) (o := .cells #[.int .i64 2, .string ((a0.extract (x6_1 : Int).toNat a0.size).extract 0 (t109 : Int).toNat), .int .i64 0, .int .i64 x6_1] 72 (0, 0)) (by (with_reducible repeat (first | refine blk_drewN ?_ _ | refine blk_drew ?_ | refine blk_alloc ?_ _)); refine blk_put (cs := #[.int .i64 2, .string (⟨#[]⟩ : ByteArray), .int .i64 0, .int .i64 x6_1]) ?_ 1 _ rfl; (with_reducible repeat (first | refine blk_drewN ?_ _ | refine blk_drew ?_ | refine blk_alloc ?_ _)); refine blk_put (cs := #[.int .i64 0, .string (⟨#[]⟩ : ByteArray), .int .i64 0, .int .i64 x6_1]) ?_ 0 _ rfl; (with_reducible repeat (first | refine blk_drewN ?_ _ | refine blk_drew ?_ | refine blk_alloc ?_ _)); exact BK102.out) hb); have n2_ := Aside0.mk (below_step (by repeat (first | (with_reducible first | exact HB.out | apply below_alloc | apply pw_below_drewN | apply below_drew1 | refine below_set ?_ GE102.out) | exact HB.out)) hb); clear HO_5; clear BK102; clear HB; have HO_5 := n0_; have BK102 := n1_; have HB := n2_; clear n0_ n1_ n2_; (try clear hb); (try clear hb2); (try clear hk); (try clear hi)))
                                go_ret3
                                exact ⟨_, by first | rfl | (simp [errW_none, errW_some] <;> rfl) | (simp [*, errW_none, errW_some] <;> rfl), by first | exact Kd.R_nil _ _ _ _ _ | exact Kd.N_nil _ _ _ _ _ | exact Kd.V_nil _ _ _ _ _ | exact Kd.Q_nil _ _ _ _ _ | exact Kd.S_nil _ _ _ _ _, by repeat (first | (with_reducible first | exact HB.out | apply below_alloc | apply pw_below_drewN | apply below_drew1 | refine below_set ?_ GE102.out) | exact HB.out)⟩
                            · rw [if_neg c30] at H
                              exact absurd H (by simp)
                          · rw [if_neg c29] at H
                            exact absurd H (by simp)
                        · replace c27 := Bool.eq_false_iff.mpr c27
                          subst c27
                          have H1 : ((ask_sign.f kj7 (a0.extract (x6_1 : Int).toNat a0.size)).bind fun t115 => (if t115.toList = ([] : List UInt8) then (some (([] : List (S72)), 7, x6_1)) else (if x5_1.length < 3518437208883 then (ask_Lex.l0 kj7 a0 (x5_1 ++ [(⟨3, t115, 0, x6_1⟩ : S72)]) (wrap64 (x6_1 + (t115.size : Int)))) else (none)))) = some (r1, r2, r3) := by rw [if_neg (show ¬ (false = true) by decide)] at H; exact H
                          clear H
                          have H := H1
                          clear H1
                          replace H := Option.bind_eq_some_iff.mp H
                          obtain ⟨t115, A490, H⟩ := H
                          replace H : (if t115.toList = ([] : List UInt8) then (some (([] : List (S72)), 7, x6_1)) else (if x5_1.length < 3518437208883 then (ask_Lex.l0 kj7 a0 (x5_1 ++ [(⟨3, t115, 0, x6_1⟩ : S72)]) (wrap64 (x6_1 + (t115.size : Int)))) else (none))) = some (r1, r2, r3) := H
                          have A49 := Aside0.mk A490
                          clear A490
                          by_cases c50 : t115.toList = ([] : List UInt8)
                          · rw [if_pos c50] at H
                            have c50b0 : (t115.toList == ([] : List UInt8)) = true := beq_iff_eq.mpr c50
                            have c50b1 : (t115.toList != ([] : List UInt8)) = false := bne_eq_false_iff_eq.mpr c50
                            clear c50
                            simp only [Option.some.injEq, Prod.mk.injEq] at H
                            obtain ⟨rfl, rfl, rfl⟩ := H
                            go_wp2_with (first | ((with_reducible refine gate_callee (f := 17) rfl ?_); refine goesL_ (some 46) rfl rfl Tryz.func17 (by kernel_rfl) rfl #[.int .i32 (wrap32 (bt (a0.extract (x6_1 : Int).toNat a0.size) 0))] rfl (by (try simp only [List.map_toArray, List.map_cons, List.map_nil]); first | done | rfl | (simp only [List.length_drop, List.length_take]; rfl)) ?_; (with_reducible refine (ask_isLetter.calls (wrap32 (bt (a0.extract (x6_1 : Int).toNat a0.size) 0)) false _ A13.out).mono ?_); rintro e w' ⟨rfl, ⟨nd, rfl⟩⟩; refine ⟨_, rfl, ?_⟩; (try (rw [drewN_self wc]; generalize hq_ : World.drewN wc _ = wc; have n0_ : Aside0 (Kd.R k72 72 wc w.heap.size (fun k_ => k_ ≠ gb102) u5 x5_1) := ⟨by rw [← hq_]; exact (by (with_reducible repeat (first | apply Kd.R_alloc | apply Kd.R_drewN | apply Kd.R_drew)); exact HO_5.out)⟩; have n1_ : Aside0 (wc.heap[gb102]? = some (.cells #[.int .i64 0, .string (⟨#[]⟩ : ByteArray), .int .i64 0, .int .i64 x6_1] 72 (0, 0))) := ⟨by rw [← hq_]; exact (by (with_reducible repeat (first | refine blk_drewN ?_ _ | refine blk_drew ?_ | refine blk_alloc ?_ _)); exact BK102.out)⟩; have n2_ : Aside0 (Below w.heap.size w wc) := ⟨by rw [← hq_]; exact (by repeat (first | (with_reducible first | exact HB.out | apply below_alloc | apply pw_below_drewN | apply below_drew1 | refine below_set ?_ GE102.out) | exact HB.out))⟩; clear HO_5 BK102 HB hq_; have HO_5 := n0_; have BK102 := n1_; have HB := n2_; clear n0_ n1_ n2_))) | ((with_reducible refine gate_callee (f := 19) rfl ?_); refine goesL_ (some 55) rfl rfl Tryz.func19 (by kernel_rfl) rfl #[.int .i32 (wrap32 (bt (a0.extract (x6_1 : Int).toNat a0.size) 0))] rfl (by (try simp only [List.map_toArray, List.map_cons, List.map_nil]); first | done | rfl | (simp only [List.length_drop, List.length_take]; rfl)) ?_; (with_reducible refine (ask_isDigit.calls (wrap32 (bt (a0.extract (x6_1 : Int).toNat a0.size) 0)) false _ A26.out).mono ?_); rintro e w' ⟨rfl, ⟨nd, rfl⟩⟩; refine ⟨_, rfl, ?_⟩; (try (rw [drewN_self wc]; generalize hq_ : World.drewN wc _ = wc; have n0_ : Aside0 (Kd.R k72 72 wc w.heap.size (fun k_ => k_ ≠ gb102) u5 x5_1) := ⟨by rw [← hq_]; exact (by (with_reducible repeat (first | apply Kd.R_alloc | apply Kd.R_drewN | apply Kd.R_drew)); exact HO_5.out)⟩; have n1_ : Aside0 (wc.heap[gb102]? = some (.cells #[.int .i64 0, .string (⟨#[]⟩ : ByteArray), .int .i64 0, .int .i64 x6_1] 72 (0, 0))) := ⟨by rw [← hq_]; exact (by (with_reducible repeat (first | refine blk_drewN ?_ _ | refine blk_drew ?_ | refine blk_alloc ?_ _)); exact BK102.out)⟩; have n2_ : Aside0 (Below w.heap.size w wc) := ⟨by rw [← hq_]; exact (by repeat (first | (with_reducible first | exact HB.out | apply below_alloc | apply pw_below_drewN | apply below_drew1 | refine below_set ?_ GE102.out) | exact HB.out))⟩; clear HO_5 BK102 HB hq_; have HO_5 := n0_; have BK102 := n1_; have HB := n2_; clear n0_ n1_ n2_))) | ((with_reducible refine gate_callee (f := 21) rfl ?_); refine goesL_ (some 28) rfl rfl Tryz.func21 (by kernel_rfl) rfl #[.string (a0.extract (x6_1 : Int).toNat a0.size)] rfl (by (try simp only [List.map_toArray, List.map_cons, List.map_nil]); first | done | rfl | (simp only [List.length_drop, List.length_take]; rfl)) ?_; (with_reducible refine (ask_sign.calls kj7 (a0.extract (x6_1 : Int).toNat a0.size) t115 _ A49.out).mono ?_); rintro e w' ⟨rfl, ⟨nd, rfl⟩⟩; refine ⟨_, rfl, ?_⟩; (try (rw [drewN_self wc]; generalize hq_ : World.drewN wc _ = wc; have n0_ : Aside0 (Kd.R k72 72 wc w.heap.size (fun k_ => k_ ≠ gb102) u5 x5_1) := ⟨by rw [← hq_]; exact (by (with_reducible repeat (first | apply Kd.R_alloc | apply Kd.R_drewN | apply Kd.R_drew)); exact HO_5.out)⟩; have n1_ : Aside0 (wc.heap[gb102]? = some (.cells #[.int .i64 0, .string (⟨#[]⟩ : ByteArray), .int .i64 0, .int .i64 x6_1] 72 (0, 0))) := ⟨by rw [← hq_]; exact (by (with_reducible repeat (first | refine blk_drewN ?_ _ | refine blk_drew ?_ | refine blk_alloc ?_ _)); exact BK102.out)⟩; have n2_ : Aside0 (Below w.heap.size w wc) := ⟨by rw [← hq_]; exact (by repeat (first | (with_reducible first | exact HB.out | apply below_alloc | apply pw_below_drewN | apply below_drew1 | refine below_set ?_ GE102.out) | exact HB.out))⟩; clear HO_5 BK102 HB hq_; have HO_5 := n0_; have BK102 := n1_; have HB := n2_; clear n0_ n1_ n2_)); have hcz51_0 : wc.cell? ⟨gb102, 0, none⟩ = some (.int .i64 0) := (blk_cell BK102.out 0).trans rfl; have hcz51_1 : wc.cell? ⟨gb102, 1, none⟩ = some (.string (⟨#[]⟩ : ByteArray)) := (blk_cell BK102.out 1).trans rfl; have hcz51_2 : wc.cell? ⟨gb102, 2, none⟩ = some (.int .i64 0) := (blk_cell BK102.out 2).trans rfl; have hcz51_3 : wc.cell? ⟨gb102, 3, none⟩ = some (.int .i64 x6_1) := (blk_cell BK102.out 3).trans rfl; have hfz51_0 := blk_frozen BK102.out 0; have hfz51_1 := blk_frozen BK102.out 1; have hfz51_2 := blk_frozen BK102.out 2; have hfz51_3 := blk_frozen BK102.out 3))
                            go_ret3
                            exact ⟨_, by first | rfl | (simp [errW_none, errW_some] <;> rfl) | (simp [*, errW_none, errW_some] <;> rfl), by first | exact Kd.R_nil _ _ _ _ _ | exact Kd.N_nil _ _ _ _ _ | exact Kd.V_nil _ _ _ _ _ | exact Kd.Q_nil _ _ _ _ _ | exact Kd.S_nil _ _ _ _ _, by repeat (first | (with_reducible first | exact HB.out | apply below_alloc | apply pw_below_drewN | apply below_drew1 | refine below_set ?_ GE102.out) | exact HB.out)⟩
                          · rw [if_neg c50] at H
                            have c50b0 : (t115.toList == ([] : List UInt8)) = false := beq_eq_false_iff_ne.mpr c50
                            have c50b1 : (t115.toList != ([] : List UInt8)) = true := bne_iff_ne.mpr c50
                            by_cases c52 : x5_1.length < 3518437208883
                            · rw [if_pos c52] at H
                              have LMc52 := Aside0.mk c52
                              clear c52
                              obtain ⟨y116, hy116⟩ : ∃ y_ : List (S72), y_ = (x5_1 ++ [(⟨3, t115, 0, x6_1⟩ : S72)]) := ⟨_, rfl⟩
                              replace H : (ask_Lex.l0 kj7 a0 y116 (wrap64 (x6_1 + (t115.size : Int)))) = some (r1, r2, r3) := by first | (rw [hy116]; with_reducible exact H) | (have H2_ := (Option.bind_some _ _).symm.trans H; rw [hy116]; with_reducible exact H2_) | (have H2_ := (Option.bind_some _ _).symm.trans H; with_reducible exact H2_) | with_reducible exact H | (rw [hy116]; exact H) | exact H
                              have Ny116 := Aside0.mk hy116
                              clear hy116
                              have H' := Aside0.mk H
                              clear H
                              go_wp2_with (first | ((with_reducible refine gate_callee (f := 17) rfl ?_); refine goesL_ (some 46) rfl rfl Tryz.func17 (by kernel_rfl) rfl #[.int .i32 (wrap32 (bt (a0.extract (x6_1 : Int).toNat a0.size) 0))] rfl (by (try simp only [List.map_toArray, List.map_cons, List.map_nil]); first | done | rfl | (simp only [List.length_drop, List.length_take]; rfl)) ?_; (with_reducible refine (ask_isLetter.calls (wrap32 (bt (a0.extract (x6_1 : Int).toNat a0.size) 0)) false _ A13.out).mono ?_); rintro e w' ⟨rfl, ⟨nd, rfl⟩⟩; refine ⟨_, rfl, ?_⟩; (try (rw [drewN_self wc]; generalize hq_ : World.drewN wc _ = wc; have n0_ : Aside0 (Kd.R k72 72 wc w.heap.size (fun k_ => k_ ≠ gb102) u5 x5_1) := ⟨by rw [← hq_]; exact (by (with_reducible repeat (first | apply Kd.R_alloc | apply Kd.R_drewN | apply Kd.R_drew)); exact HO_5.out)⟩; have n1_ : Aside0 (wc.heap[gb102]? = some (.cells #[.int .i64 0, .string (⟨#[]⟩ : ByteArray), .int .i64 0, .int .i64 x6_1] 72 (0, 0))) := ⟨by rw [← hq_]; exact (by (with_reducible repeat (first | refine blk_drewN ?_ _ | refine blk_drew ?_ | refine blk_alloc ?_ _)); exact BK102.out)⟩; have n2_ : Aside0 (Below w.heap.size w wc) := ⟨by rw [← hq_]; exact (by repeat (first | (with_reducible first | exact HB.out | apply below_alloc | apply pw_below_drewN | apply below_drew1 | refine below_set ?_ GE102.out) | exact HB.out))⟩; clear HO_5 BK102 HB hq_; have HO_5 := n0_; have BK102 := n1_; have HB := n2_; clear n0_ n1_ n2_))) | ((with_reducible refine gate_callee (f := 19) rfl ?_); refine goesL_ (some 55) rfl rfl Tryz.func19 (by kernel_rfl) rfl #[.int .i32 (wrap32 (bt (a0.extract (x6_1 : Int).toNat a0.size) 0))] rfl (by (try simp only [List.map_toArray, List.map_cons, List.map_nil]); first | done | rfl | (simp only [List.length_drop, List.length_take]; rfl)) ?_; (with_reducible refine (ask_isDigit.calls (wrap32 (bt (a0.extract (x6_1 : Int).toNat a0.size) 0)) false _ A26.out).mono ?_); rintro e w' ⟨rfl, ⟨nd, rfl⟩⟩; refine ⟨_, rfl, ?_⟩; (try (rw [drewN_self wc]; generalize hq_ : World.drewN wc _ = wc; have n0_ : Aside0 (Kd.R k72 72 wc w.heap.size (fun k_ => k_ ≠ gb102) u5 x5_1) := ⟨by rw [← hq_]; exact (by (with_reducible repeat (first | apply Kd.R_alloc | apply Kd.R_drewN | apply Kd.R_drew)); exact HO_5.out)⟩; have n1_ : Aside0 (wc.heap[gb102]? = some (.cells #[.int .i64 0, .string (⟨#[]⟩ : ByteArray), .int .i64 0, .int .i64 x6_1] 72 (0, 0))) := ⟨by rw [← hq_]; exact (by (with_reducible repeat (first | refine blk_drewN ?_ _ | refine blk_drew ?_ | refine blk_alloc ?_ _)); exact BK102.out)⟩; have n2_ : Aside0 (Below w.heap.size w wc) := ⟨by rw [← hq_]; exact (by repeat (first | (with_reducible first | exact HB.out | apply below_alloc | apply pw_below_drewN | apply below_drew1 | refine below_set ?_ GE102.out) | exact HB.out))⟩; clear HO_5 BK102 HB hq_; have HO_5 := n0_; have BK102 := n1_; have HB := n2_; clear n0_ n1_ n2_))) | ((with_reducible refine gate_callee (f := 21) rfl ?_); refine goesL_ (some 28) rfl rfl Tryz.func21 (by kernel_rfl) rfl #[.string (a0.extract (x6_1 : Int).toNat a0.size)] rfl (by (try simp only [List.map_toArray, List.map_cons, List.map_nil]); first | done | rfl | (simp only [List.length_drop, List.length_take]; rfl)) ?_; (with_reducible refine (ask_sign.calls kj7 (a0.extract (x6_1 : Int).toNat a0.size) t115 _ A49.out).mono ?_); rintro e w' ⟨rfl, ⟨nd, rfl⟩⟩; refine ⟨_, rfl, ?_⟩; (try (rw [drewN_self wc]; generalize hq_ : World.drewN wc _ = wc; have n0_ : Aside0 (Kd.R k72 72 wc w.heap.size (fun k_ => k_ ≠ gb102) u5 x5_1) := ⟨by rw [← hq_]; exact (by (with_reducible repeat (first | apply Kd.R_alloc | apply Kd.R_drewN | apply Kd.R_drew)); exact HO_5.out)⟩; have n1_ : Aside0 (wc.heap[gb102]? = some (.cells #[.int .i64 0, .string (⟨#[]⟩ : ByteArray), .int .i64 0, .int .i64 x6_1] 72 (0, 0))) := ⟨by rw [← hq_]; exact (by (with_reducible repeat (first | refine blk_drewN ?_ _ | refine blk_drew ?_ | refine blk_alloc ?_ _)); exact BK102.out)⟩; have n2_ : Aside0 (Below w.heap.size w wc) := ⟨by rw [← hq_]; exact (by repeat (first | (with_reducible first | exact HB.out | apply below_alloc | apply pw_below_drewN | apply below_drew1 | refine below_set ?_ GE102.out) | exact HB.out))⟩; clear HO_5 BK102 HB hq_; have HO_5 := n0_; have BK102 := n1_; have HB := n2_; clear n0_ n1_ n2_)); have hcz53_0 : wc.cell? ⟨gb102, 0, none⟩ = some (.int .i64 0) := (blk_cell BK102.out 0).trans rfl; have hcz53_1 : wc.cell? ⟨gb102, 1, none⟩ = some (.string (⟨#[]⟩ : ByteArray)) := (blk_cell BK102.out 1).trans rfl; have hcz53_2 : wc.cell? ⟨gb102, 2, none⟩ = some (.int .i64 0) := (blk_cell BK102.out 2).trans rfl; have hcz53_3 : wc.cell? ⟨gb102, 3, none⟩ = some (.int .i64 x6_1) := (blk_cell BK102.out 3).trans rfl; have hfz53_0 := blk_frozen BK102.out 0; have hfz53_1 := blk_frozen BK102.out 1; have hfz53_2 := blk_frozen BK102.out 2; have hfz53_3 := blk_frozen BK102.out 3) | ((with_reducible refine gate_builtin (b := .append) (xs := #[.tmp 73, .tmp 75]) rfl ?_); at_builtin; refine Kd.R_append k72 (w0 := w) w.heap.size rfl (.tmp 73) (.tmp 75) 23 72 (.agg #[(.int .i64 0), (.string ⟨#[]⟩), (.int .i64 0), (.int .i64 0)]) 40 rfl Tryz.underlying23 info72 rfl (by decide) (by omega) u5 x5_1 (⟨3, t115, 0, x6_1⟩ : S72) [.int .i64 3, .string t115, .int .i64 0, .int .i64 x6_1] (fun k_ => k_ ≠ gb102) (fun _ => False) rfl (by first | (go_simp; done) | (go_simp; rfl)) ?aP (fun _ hk => hk.elim) ?aF ?aO ?aB ?aS ?aL ?_; (case aP => exact k72_mkM _ _ _ (⟨3, t115, 0, x6_1⟩ : S72)); (case aB => exact (by repeat (first | (with_reducible first | exact HB.out | apply below_alloc | apply pw_below_drewN | apply below_drew1 | refine below_set ?_ GE102.out) | exact HB.out))); (case aF => exact (fun k_ hk => Kd.freshB (g := gb102) (o := .cells #[.int .i64 3, .string t115, .int .i64 0, .int .i64 x6_1] 72 (0, 0)) (by (with_reducible repeat (first | refine blk_drewN ?_ _ | refine blk_drew ?_ | refine blk_alloc ?_ _)); refine blk_put (cs := #[.int .i64 3, .string (⟨#[]⟩ : ByteArray), .int .i64 0, .int .i64 x6_1]) ?_ 1 _ rfl; (with_reducible repeat (first | refine blk_drewN ?_ _ | refine blk_drew ?_ | refine blk_alloc ?_ _)); refine blk_put (cs := #[.int .i64 0, .string (⟨#[]⟩ : ByteArray), .int .i64 0, .int .i64 x6_1]) ?_ 0 _ rfl; (with_reducible repeat (first | refine blk_drewN ?_ _ | refine blk_drew ?_ | refine blk_alloc ?_ _)); exact BK102.out) k_ hk)); (case aO => exact (by (with_reducible repeat (first | apply Kd.R_alloc | apply Kd.R_drewN | apply Kd.R_drew)); exact Kd.R_mono (Kd.R_far (p := ⟨gb102, 1, none⟩) (Kd.R_far (p := ⟨gb102, 0, none⟩) (Kd.R_mono HO_5.out (fun k_ hk => (⟨hk, hk⟩ : _ ∧ k_ ≠ gb102))) (fun _ hk => hk.2) (.int .i64 3)) (fun _ hk => hk.2) (.string t115)) (fun _ hk => hk.1))); (case aS => exact (below_size (by repeat (first | (with_reducible first | exact HB.out | apply below_alloc | apply pw_below_drewN | apply below_drew1 | refine below_set ?_ GE102.out) | exact HB.out)))); (case aL => have := LMc52.out; omega); intro v117 w54 ho hb hg hat; rw [← Ny116.out] at ho; have n0_ := Aside0.mk (blk_grown (g := gb102) (o := .cells #[.int .i64 3, .string t115, .int .i64 0, .int .i64 x6_1] 72 (0, 0)) (by (with_reducible repeat (first | refine blk_drewN ?_ _ | refine blk_drew ?_ | refine blk_alloc ?_ _)); refine blk_put (cs := #[.int .i64 3, .string (⟨#[]⟩ : ByteArray), .int .i64 0, .int .i64 x6_1]) ?_ 1 _ rfl; (with_reducible repeat (first | refine blk_drewN ?_ _ | refine blk_drew ?_ | refine blk_alloc ?_ _)); refine blk_put (cs := #[.int .i64 0, .string (⟨#[]⟩ : ByteArray), .int .i64 0, .int .i64 x6_1]) ?_ 0 _ rfl; (with_reducible repeat (first | refine blk_drewN ?_ _ | refine blk_drew ?_ | refine blk_alloc ?_ _)); exact BK102.out) hg (Kd.R_away HO_5.out (fun _ hk => hk))); have n1_ := Aside0.mk (hb); have n2_ := Aside0.mk (ho); clear BK102; clear HB; clear HO_5; have BK102 := n0_; have HB := n1_; have HO118 := n2_; clear n0_ n1_ n2_; clear ho hb hg hat; have hcz55_0 : w54.cell? ⟨gb102, 0, none⟩ = some (.int .i64 3) := (blk_cell BK102.out 0).trans rfl; have hcz55_1 : w54.cell? ⟨gb102, 1, none⟩ = some (.string t115) := (blk_cell BK102.out 1).trans rfl; have hcz55_2 : w54.cell? ⟨gb102, 2, none⟩ = some (.int .i64 0) := (blk_cell BK102.out 2).trans rfl; have hcz55_3 : w54.cell? ⟨gb102, 3, none⟩ = some (.int .i64 x6_1) := (blk_cell BK102.out 3).trans rfl; have hfz55_0 := blk_frozen BK102.out 0; have hfz55_1 := blk_frozen BK102.out 1; have hfz55_2 := blk_frozen BK102.out 2; have hfz55_3 := blk_frozen BK102.out 3))
                              go_roundg kj7
                              case measure => have := HK1.out; have := HJ7.out; omega
                              case rel => exact ⟨(y116), (wrap64 (x6_1 + (t115.size : Int))), (by first | rfl | (simp; done) | (simp [*]; done)), H', ⟨by have := HK1.out; have := HJ7.out; omega⟩, ⟨by (with_reducible repeat (first | apply Kd.R_alloc | apply Kd.R_drewN | apply Kd.R_drew)); exact Kd.R_mono HO118.out (fun _ hk => trivial)⟩, ⟨by repeat (first | (with_reducible first | exact HB.out | apply below_alloc | apply pw_below_drewN | apply below_drew1 | refine below_set ?_ GE102.out) | exact HB.out)⟩⟩
                            · rw [if_neg c52] at H
                              exact absurd H (by simp)
              · rw [if_neg c6] at H
                exact absurd H (by simp)
            · rw [if_neg c5] at H
              exact absurd H (by simp)
          · rw [if_neg c4] at H
            exact absurd H (by simp)
        · rw [if_neg c3] at H
          have c3b0 : decide (x6_1 < (a0.size : Int)) = false := decide_eq_false c3
          clear c3
          simp only [Option.some.injEq, Prod.mk.injEq] at H
          obtain ⟨rfl, rfl, rfl⟩ := H
          go_wp2
          go_ret3
          exact ⟨_, by first | rfl | (simp [errW_none, errW_some] <;> rfl) | (simp [*, errW_none, errW_some] <;> rfl), by (with_reducible repeat (first | apply Kd.R_alloc | apply Kd.R_drewN | apply Kd.R_drew)); exact HO_5.out, by repeat (first | (with_reducible first | exact HB.out | apply below_alloc | apply pw_below_drewN | apply below_drew1) | exact HB.out)⟩

/-! ### udometerref10_letter: function 34 -/
def udometerref10_letter.f (a0 : Int) : Option (Bool) := if a0 ≥ 97 then (some (decide (a0 ≤ 122))) else (some false)
set_option maxHeartbeats 8000000 in
set_option maxRecDepth 100000 in
theorem udometerref10_letter.calls (a0 : Int) (r : Bool) (w : World) (h : udometerref10_letter.f a0 = some r) :
    Calls Tryz.prog 34 #[.int .u8 a0] w fun e w' => e = .returned (.bool r) ∧ Drawn0 w w' := by
  have H : (if a0 ≥ 97 then (some (decide (a0 ≤ 122))) else (some false)) = some r := h
  clear h
  by_cases c2 : a0 ≥ 97
  · rw [if_pos c2] at H
    have c2b0 : decide (97 ≤ a0) = true := decide_eq_true c2
    clear c2
    obtain rfl := Option.some.inj H
    go_enter Tryz.func34, Tryz.ntmps34
    go_wp2
    go_ret
    exact ⟨by first | rfl | (simp; done) | (simp [*]; done), by repeat (first | exact Drawn0.refl _ | apply Drawn0.step)⟩
  · rw [if_neg c2] at H
    have c2b0 : decide (97 ≤ a0) = false := decide_eq_false c2
    clear c2
    obtain rfl := Option.some.inj H
    go_enter Tryz.func34, Tryz.ntmps34
    go_wp2
    go_ret
    exact ⟨by first | rfl | (simp; done) | (simp [*]; done), by repeat (first | exact Drawn0.refl _ | apply Drawn0.step)⟩

/-! ### udometerref10_digit: function 35 -/
def udometerref10_digit.f (a0 : Int) : Option (Bool) := if a0 ≥ 48 then (some (decide (a0 ≤ 57))) else (some false)
set_option maxHeartbeats 8000000 in
set_option maxRecDepth 100000 in
theorem udometerref10_digit.calls (a0 : Int) (r : Bool) (w : World) (h : udometerref10_digit.f a0 = some r) :
    Calls Tryz.prog 35 #[.int .u8 a0] w fun e w' => e = .returned (.bool r) ∧ Drawn0 w w' := by
  have H : (if a0 ≥ 48 then (some (decide (a0 ≤ 57))) else (some false)) = some r := h
  clear h
  by_cases c2 : a0 ≥ 48
  · rw [if_pos c2] at H
    have c2b0 : decide (48 ≤ a0) = true := decide_eq_true c2
    clear c2
    obtain rfl := Option.some.inj H
    go_enter Tryz.func35, Tryz.ntmps35
    go_wp2
    go_ret
    exact ⟨by first | rfl | (simp; done) | (simp [*]; done), by repeat (first | exact Drawn0.refl _ | apply Drawn0.step)⟩
  · rw [if_neg c2] at H
    have c2b0 : decide (48 ≤ a0) = false := decide_eq_false c2
    clear c2
    obtain rfl := Option.some.inj H
    go_enter Tryz.func35, Tryz.ntmps35
    go_wp2
    go_ret
    exact ⟨by first | rfl | (simp; done) | (simp [*]; done), by repeat (first | exact Drawn0.refl _ | apply Drawn0.step)⟩

/-! ### udometerref10_has: function 36 -/
def udometerref10_has.l0 : Nat → List ByteArray → ByteArray → Int → Option (Bool)
  | 0, _, _, _ => none
  | k + 1, x0, x1, x5 => if x5 < (x0.length : Int) then (if 0 ≤ x5 then (if (rdOf ByteArray.empty x0 x5).toList = x1.toList then (some true) else (udometerref10_has.l0 k x0 x1 (wrap64 (x5 + 1)))) else (none)) else (some false)
def udometerref10_has.f (k : Nat) (l0 : List ByteArray) (a1 : ByteArray) : Option (Bool) := udometerref10_has.l0 k l0 a1 0
theorem udometerref10_has.mono_l : ∀ k, (∀ y0 y1 y2, LeO (udometerref10_has.l0 k y0 y1 y2) (udometerref10_has.l0 (k + 1) y0 y1 y2))
  | 0 => fun _ _ _ r h => by simp [udometerref10_has.l0] at h
  | k + 1 => by
    have ih0 := udometerref10_has.mono_l k
    · intro y0 y1 y2
      unfold udometerref10_has.l0
      repeat' first
      | (with_reducible exact ih0 _ _ _)
      | (with_reducible exact LeO.refl _)
      | (with_reducible exact LeO.none _)
      | (with_reducible refine LeO.ite ?_ ?_)
      | (with_reducible refine LeO.bind ?_ (fun _ => ?_))
      | exact ih0 _ _ _
      | exact LeO.none _
      | refine LeO.ite ?_ ?_
      | refine LeO.bind ?_ (fun _ => ?_)
theorem udometerref10_has.mono : ∀ a0 a1 k, LeO (udometerref10_has.f k a0 a1) (udometerref10_has.f (k + 1) a0 a1) := by
  intro a0 a1 k
  have ih0 := udometerref10_has.mono_l k
  unfold udometerref10_has.f
  repeat' first
      | (with_reducible exact ih0 _ _ _)
      | (with_reducible exact LeO.refl _)
      | (with_reducible exact LeO.none _)
      | (with_reducible refine LeO.ite ?_ ?_)
      | (with_reducible refine LeO.bind ?_ (fun _ => ?_))
      | exact ih0 _ _ _
      | exact LeO.none _
      | refine LeO.ite ?_ ?_
      | refine LeO.bind ?_ (fun _ => ?_)
set_option maxHeartbeats 8000000 in
set_option maxRecDepth 100000 in
theorem udometerref10_has.calls (k : Nat) (A0 : Option Addr) (c0 : Nat) (l0 : List ByteArray) (a1 : ByteArray) (r : Bool) (w : World) (hr0 : Kd.C Kd.string w A0 l0.length l0) (hc0 : l0.length ≤ c0) (h : udometerref10_has.f k l0 a1 = some r) :
    Calls Tryz.prog 36 #[.slice A0 l0.length c0, .string a1] w fun e w' => e = .returned (.bool r) ∧ Drawn0 w w' := by
  have HR0 := Aside0.mk hr0
  have HC0 := Aside0.mk hc0
  clear hr0 hc0
  have H : (udometerref10_has.l0 k l0 a1 0) = some r := h
  clear h
  have H' := Aside0.mk H
  clear H
  go_enter Tryz.func36, Tryz.ntmps36
  go_wp2
  go_loopg [5] k (fun kq v5 w' => ∃ (x5_1 : Int), v5 = .int .i64 x5_1 ∧ Aside0 (udometerref10_has.l0 kq l0 a1 x5_1 = some r) ∧ Aside0 (kq ≤ k) ∧ Drawn0 w w')
  case atStart => exact ⟨(0), (by first | rfl | (simp; done) | (simp [*]; done)), H', ⟨Nat.le_refl _⟩, by repeat (first | exact Drawn0.refl _ | apply Drawn0.step)⟩
  case round =>
    clear H'
    try clear p2
    obtain ⟨x5_1, rfl, HA, HK1, ⟨m1, rfl⟩⟩ := hrel
    cases gk with
    | zero => exact absurd HA.out (by simp [udometerref10_has.l0])
    | succ k1 =>
      have H := HA.out
      clear HA
      simp only [udometerref10_has.l0] at H
      by_cases c3 : x5_1 < (l0.length : Int)
      · rw [if_pos c3] at H
        have c3b0 : decide (x5_1 < (l0.length : Int)) = true := decide_eq_true c3
        clear c3
        by_cases c4 : 0 ≤ x5_1
        · rw [if_pos c4] at H
          have c4b0 : decide (0 ≤ x5_1) = true := decide_eq_true c4
          clear c4
          by_cases c5 : (rdOf ByteArray.empty l0 x5_1).toList = a1.toList
          · rw [if_pos c5] at H
            have c5b0 : ((rdOf ByteArray.empty l0 x5_1).toList == a1.toList) = true := beq_iff_eq.mpr c5
            have c5b1 : ((rdOf ByteArray.empty l0 x5_1).toList != a1.toList) = false := bne_eq_false_iff_eq.mpr c5
            clear c5
            obtain rfl := Option.some.inj H
            have p119 : 0 ≤ (x5_1 : Int) := of_decide_eq_true (by first | (with_reducible assumption) | assumption)
            have q119 : x5_1 < (l0.length : Int) := of_decide_eq_true (by first | (with_reducible assumption) | assumption)
            obtain ⟨ad119, e119, hx119_0⟩ := Kd.at_string HR0.out x5_1 p119 q119
            cases e119
            replace p119 := eq_true p119
            replace q119 := eq_true q119; (try (have q119z := q119; simp only [ByteArray.size_extract, Nat.min_self] at q119z))
            go_wp2
            go_ret
            exact ⟨by first | rfl | (simp; done) | (simp [*]; done), by repeat (first | exact Drawn0.refl _ | apply Drawn0.step)⟩
          · rw [if_neg c5] at H
            have c5b0 : ((rdOf ByteArray.empty l0 x5_1).toList == a1.toList) = false := beq_eq_false_iff_ne.mpr c5
            have c5b1 : ((rdOf ByteArray.empty l0 x5_1).toList != a1.toList) = true := bne_iff_ne.mpr c5
            have H' := Aside0.mk H
            clear H
            have p119 : 0 ≤ (x5_1 : Int) := of_decide_eq_true (by first | (with_reducible assumption) | assumption)
            have q119 : x5_1 < (l0.length : Int) := of_decide_eq_true (by first | (with_reducible assumption) | assumption)
            obtain ⟨ad119, e119, hx119_0⟩ := Kd.at_string HR0.out x5_1 p119 q119
            cases e119
            replace p119 := eq_true p119
            replace q119 := eq_true q119; (try (have q119z := q119; simp only [ByteArray.size_extract, Nat.min_self] at q119z))
            go_wp2
            go_roundg k1
            case measure => have := HK1.out; omega
            case rel => exact ⟨(wrap64 (x5_1 + 1)), (by first | rfl | (simp; done) | (simp [*]; done)), H', ⟨by have := HK1.out; omega⟩, by repeat (first | exact Drawn0.refl _ | apply Drawn0.step)⟩
        · rw [if_neg c4] at H
          exact absurd H (by simp)
      · rw [if_neg c3] at H
        have c3b0 : decide (x5_1 < (l0.length : Int)) = false := decide_eq_false c3
        clear c3
        obtain rfl := Option.some.inj H
        go_wp2
        go_ret
        exact ⟨by first | rfl | (simp; done) | (simp [*]; done), by repeat (first | exact Drawn0.refl _ | apply Drawn0.step)⟩

end Go.Proofs.YtjhjgkdmacndgaaGreatDoor.PLx
