/- What is proved: what functions of the program do (walks, by hand and by programs of this repository). Conditions stand in each theorem. -/
import Derived.Test.YtnifkpljhfpdlaaGreatDoorPi
import Derived.Test.YtnifkpljhfpdlaaGreatDoorPg
set_option linter.unusedVariables false
set_option linter.unusedSimpArgs false
namespace Go.Proofs.Tt.P
open Go Go.Proofs.Tt.Sh Go.RowKit Go.Proofs.YtnifkpljhfpdlaaGreatDoorW.PrintWords Go.Proofs.YtnifkpljhfpdlaaGreatDoorW.PrintLast Go.Proofs.YtnifkpljhfpdlaaGreatDoorW.PrintMore
open Go.Tt (Pt Fg printF wordsF textOf spanOk siteW areaW ptW flat numsF pairs figF parseF zeroFg Small print_parse parse_print)
set_option linter.unusedVariables false
set_option linter.unusedSimpArgs false
set_option maxHeartbeats 8000000 in
set_option maxRecDepth 100000 in
theorem validR_calls (lo hi : Int) (w : World) : Calls Tryz.prog 38 #[.agg #[.int .i64 lo, .int .i64 hi]] w fun en w' => en = .returned (.bool (spanOk lo hi)) ∧ Below w.heap.size w w' := by
  have hu24 := Tryz.underlying24
  obtain ⟨z0, z1, _, _⟩ := cb2 (blk_new w (.cells #[.int .i64 lo, .int .i64 hi] 24))
  have HB := ak ((Below.refl _ w).alloc (Nat.le_refl _) (.cells #[.int .i64 lo, .int .i64 hi] 24))
  go_enter Tryz.func38, Tryz.ntmps38
  go_wp2
  all_goals go_ret
  all_goals refine ⟨congrArg (fun b => Ending.returned (Value.bool b)) ?_, HB.out⟩
  all_goals (unfold spanOk; first | (symm; apply decide_eq_false; omega) | (apply decide_eq_decide.2; omega))
def prB (f : Fg) : Bool := spanOk f.lo f.hi && (if f.kind = 1 then decide (1 ≤ f.site ∧ f.site ≤ 1073741824 ∧ f.ar.length = 0) else decide (f.kind = 2 ∧ f.site = 0) && chkR f.ar)
set_option maxHeartbeats 8000000 in
set_option maxRecDepth 100000 in
theorem printableR_calls {w : World} (f : Fg) {A : Option Addr} {c : Nat} (hr : Kd.C kP w A f.ar.length f.ar) (hl : f.ar.length ≤ 1000000) :
    Calls Tryz.prog 13 #[.agg #[.int .i64 f.kind, .int .i64 f.site, .slice A f.ar.length c, .int .i64 f.lo, .int .i64 f.hi]] w fun en w' => en = .returned (.bool (prB f)) ∧ Below w.heap.size w w' := by
  have hu26 := Tryz.underlying26
  have hu24 := Tryz.underlying24
  have hu22 := Tryz.underlying22
  obtain ⟨k, s, ar, lo, hi⟩ := f
  simp only at hr hl ⊢
  go_enter Tryz.func13, Tryz.ntmps13
  go_upto_region 0 with fail
  go_cut [1, 2] from 1 to 2 (fun s1 s2 wc => ∃ g1, s1 = .pointer (some ⟨g1, 0, none⟩) ∧ s2 = .bool false ∧ wc.heap[g1]? = some (.cells #[.int .i64 k, .int .i64 s, .slice A ar.length c, .int .i64 lo, .int .i64 hi] 26 (0, 0)) ∧ Below w.heap.size w wc)
  case first =>
    go_wp2_with fail
    go_meet
    case rel => exact ⟨_, rfl, rfl, blk_new w _, (Below.refl _ w).alloc (Nat.le_refl _) _⟩
  obtain ⟨g1, rfl, rfl, B1, HB⟩ := hcut
  replace B1 := ak B1
  replace HB := ak HB
  obtain ⟨z0, z1, z2, z3, z4, _⟩ := cb5 B1.out
  replace hr := ak (Kd.C_below hr HB.out)
  replace hl := ak hl
  have UPD : True := trivial
  cases hs : spanOk lo hi
  · go_wp2_with (first | (go_at_call 38; (with_reducible refine (validR_calls lo hi _).mono ?_); rintro en w2 ⟨rfl, hb2⟩; rw [hs]) | fail)
    go_ret
    exact ⟨by unfold prB; simp [hs], below_step HB.out hb2⟩
  · by_cases hk : k = 1
    · subst hk
      go_wp2_with (first
        | (go_at_call 38; (with_reducible refine (validR_calls lo hi _).mono ?_); rintro en w2 ⟨rfl, hb2⟩; rw [hs]; replace HB := ak (below_step HB.out hb2); clear z0 z1 z2 z3 z4; replace B1 := ak (blk_below B1.out hb2); replace hr := ak (Kd.C_below hr.out hb2); obtain ⟨z0, z1, z2, z3, z4, _⟩ := cb5 B1.out; clear hb2)
        | (go_at_call 39; (refine (errR_calls (c := c) hr.out hl.out).mono ?_); rintro en w3 ⟨e, rfl, he, hb3⟩; replace HB := ak (below_step HB.out hb3); clear hb3)
        | fail)
      all_goals go_ret
      all_goals refine ⟨congrArg (fun b => Ending.returned (Value.bool b)) ?_, HB.out⟩
      all_goals (
        simp only [prB, hs, Bool.true_and, if_true]
        clear hr HB B1 z0 z1 z2 z3 z4 hl UPD hs
        rw [Bool.eq_iff_iff]
        simp only [decide_eq_true_eq, beq_iff_eq, Bool.false_eq_true]
        constructor <;> intro h <;> first | omega | exact h.elim)
    · have k1 : (k == 1) = false := beq_eq_false_iff_ne.2 hk
      by_cases hk2 : k = 2 ∧ s = 0
      · obtain ⟨rfl, rfl⟩ := hk2
        go_wp2_with (first
          | (go_at_call 38; (with_reducible refine (validR_calls lo hi _).mono ?_); rintro en w2 ⟨rfl, hb2⟩; rw [hs]; replace HB := ak (below_step HB.out hb2); clear z0 z1 z2 z3 z4; replace B1 := ak (blk_below B1.out hb2); replace hr := ak (Kd.C_below hr.out hb2); obtain ⟨z0, z1, z2, z3, z4, _⟩ := cb5 B1.out; clear hb2)
          | (go_at_call 39; (refine (errR_calls (c := c) hr.out hl.out).mono ?_); rintro en w3 ⟨e, rfl, he, hb3⟩; replace HB := ak (below_step HB.out hb3); clear hb3)
          | fail)
        go_ret
        refine ⟨congrArg (fun b => Ending.returned (Value.bool b)) ?_, HB.out⟩
        simp only [prB, hs, Bool.true_and]
        rw [if_neg hk, ← he]
        rfl
      · have hF := ak (show prB ⟨k, s, ar, lo, hi⟩ = false by unfold prB; simp only [hs, Bool.true_and]; rw [if_neg hk, decide_eq_false hk2]; rfl)
        go_wp2_with (first
          | (go_at_call 38; (with_reducible refine (validR_calls lo hi _).mono ?_); rintro en w2 ⟨rfl, hb2⟩; rw [hs]; replace HB := ak (below_step HB.out hb2); clear z0 z1 z2 z3 z4; replace B1 := ak (blk_below B1.out hb2); replace hr := ak (Kd.C_below hr.out hb2); obtain ⟨z0, z1, z2, z3, z4, _⟩ := cb5 B1.out; clear hb2)
          | (go_at_call 39; (refine (errR_calls (c := c) hr.out hl.out).mono ?_); rintro en w3 ⟨e, rfl, he, hb3⟩; replace HB := ak (below_step HB.out hb3); clear hb3)
          | fail)
        all_goals (try (exfalso; exact hk2 ⟨by assumption, by assumption⟩))
        all_goals go_ret
        all_goals exact ⟨by rw [hF.out]; rfl, HB.out⟩
theorem pr_print (f : Fg) : prB f = (printF chkF f).isSome := by
  obtain ⟨k, s, ar, lo, hi⟩ := f
  unfold prB printF wordsF
  simp only
  cases hs : spanOk lo hi
  · rfl
  · simp only [Bool.true_and, if_true]
    by_cases hk : k = 1
    · subst hk
      rw [if_pos (rfl : (1 : Int) = 1)]
      by_cases h1 : 1 ≤ s ∧ s ≤ 1073741824 ∧ ar.length = 0
      · rw [decide_eq_true h1, if_pos ⟨rfl, List.eq_nil_of_length_eq_zero h1.2.2, h1.1, h1.2.1⟩]; rfl
      · rw [decide_eq_false h1, if_neg (fun h => h1 ⟨h.2.2.1, h.2.2.2, by rw [h.2.1]; rfl⟩), if_neg (fun h => by omega)]; rfl
    · rw [if_neg hk, if_neg (fun h => hk h.1), ← chk_eq]
      by_cases h2 : k = 2 ∧ s = 0
      · rw [decide_eq_true h2, if_pos h2]
        cases chkF ar <;> rfl
      · rw [decide_eq_false h2, if_neg h2]; rfl
end Go.Proofs.Tt.P
namespace Go.Proofs.Tt.P
open Go Go.Proofs.Tt.Sh Go.RowKit Go.Proofs.YtnifkpljhfpdlaaGreatDoorW.PrintWords Go.Proofs.YtnifkpljhfpdlaaGreatDoorW.PrintLast Go.Proofs.YtnifkpljhfpdlaaGreatDoorW.PrintMore
open Go.Tt (Pt Fg)
set_option linter.unusedVariables false
set_option linter.unusedSimpArgs false
def sp6_T : Bool × List (List Nat × List Nat) := (true, [([], []), ([], []), ([0, 1], [0, 1]), ([2], [2]), ([], []), ([], []), ([4, 5], [4, 5]), ([6], [6]), ([3, 7], [3, 7])])
def sp6_B : List Nat := [0, 0, 3, 7, 0, 0, 48, 112, 255]
theorem sp6_tab : rtab .any (opsOf Tryz.f36 6) = sp6_T := by kernel_rfl
theorem sp6_bits : waitsOk sp6_T.2 sp6_B = true := by kernel_rfl
section
attribute [local go_sem high] eqP35 eqA24
set_option maxHeartbeats 8000000 in
set_option maxRecDepth 100000 in
theorem samePts_calls {w : World} {A A' : Option Addr} {c c' : Nat} {xs : List Pt} (hr : Kd.C kP w A xs.length xs) (hr' : Kd.C kP w A' xs.length xs) (hl : xs.length ≤ 1000000) :
    Calls Tryz.prog 36 #[.slice A xs.length c, .slice A' xs.length c'] w fun en w' => en = .returned (.bool true) ∧ Below w.heap.size w w' := by
  have hu35 := Tryz.underlying35
  have hu22 := Tryz.underlying22
  go_enter Tryz.func36, Tryz.ntmps36
  go_wp2
  go_loopg [5] xs.length (fun kq v5 w' => ∃ (i : Nat) (x : Int), v5 = .int .i64 x ∧ Aside0 (x = i ∧ i + kq = xs.length) ∧ Aside0 (Below w.heap.size w w'))
  case atStart => exact ⟨0, 0, rfl, ⟨rfl, by omega⟩, ⟨Below.refl _ _⟩⟩
  case round =>
    obtain ⟨i, x, rfl, ⟨hx, hi⟩, ⟨HR⟩⟩ := hrel
    cases gk with
    | zero =>
      have c1 : decide (x < (xs.length : Int)) = false := decide_eq_false (by omega)
      clear hx hi
      go_wp2
      go_ret
      exact ⟨rfl, HR⟩
    | succ k1 =>
      have hlt : i < xs.length := by omega
      have c1 : decide (x < (xs.length : Int)) = true := decide_eq_true (by omega)
      obtain ⟨p, hp⟩ : ∃ p, xs[i]? = some p := ⟨_, List.getElem?_eq_getElem hlt⟩
      have HRd := below_drew1 HR
      obtain ⟨ad1, e1, h10, h11⟩ := at_P (Kd.C_below hr HRd) i hlt p hp
      obtain ⟨ad2, e2, h20, h21⟩ := at_P (Kd.C_below hr' HRd) i hlt p hp
      cases e1
      cases e2
      have hxi : x.toNat = i := by omega
      have px : (0 ≤ x) = True := eq_true (by omega)
      have qx : (x < (xs.length : Int)) = True := eq_true (by omega)
      have hw : Aside0 (wrap64 (x + 1) = ((i + 1 : Nat) : Int)) := ⟨by rw [hx, wrapN (by omega) (by omega)]; rfl⟩
      rw [← hxi] at h10 h11 h20 h21
      replace hxi := ak hxi
      replace hx := ak hx
      replace hi := ak hi
      have hpt : ptEq p.x p.y p.x p.y = true := by unfold ptEq; simp
      go_upto_region 6 with fail
      refine start_ (n := 9) (S := fun w' => w'.cell? (ad1.add (x.toNat * 2)) = some (.int .i64 p.x) ∧ w'.cell? ⟨(ad1.add (x.toNat * 2)).block, (ad1.add (x.toNat * 2)).off + 1, none⟩ = some (.int .i64 p.y) ∧ w'.cell? (ad2.add (x.toNat * 2)) = some (.int .i64 p.x) ∧ w'.cell? ⟨(ad2.add (x.toNat * 2)).block, (ad2.add (x.toNat * 2)).off + 1, none⟩ = some (.int .i64 p.y)) (ds := []) #[false, false, false, false, false, false, false, false, false] kr rfl rfl ⟨h10, h11, h20, h21⟩ (fun hHeld => ?_); refine with_tabW sp6_tab sp6_bits (fun HT_ HW_ => ?_)
      refine pS 0 (some 17) ?_
      refine pS 1 (some 18) ?_
      refine pS 2 (some 19) ?_
      refine pT 3 (some 20) ?_
      refine pS 4 (some 21) ?_
      refine pS 5 (some 22) ?_
      refine pS 6 (some 23) ?_
      refine pT 7 (some 24) ?_
      refine pS 8 (some 25) ?_
      refine Go.Proofs.YtnifkpljhfpdlaaGreatDoorW.PrintLast.done_ (done_of HT_.out kr) ?_
      try go_wp2
      go_roundg k1
      case measure => omega
      case rel => exact ⟨i + 1, wrap64 (x + 1), rfl, ⟨hw.out, by have := hi.out; omega⟩, ⟨HRd⟩⟩
set_option maxHeartbeats 8000000 in
set_option maxRecDepth 100000 in
theorem sameFig_calls {w : World} {k s lo hi : Int} {A A' : Option Addr} {c c' : Nat} {xs : List Pt} (hr : Kd.C kP w A xs.length xs) (hr' : Kd.C kP w A' xs.length xs) (hl : xs.length ≤ 1000000) :
    Calls Tryz.prog 11 #[.agg #[.int .i64 k, .int .i64 s, .slice A xs.length c, .int .i64 lo, .int .i64 hi], .agg #[.int .i64 k, .int .i64 s, .slice A' xs.length c', .int .i64 lo, .int .i64 hi]] w fun en w' => en = .returned (.bool true) ∧ Below w.heap.size w w' := by
  have hu26 := Tryz.underlying26
  have hu24 := Tryz.underlying24
  have hu22 := Tryz.underlying22
  go_enter Tryz.func11, Tryz.ntmps11
  go_upto_region 0 with fail
  go_cut [2, 3, 4] from 2 to 4 (fun s2 s3 s4 wc => ∃ g2 g3, s2 = .pointer (some ⟨g2, 0, none⟩) ∧ s3 = .pointer (some ⟨g3, 0, none⟩) ∧ s4 = .bool false ∧ wc.heap[g2]? = some (.cells #[.int .i64 k, .int .i64 s, .slice A xs.length c, .int .i64 lo, .int .i64 hi] 26 (0, 0)) ∧ wc.heap[g3]? = some (.cells #[.int .i64 k, .int .i64 s, .slice A' xs.length c', .int .i64 lo, .int .i64 hi] 26 (0, 0)) ∧ Below w.heap.size w wc)
  case first =>
    go_wp2_with fail
    go_meet
    case rel => exact ⟨_, _, rfl, rfl, rfl, blk_alloc (blk_new w _) _, (by simpa using blk_new (w.alloc _) _), ((Below.refl _ w).alloc (Nat.le_refl _) _).alloc (by simp) _⟩
  obtain ⟨g2, g3, rfl, rfl, rfl, B2, B3, HB⟩ := hcut
  obtain ⟨z20, z21, z22, z23, z24, _⟩ := cb5 B2
  obtain ⟨z30, z31, z32, z33, z34, _⟩ := cb5 B3
  have hsp := samePts_calls (c := c) (c' := c') (Kd.C_below hr HB) (Kd.C_below hr' HB) hl
  go_wp2_with (first | (go_at_call 36; (with_reducible refine hsp.mono ?_); rintro en w2 ⟨rfl, hb2⟩) | fail)
  go_ret
  exact ⟨rfl, below_step HB hb2⟩
end
end Go.Proofs.Tt.P
namespace Go.Proofs.Tt.P
open Go.RowKit Go.Proofs.YtnifkpljhfpdlaaGreatDoorW.PrintWords Go.Proofs.YtnifkpljhfpdlaaGreatDoorW.PrintLast Go.Proofs.YtnifkpljhfpdlaaGreatDoorW.PrintMore
attribute [local go_sem] max2_int min2_int max_two min_two max_three min_three max_four min_four   -- for this text's walks alone
set_option linter.unusedVariables false
set_option linter.unusedSimpArgs false
def udometerref06_number.f : Nat → Int → Option (ByteArray)
  | 0, _ => none
  | k + 1, a0 => (some (([(wrap64 (48 + (Int.tmod a0 10))) % 256] : List Int) : List Int)).bind fun y188 => (if a0 < 10 then (some (strOfNums y188)) else ((udometerref06_number.f k (wrap64 (Int.tdiv a0 10))).bind fun t191 => (if t191.size + (strOfNums y188).size ≤ 9223372036854775807 then (some (t191 ++ (strOfNums y188))) else (none))))
theorem udometerref06_number.mono_l : ∀ k, (∀ y0, LeO (udometerref06_number.f k y0) (udometerref06_number.f (k + 1) y0))
  | 0 => fun _ r h => by simp [udometerref06_number.f] at h
  | k + 1 => by
    have ih0 := udometerref06_number.mono_l k
    · intro y0
      unfold udometerref06_number.f
      repeat' first
      | (with_reducible exact ih0 _)
      | (with_reducible exact LeO.refl _)
      | (with_reducible exact LeO.none _)
      | (with_reducible refine LeO.ite ?_ ?_)
      | (with_reducible refine LeO.bind ?_ (fun _ => ?_))
      | exact ih0 _
      | exact LeO.none _
      | refine LeO.ite ?_ ?_
      | refine LeO.bind ?_ (fun _ => ?_)
theorem udometerref06_number.mono : ∀ a0 k, LeO (udometerref06_number.f k a0) (udometerref06_number.f (k + 1) a0) := by
  intro a0 k
  have ih0 := udometerref06_number.mono_l k
  exact ih0 a0
set_option maxHeartbeats 8000000 in
set_option maxRecDepth 100000 in
theorem udometerref06_number.calls (k : Nat) : ∀ (a0 : Int) (r : ByteArray) (w : World) (h : udometerref06_number.f k a0 = some r),
    Calls Tryz.prog 40 #[.int .i64 a0] w fun e w' => e = .returned (.string r) ∧ Below w.heap.size w w' := by
  induction k using Nat.strongRecOn with
  | _ k ih =>
  intro a0 r w h
  cases k with
  | zero => exact absurd h (by simp [udometerref06_number.f])
  | succ k =>
  simp only [udometerref06_number.f] at h
  have HB := Aside0.mk (Below.refl w.heap.size w)
  have H : ((some (([(wrap64 (48 + (Int.tmod a0 10))) % 256] : List Int) : List Int)).bind fun y188 => (if a0 < 10 then (some (strOfNums y188)) else ((udometerref06_number.f k (wrap64 (Int.tdiv a0 10))).bind fun t191 => (if t191.size + (strOfNums y188).size ≤ 9223372036854775807 then (some (t191 ++ (strOfNums y188))) else (none))))) = some r := h
  clear h
  obtain ⟨y188, hy188⟩ : ∃ y_ : List Int, y_ = (([(wrap64 (48 + (Int.tmod a0 10))) % 256] : List Int)) := ⟨_, rfl⟩
  replace H : (if a0 < 10 then (some (strOfNums y188)) else ((udometerref06_number.f k (wrap64 (Int.tdiv a0 10))).bind fun t191 => (if t191.size + (strOfNums y188).size ≤ 9223372036854775807 then (some (t191 ++ (strOfNums y188))) else (none)))) = some r := by first | (rw [hy188]; with_reducible exact H) | (have H2_ := (Option.bind_some _ _).symm.trans H; rw [hy188]; with_reducible exact H2_) | (have H2_ := (Option.bind_some _ _).symm.trans H; with_reducible exact H2_) | with_reducible exact H | (rw [hy188]; exact H) | exact H
  have Ny188 := Aside0.mk hy188
  clear hy188
  by_cases c2 : a0 < 10
  · rw [if_pos c2] at H
    have c2b0 : decide (a0 < 10) = true := decide_eq_true c2
    clear c2
    obtain rfl := Option.some.inj H
    go_enter Tryz.func40, Tryz.ntmps40
    go_wp2_with (first | ((with_reducible refine gate_dst (N := 8) rfl ?_); refine Kd.R_lit (Kd.int .u8) _ 5 ?hg (N := 8) ?hd (xs := ([(wrap64 (48 + (Int.tmod a0 10))) % 256] : List Int)) (inner := [.int .u8 ((wrap64 (48 + (Int.tmod a0 10))) % 256)]) (ok := fun _ => True) (okp := fun _ => True) ?hr ?hp (fun _ hk => hk) trivial (Below.refl _ _) (Nat.le_refl _) (by simp) ?_; (case hd => rfl); (case hg => rfl); (case hr => first | (go_simp; done) | (go_simp; rfl)); (case hp => exact (Reps.one (show Kd.M (Kd.int .u8) _ _ _ ((wrap64 (48 + (Int.tmod a0 10))) % 256) [.int .u8 ((wrap64 (48 + (Int.tmod a0 10))) % 256)] from rfl) (Reps.none _ _))); intro v189 w3 ho4 hb hg_ hnew_; clear hg_ hnew_; (first | rw [← Ny188.out] at ho4 | (simp only [Int.reduceToNat] at ho4; rw [← Ny188.out] at ho4)); have n0_ := Aside0.mk (Kd.R_lower ho4 (below_size (by repeat (first | (with_reducible first | exact HB.out | apply below_alloc | apply pw_below_drewN | apply below_drew1) | exact HB.out)))); have n1_ := Aside0.mk (below_step (by repeat (first | (with_reducible first | exact HB.out | apply below_alloc | apply pw_below_drewN | apply below_drew1) | exact HB.out)) hb); clear HB; have HO190 := n0_; have HB := n1_; clear n0_ n1_; clear hb ho4; have hcv5 := own_string (P := Tryz.prog) Tryz.underlying138 Tryz.underlying5 Tryz.underlying9 (Kd.own_of_R HO190.out)))
    go_ret
    exact ⟨by first | rfl | (simp [errW_none, errW_some] <;> rfl) | (simp [*, errW_none, errW_some] <;> rfl), by repeat (first | (with_reducible first | exact HB.out | apply below_alloc | apply pw_below_drewN | apply below_drew1) | exact HB.out)⟩
  · rw [if_neg c2] at H
    have c2b0 : decide (a0 < 10) = false := decide_eq_false c2
    clear c2
    replace H := Option.bind_eq_some_iff.mp H
    obtain ⟨t191, A60, H⟩ := H
    replace H : (if t191.size + (strOfNums y188).size ≤ 9223372036854775807 then (some (t191 ++ (strOfNums y188))) else (none)) = some r := H
    have A6 := Aside0.mk A60
    clear A60
    by_cases c7 : t191.size + (strOfNums y188).size ≤ 9223372036854775807
    · rw [if_pos c7] at H
      have c7b0 := eq_true c7
      have c7b1 : decide (t191.size + (strOfNums y188).size ≤ 9223372036854775807) = true := decide_eq_true c7
      try have c7b2 : (9223372036854775807 < t191.size + (strOfNums y188).size) = False := eq_false (Nat.not_lt.2 c7)
      obtain rfl := Option.some.inj H
      go_enter Tryz.func40, Tryz.ntmps40
      go_wp2_with (first | ((with_reducible refine gate_dst (N := 8) rfl ?_); refine Kd.R_lit (Kd.int .u8) _ 5 ?hg (N := 8) ?hd (xs := ([(wrap64 (48 + (Int.tmod a0 10))) % 256] : List Int)) (inner := [.int .u8 ((wrap64 (48 + (Int.tmod a0 10))) % 256)]) (ok := fun _ => True) (okp := fun _ => True) ?hr ?hp (fun _ hk => hk) trivial (Below.refl _ _) (Nat.le_refl _) (by simp) ?_; (case hd => rfl); (case hg => rfl); (case hr => first | (go_simp; done) | (go_simp; rfl)); (case hp => exact (Reps.one (show Kd.M (Kd.int .u8) _ _ _ ((wrap64 (48 + (Int.tmod a0 10))) % 256) [.int .u8 ((wrap64 (48 + (Int.tmod a0 10))) % 256)] from rfl) (Reps.none _ _))); intro v189 w8 ho9 hb hg_ hnew_; clear hg_ hnew_; (first | rw [← Ny188.out] at ho9 | (simp only [Int.reduceToNat] at ho9; rw [← Ny188.out] at ho9)); have n0_ := Aside0.mk (Kd.R_lower ho9 (below_size (by repeat (first | (with_reducible first | exact HB.out | apply below_alloc | apply pw_below_drewN | apply below_drew1) | exact HB.out)))); have n1_ := Aside0.mk (below_step (by repeat (first | (with_reducible first | exact HB.out | apply below_alloc | apply pw_below_drewN | apply below_drew1) | exact HB.out)) hb); clear HB; have HO190 := n0_; have HB := n1_; clear n0_ n1_; clear hb ho9; have hcv10 := own_string (P := Tryz.prog) Tryz.underlying138 Tryz.underlying5 Tryz.underlying9 (Kd.own_of_R HO190.out)) | ((with_reducible refine gate_callee (f := 40) rfl ?_); refine goesL_ (some 15) rfl rfl Tryz.func40 (by kernel_rfl) rfl #[.int .i64 (wrap64 (Int.tdiv a0 10))] rfl (by (try simp only [List.map_toArray, List.map_cons, List.map_nil]); first | done | rfl | (simp only [List.length_drop, List.length_take]; rfl)) ?_; (with_reducible refine (ih k (by omega) (wrap64 (Int.tdiv a0 10)) t191 _ A6.out).mono ?_); rintro e w11 ⟨rfl, hb⟩; refine ⟨_, rfl, ?_⟩; have n0_ := Aside0.mk (Kd.R_below (by (with_reducible repeat (first | apply Kd.R_alloc | apply Kd.R_drewN | apply Kd.R_drew)); exact HO190.out) hb); have n1_ := Aside0.mk (below_step (by repeat (first | (with_reducible first | exact HB.out | apply below_alloc | apply pw_below_drewN | apply below_drew1) | exact HB.out)) hb); clear HO190; clear HB; have HO190 := n0_; have HB := n1_; clear n0_ n1_; (try clear hb); (try clear hb2); (try clear hk); (try clear hi)))
      go_ret
      exact ⟨by first | rfl | (simp [errW_none, errW_some] <;> rfl) | (simp [*, errW_none, errW_some] <;> rfl), by repeat (first | (with_reducible first | exact HB.out | apply below_alloc | apply pw_below_drewN | apply below_drew1) | exact HB.out)⟩
    · rw [if_neg c7] at H
      exact absurd H (by simp)
end Go.Proofs.Tt.P
namespace Go.Proofs.Tt.P
open Go Go.Proofs.Tt.Sh Go.RowKit Go.Proofs.YtnifkpljhfpdlaaGreatDoorW.PrintWords Go.Proofs.YtnifkpljhfpdlaaGreatDoorW.PrintLast Go.Proofs.YtnifkpljhfpdlaaGreatDoorW.PrintMore
open Go.Tt (Pt Fg printF wordsF textOf spanOk siteW areaW ptW)
set_option linter.unusedVariables false
set_option linter.unusedSimpArgs false
theorem byte10 {n : Int} (h0 : 0 ≤ n) (h1 : n < 1000000000000000000) : strOfNums [(wrap64 (48 + (Int.tmod n 10))) % 256] = ⟨#[UInt8.ofNat (48 + n.toNat % 10)]⟩ := by
  have e : Int.tmod n 10 = n % 10 := Int.tmod_eq_emod_of_nonneg h0
  rw [e, wrapN (by omega) (by omega)]
  have e2 : ((48 + n % 10) % 256).toNat = 48 + n.toNat % 10 := by omega
  unfold strOfNums
  simp [e2]
theorem itoaB_step {n : Int} (h0 : 0 ≤ n) (h : ¬ n < 10) : itoaB n = itoaB (n / 10) ++ ⟨#[UInt8.ofNat (48 + n.toNat % 10)]⟩ := by
  unfold itoaB Lib.itoa
  rw [if_neg (by omega), if_neg (by omega), Lib.decDigits, dif_neg (by omega)]
  have e : (n / 10).toNat = n.toNat / 10 := by omega
  rw [e]
  apply WideShapes.bytes_inj
  simp
theorem itoaB_last {n : Int} (h0 : 0 ≤ n) (h : n < 10) : itoaB n = ⟨#[UInt8.ofNat (48 + n.toNat % 10)]⟩ := by
  unfold itoaB Lib.itoa
  rw [if_neg (by omega), Lib.decDigits, dif_pos (by omega), Nat.mod_eq_of_lt (by omega)]
theorem itoaB_size {n : Int} (h0 : 0 ≤ n) (k : Nat) (h : n.toNat < 10 ^ (k + 1)) : (itoaB n).size ≤ k + 1 := by
  have := dec_len10 k n.toNat h
  unfold itoaB Lib.itoa
  rw [if_neg (by omega)]
  show (Lib.decDigits n.toNat).toArray.size ≤ _
  simpa using this
theorem numF : ∀ (k : Nat) (n : Int), k ≤ 16 → 0 ≤ n → n.toNat < 10 ^ (k + 1) → udometerref06_number.f (k + 1) n = some (itoaB n)
  | 0, n, _, h0, h => by
    have h' : n < 10 := by have : n.toNat < 10 := by simpa using h
                           omega
    simp only [udometerref06_number.f, Option.bind_some]
    rw [if_pos h', byte10 h0 (by omega), itoaB_last h0 h']
  | k + 1, n, hk, h0, h => by
    have hb : n.toNat < 1000000000000000000 := Nat.lt_of_lt_of_le h (by
      have : (10 : Nat) ^ (k + 1 + 1) ≤ 10 ^ 18 := Nat.pow_le_pow_right (by decide) (by omega)
      exact this)
    have hd : (n / 10).toNat < 10 ^ (k + 1) := by
      have : n.toNat < 10 ^ (k + 1) * 10 := by rw [← Nat.pow_succ]; exact h
      omega
    rw [udometerref06_number.f]
    simp only [Option.bind_some]
    rw [byte10 h0 (by omega)]
    by_cases h' : n < 10
    · rw [if_pos h', itoaB_last h0 h']
    · have e : Int.tdiv n 10 = n / 10 := Int.tdiv_eq_ediv_of_nonneg h0
      have hs := itoaB_size (n := n / 10) (by omega) k hd
      rw [if_neg h', e, wrapN (by omega) (by omega), numF k (n / 10) (by omega) (by omega) hd]
      simp only [Option.bind_some]
      rw [if_pos (by show _ + 1 ≤ _; omega), itoaB_step h0 h']
theorem number_calls {n : Int} (h0 : 0 ≤ n) (h1 : n ≤ 1073741824) (w : World) : Calls Tryz.prog 40 #[.int .i64 n] w fun e w' => e = .returned (.string (itoaB n)) ∧ Below w.heap.size w w' :=
  udometerref06_number.calls 10 n _ w (numF 9 n (by decide) h0 (by omega))
theorem num_size {n : Int} (h0 : 0 ≤ n) (h1 : n ≤ 1073741824) : (itoaB n).size ≤ 10 := itoaB_size h0 9 (by omega)
end Go.Proofs.Tt.P
namespace Go.Proofs.Tt.P
open Go Go.Proofs.Tt.Sh Go.RowKit Go.Proofs.YtnifkpljhfpdlaaGreatDoorW.PrintWords Go.Proofs.YtnifkpljhfpdlaaGreatDoorW.PrintLast Go.Proofs.YtnifkpljhfpdlaaGreatDoorW.PrintMore
open Go.Tt (Pt Fg printF wordsF textOf spanOk siteW areaW ptW)
set_option linter.unusedVariables false
set_option linter.unusedSimpArgs false
def pr4_T : Bool × List (List Nat × List Nat) := (true, [([], []), ([0], [0]), ([], []), ([2], [2]), ([3], [3]), ([4], [4]), ([1, 5], [1, 5]), ([6], [6]), ([], []), ([8], [8]), ([9], [9]), ([10, 5], [10]), ([7, 11], [7, 11]), ([12, 11, 0, 1, 2, 3, 4, 5, 6, 7, 8, 9, 10, 11, 12], [0, 12])])
def pr4_B : List Nat := [0, 1, 0, 4, 12, 28, 63, 127, 0, 256, 768, 1852, 4095, 8191]
theorem pr4_tab : rtab .any (opsOf Tryz.f14 4) = pr4_T := by kernel_rfl
theorem pr4_bits : waitsOk pr4_T.2 pr4_B = true := by kernel_rfl
def pr8_T : Bool × List (List Nat × List Nat) := (true, [([], []), ([0], [0]), ([], []), ([2], [2]), ([], []), ([3, 4], [3, 4]), ([5], [5]), ([6], [6]), ([7], [7]), ([1, 8], [1, 8]), ([9], [9]), ([], []), ([11], [11]), ([], []), ([12, 13], [12, 13]), ([14], [14]), ([15], [15]), ([16, 8], [16]), ([10, 17], [10, 17]), ([18, 17, 0, 1, 2, 3, 4, 5, 6, 7, 8, 9, 10, 11, 12, 13, 14, 15, 16, 17, 18], [0, 18])])
def pr8_B : List Nat := [0, 1, 0, 4, 0, 28, 60, 124, 252, 511, 1023, 0, 2048, 0, 14336, 30720, 63488, 129532, 262143, 524287]
theorem pr8_tab : rtab .any (opsOf Tryz.f14 8) = pr8_T := by kernel_rfl
theorem pr8_bits : waitsOk pr8_T.2 pr8_B = true := by kernel_rfl
def ptsW (l : List Pt) : List UInt8 := l.flatMap fun p => 32 :: Lib.itoa p.x ++ 32 :: Lib.itoa p.y
theorem join_flat : ∀ (ws : List (List UInt8)) (w : List UInt8), Lib.join (w :: ws) [32] = w ++ ws.flatMap fun v => 32 :: v
  | [], w => by simp [Lib.join, List.intercalate]
  | v :: ws, w => by
    have e : Lib.join (w :: v :: ws) [32] = w ++ 32 :: Lib.join (v :: ws) [32] := by simp [Lib.join, List.intercalate]
    rw [e, join_flat ws v]
    simp
theorem ptW_pts : ∀ l : List Pt, (ptW l).flatMap (fun v => 32 :: v) = ptsW l
  | [] => rfl
  | p :: l => by
    have := ptW_pts l
    unfold ptsW at this ⊢
    rw [ptW, List.flatMap_cons, List.flatMap_cons, this, List.flatMap_cons]
    simp
def headW (f : Fg) : List UInt8 := if f.kind = 1 then siteW ++ 32 :: Lib.itoa f.site else areaW
def prText (f : Fg) : List UInt8 := headW f ++ (32 :: Lib.itoa f.lo ++ 32 :: Lib.itoa f.hi) ++ ptsW f.ar ++ [10]
theorem pr_text {f : Fg} (h : prB f = true) : printF chkF f = some (prText f) := by
  obtain ⟨k, s, ar, lo, hi⟩ := f
  unfold prB at h
  simp only [Bool.and_eq_true] at h
  obtain ⟨hs, h⟩ := h
  unfold printF wordsF prText headW
  simp only
  rw [if_pos hs]
  by_cases hk : k = 1
  · rw [if_pos hk] at h
    have h' := of_decide_eq_true h
    have ha := List.eq_nil_of_length_eq_zero h'.2.2
    subst ha
    rw [if_pos ⟨hk, rfl, h'.1, h'.2.1⟩, if_pos hk]
    simp only [Option.map_some]
    unfold textOf
    rw [join_flat]
    simp [ptsW]
  · rw [if_neg hk] at h
    simp only [Bool.and_eq_true, decide_eq_true_eq] at h
    rw [if_neg (fun e => hk e.1), if_pos h.1, chk_eq, if_pos h.2, if_neg hk]
    simp only [Option.map_some]
    unfold textOf
    rw [join_flat]
    simp only [List.flatMap_cons, ptW_pts]
    simp
theorem heldP {W : World} {g1 : Nat} {c n : Nat} {ad : Addr} {xs : List Pt} {x : Int} {p : Pt} {a b d e : Value} (hC : Kd.C kP W (some ad) n xs) (B : W.heap[g1]? = some (.cells #[a, b, .slice (some ad) n c, d, e] 26 (0, 0))) (hx : 0 ≤ x ∧ x < n) (hp : xs[x.toNat]? = some p) :
    W.cell? ⟨g1, 2, none⟩ = some (.slice (some ad) n c) ∧ W.cell? (ad.add (x.toNat * 2)) = some (.int .i64 p.x) ∧ W.cell? ⟨(ad.add (x.toNat * 2)).block, (ad.add (x.toNat * 2)).off + 1, none⟩ = some (.int .i64 p.y) := by
  obtain ⟨ad', e1, h0, h1⟩ := at_P hC x.toNat (by omega) p hp
  cases e1
  exact ⟨(blk_cell B 2).trans rfl, h0, h1⟩
set_option maxHeartbeats 8000000 in
set_option maxRecDepth 100000 in
theorem printR_calls {w : World} (f : Fg) {A : Option Addr} {c : Nat} (hr : Kd.C kP w A f.ar.length f.ar) (hl : f.ar.length ≤ 1000000) (hp : prB f = true) :
    Calls Tryz.prog 14 #[.agg #[.int .i64 f.kind, .int .i64 f.site, .slice A f.ar.length c, .int .i64 f.lo, .int .i64 f.hi]] w fun en w' => ∃ t, en = .returned (.string t) ∧ printF chkF f = some t.data.toList ∧ Below w.heap.size w w' := by
  have hu26 := Tryz.underlying26
  have hu24 := Tryz.underlying24
  have hu22 := Tryz.underlying22
  have hu35 := Tryz.underlying35
  have hpt := ak (pr_text hp)
  obtain ⟨k, s, ar, lo, hi⟩ := f
  have hb : (0 ≤ lo ∧ lo ≤ 60000 ∧ 0 ≤ hi ∧ hi ≤ 60000) ∧ ar.length ≤ 16 ∧ (∀ p ∈ ar, okP p = true) ∧ (k = 1 → 0 ≤ s ∧ s ≤ 1073741824) := by
    unfold prB at hp
    simp only [Bool.and_eq_true] at hp
    obtain ⟨hs, h⟩ := hp
    have hs' := of_decide_eq_true hs
    refine ⟨⟨by omega, by omega, by omega, by omega⟩, ?_⟩
    by_cases hk : k = 1
    · rw [if_pos hk] at h
      have h' := of_decide_eq_true h
      refine ⟨by omega, fun p hp => ?_, fun _ => ⟨by omega, by omega⟩⟩
      rw [List.eq_nil_of_length_eq_zero h'.2.2] at hp
      cases hp
    · rw [if_neg hk] at h
      simp only [Bool.and_eq_true] at h
      rw [← chk_eq] at h
      exact ⟨(chkF_ok h.2).1, (chkF_ok h.2).2, fun e => absurd e hk⟩
  obtain ⟨⟨hlo0, hlo1, hhi0, hhi1⟩, har, hok, hsk⟩ := hb
  clear hp
  simp only at hr hl ⊢
  replace hr := ak hr
  replace hok := ak hok
  replace har := ak har
  go_enter Tryz.func14, Tryz.ntmps14
  go_upto_region 0 with fail
  go_cut [1, 2] from 1 to 2 (fun s1 s2 wc => ∃ g1, s1 = .pointer (some ⟨g1, 0, none⟩) ∧ wc.heap[g1]? = some (.cells #[.int .i64 k, .int .i64 s, .slice A ar.length c, .int .i64 lo, .int .i64 hi] 26 (0, 0)) ∧ Below w.heap.size w wc)
  case first =>
    go_wp2_with fail
    go_meet
    case rel => exact ⟨_, rfl, blk_new w _, (Below.refl _ w).alloc (Nat.le_refl _) _⟩
  obtain ⟨g1, rfl, B1, HB⟩ := hcut
  replace B1 := ak B1
  replace HB := ak HB
  go_upto_region 1 with fail
  go_cut [3] from 3 to 3 (fun v wx => v = .string ⟨#[97, 114, 101, 97]⟩ ∧ wx = wc)
  case first =>
    go_wp2_with fail
    go_meet
    case rel => exact ⟨rfl, rfl⟩
  obtain ⟨rfl, rfl⟩ := hcut
  obtain ⟨z0, z1, z2, z3, z4, _⟩ := cb5 B1.out
  go_step
  go_step
  go_cut [3] from 3 to 11 (fun v wx => ∃ T, v = .string T ∧ T.data.toList = headW ⟨k, s, ar, lo, hi⟩ ∧ T.size ≤ 15 ∧ Below wc.heap.size wc wx)
  case first =>
    by_cases hk : k = 1
    · have hsz := num_size (hsk hk).1 (hsk hk).2
      have q1 : (9223372036854775807 < 5 + (itoaB s).size) = False := eq_false (by omega)
      subst hk
      go_wp2_with (first | (go_at_call 40; (with_reducible refine (number_calls (hsk rfl).1 (hsk rfl).2 _).mono ?_); rintro en w2 ⟨rfl, hb2⟩) | fail)
      go_meet
      case rel =>
        refine ⟨_, rfl, ?_, ?_, hb2⟩
        · unfold headW; rw [if_pos rfl]; simp [itoaB, siteW]
        · rw [ByteArray.size_append]
          have : (⟨#[115, 105, 116, 101, 32]⟩ : ByteArray).size = 5 := rfl
          omega
    · have k1 : (k == 1) = false := beq_eq_false_iff_ne.2 hk
      go_wp2_with fail
      go_meet
      case rel => exact ⟨_, rfl, by unfold headW; rw [if_neg hk]; rfl, by decide, Below.refl _ _⟩
  obtain ⟨T, rfl, hT, hTs, hb2⟩ := hcut
  clear z0 z1 z2 z3 z4
  replace B1 := ak (blk_below B1.out hb2)
  replace HB := ak (below_step HB.out hb2)
  replace hT := ak hT
  clear hb2 hsk
  have m1 := num_size hlo0 (by omega)
  have m2 := num_size hhi0 (by omega)
  go_upto_region 4 with fail
  go_cut [3] from 3 to 24 (fun v wx => v = .string (T ++ ⟨#[32]⟩ ++ itoaB lo ++ ⟨#[32]⟩ ++ itoaB hi) ∧ Below wc.heap.size wc wx)
  case first =>
    have hX := below_drew1 (Below.refl wc.heap.size wc)
    replace B1 := ak (blk_below B1.out hX)
    have q1 : (9223372036854775807 < T.size + 1) = False := eq_false (by omega)
    have q2 : (9223372036854775807 < T.size + 1 + (itoaB lo).size) = False := eq_false (by omega)
    have q3 : (9223372036854775807 < T.size + 1 + (itoaB lo).size + 1) = False := eq_false (by omega)
    have q4 : (9223372036854775807 < T.size + 1 + (itoaB lo).size + 1 + (itoaB hi).size) = False := eq_false (by omega)
    replace HB := ak hX
    clear hX
    refine start_ (n := 14) (S := fun w' => w'.cell? ⟨g1, 3, none⟩ = some (.int .i64 lo) ∧ w'.cell? ⟨g1, 4, none⟩ = some (.int .i64 hi)) (ds := []) #[false, false, false, false, false, false, false, false, false, false, false, false, false, false] kr rfl rfl ⟨(blk_cell B1.out 3).trans rfl, (blk_cell B1.out 4).trans rfl⟩ (fun hHeld => ?_); refine with_tabW pr4_tab pr4_bits (fun HT_ HW_ => ?_)
    refine pS 0 (some 12) ?_
    refine pS 1 (some 13) ?_
    refine pS 2 (some 14) ?_
    refine pS 3 (some 15) ?_
    refine pT 4 (some 16) ?_
    refine pS 8 (some 20) ?_
    refine pS 9 (some 21) ?_
    refine pT 10 (some 22) ?_
    refine one_ (i := 5) (N := some 17) #[true, true, true, true, true, true, false, false, true, true, true, false, false, false] rfl rfl (one_of HT_.out kr) (by decide) (fun K hK => ?_)
    refine goes_ Tryz.func40 kr rfl #[.int .i64 lo] (by rfl) rfl rfl ag ?_
    with_reducible refine (number_calls hlo0 (by omega) _).mono ?_
    rintro en w2 ⟨rfl, hb2⟩
    refine ⟨_, rfl, ?_⟩
    replace B1 := ak (blk_below B1.out hb2)
    replace HB := ak (below_step HB.out hb2)
    clear hb2 hHeld
    refine hK.out _ _ ⟨(blk_cell B1.out 3).trans rfl, (blk_cell B1.out 4).trans rfl⟩ (fun hHeld => ?_)
    clear hK K
    refine norm_ (a' := ?_) ?_ ?_
    rotate_left
    · show Act.put _ (some 17) _ = _
      simp only [Act.put, List.setIfInBounds_toArray, List.set_cons_zero, List.set_cons_succ, i64_w, i32_w]
      rfl
    refine pS 6 (some 18) ?_
    refine pS 7 (some 19) ?_
    refine one_ (i := 11) (N := some 23) #[true, true, true, true, true, true, true, true, true, true, true, true, false, false] rfl rfl (one_of HT_.out kr) (by decide) (fun K hK => ?_)
    refine goes_ Tryz.func40 kr rfl #[.int .i64 hi] (by rfl) rfl rfl ag ?_
    with_reducible refine (number_calls hhi0 (by omega) _).mono ?_
    rintro en w2 ⟨rfl, hb2⟩
    refine ⟨_, rfl, ?_⟩
    replace B1 := ak (blk_below B1.out hb2)
    replace HB := ak (below_step HB.out hb2)
    clear hb2 hHeld
    refine hK.out _ _ ⟨(blk_cell B1.out 3).trans rfl, (blk_cell B1.out 4).trans rfl⟩ (fun hHeld => ?_)
    clear hK K
    refine norm_ (a' := ?_) ?_ ?_
    rotate_left
    · show Act.put _ (some 23) _ = _
      simp only [Act.put, List.setIfInBounds_toArray, List.set_cons_zero, List.set_cons_succ, i64_w, i32_w]
      rfl
    refine pS 12 (some 24) ?_
    refine pS 13 (some 3) ?_
    refine Go.Proofs.YtnifkpljhfpdlaaGreatDoorW.PrintLast.done_ (done_of HT_.out kr) ?_
    try go_wp2
    go_meet
    case rel => exact ⟨rfl, HB.out⟩
  obtain ⟨rfl, hb2⟩ := hcut
  replace B1 := ak (blk_below B1.out hb2)
  replace HB := ak (below_step HB.out hb2)
  clear hb2
  obtain ⟨T1, e1, hT1, hT1s⟩ : ∃ T1 : ByteArray, T ++ ⟨#[32]⟩ ++ itoaB lo ++ ⟨#[32]⟩ ++ itoaB hi = T1 ∧ T1.data.toList = headW ⟨k, s, ar, lo, hi⟩ ++ (32 :: Lib.itoa lo ++ 32 :: Lib.itoa hi) ∧ T1.size ≤ 40 :=
    ⟨_, rfl, by rw [← hT.out]; simp [itoaB], by simp only [ByteArray.size_append]; have : (⟨#[32]⟩ : ByteArray).size = 1 := rfl; omega⟩
  rw [e1]
  clear e1 hT hTs m1 m2
  replace hT1 := ak hT1
  go_wp2
  go_loopg [3, 4] ar.length (fun kq v3 v4 w' => ∃ (i : Nat) (x : Int) (U : ByteArray), v3 = .string U ∧ v4 = .int .i64 x ∧ Aside0 (x = i ∧ i + kq = ar.length ∧ U.data.toList = T1.data.toList ++ ptsW (ar.take i) ∧ U.size ≤ 40 + 22 * i) ∧ Aside0 (w'.heap[g1]? = some (.cells #[.int .i64 k, .int .i64 s, .slice A ar.length c, .int .i64 lo, .int .i64 hi] 26 (0, 0)) ∧ Below w.heap.size w w'))
  case atStart => exact ⟨0, 0, T1, rfl, rfl, ⟨rfl, by omega, by simp [ptsW], by omega⟩, ⟨B1.out, HB.out⟩⟩
  case round =>
    clear B1 HB
    obtain ⟨i, x, U, rfl, rfl, ⟨hx, hi, hU, hUs⟩, ⟨B1, HB⟩⟩ := hrel
    obtain ⟨z0, z1, z2, z3, z4, _⟩ := cb5 B1
    replace B1 := ak B1
    replace HB := ak HB
    cases gk with
    | zero =>
      have c1 : decide (x < (ar.length : Int)) = false := decide_eq_false (by omega)
      rw [List.take_of_length_le (by omega)] at hU
      have hil : i ≤ 16 := by have := har.out; omega
      have q1 : (9223372036854775807 < U.size + 1) = False := eq_false (by omega)
      clear hx hi
      replace hU := ak hU
      go_wp2
      go_ret
      refine ⟨_, rfl, ?_, HB.out⟩
      rw [hpt.out]
      unfold prText
      rw [hT1.out] at hU
      simp [hU.out]
    | succ k1 =>
      have hlt : i < ar.length := by omega
      have c1 : decide (x < (ar.length : Int)) = true := decide_eq_true (by omega)
      obtain ⟨p, hp⟩ : ∃ p, ar[i]? = some p := ⟨_, List.getElem?_eq_getElem hlt⟩
      have hop := of_decide_eq_true (hok.out p (List.mem_of_getElem? hp))
      have n1 := num_size (n := p.x) (by omega) (by omega)
      have n2 := num_size (n := p.y) (by omega) (by omega)
      have hil : i ≤ 16 := by have := har.out; omega
      have q1 : (9223372036854775807 < U.size + 1) = False := eq_false (by omega)
      have q2 : (9223372036854775807 < U.size + 1 + (itoaB p.x).size) = False := eq_false (by omega)
      have q3 : (9223372036854775807 < U.size + 1 + (itoaB p.x).size + 1) = False := eq_false (by omega)
      have q4 : (9223372036854775807 < U.size + 1 + (itoaB p.x).size + 1 + (itoaB p.y).size) = False := eq_false (by omega)
      have px : (0 ≤ x) = True := eq_true (by omega)
      have qx : (x < (ar.length : Int)) = True := eq_true (by omega)
      have hxl : 0 ≤ x ∧ x < (ar.length : Int) := by omega
      have hw : Aside0 (wrap64 (x + 1) = ((i + 1 : Nat) : Int)) := ⟨by rw [hx, wrapN (by omega) (by omega)]; rfl⟩
      have hal := ak (show ar.take (i + 1) = ar.take i ++ [p] by rw [List.take_add_one, hp]; rfl)
      replace hp := ak (show ar[x.toNat]? = some p by rw [show x.toNat = i by omega]; exact hp)
      obtain ⟨ad, eA, _, _⟩ := at_P (Kd.C_below hr.out HB.out) x.toNat (by omega) p hp.out
      cases eA
      replace hx := ak hx
      replace hi := ak hi
      replace hU := ak hU
      replace hUs := ak hUs
      replace n1 := ak n1
      replace n2 := ak n2
      replace hxl := ak hxl
      have hX := below_drew1 (Below.refl wr.heap.size wr)
      go_upto_region 8 with fail
      clear z0 z1 z2 z3 z4
      replace B1 := ak (blk_below B1.out hX)
      have hC := ak (Kd.C_below hr.out (below_step HB.out hX))
      replace HB := ak (below_step HB.out hX)
      clear hX
      refine start_ (n := 20) (S := fun w' => w'.cell? ⟨g1, 2, none⟩ = some (.slice (some ad) ar.length c) ∧ w'.cell? (ad.add (x.toNat * 2)) = some (.int .i64 p.x) ∧ w'.cell? ⟨(ad.add (x.toNat * 2)).block, (ad.add (x.toNat * 2)).off + 1, none⟩ = some (.int .i64 p.y)) (ds := []) #[false, false, false, false, false, false, false, false, false, false, false, false, false, false, false, false, false, false, false, false] kr rfl rfl (heldP hC.out B1.out hxl.out hp.out) (fun hHeld => ?_); refine with_tabW pr8_tab pr8_bits (fun HT_ HW_ => ?_)
      refine pS 0 (some 32) ?_
      refine pS 1 (some 33) ?_
      refine pS 2 (some 34) ?_
      refine pT 3 (some 35) ?_
      refine pS 4 (some 36) ?_
      refine pS 5 (some 37) ?_
      refine pS 6 (some 38) ?_
      refine pT 7 (some 39) ?_
      refine pS 11 (some 43) ?_
      refine pT 12 (some 44) ?_
      refine pS 13 (some 45) ?_
      refine pS 14 (some 46) ?_
      refine pS 15 (some 47) ?_
      refine pT 16 (some 48) ?_
      refine one_ (i := 8) (N := some 40) #[true, true, true, true, true, true, true, true, true, false, false, true, true, true, true, true, true, false, false, false] rfl rfl (one_of HT_.out kr) (by decide) (fun K hK => ?_)
      refine goes_ Tryz.func40 kr rfl #[.int .i64 p.x] (by rfl) rfl rfl ag ?_
      with_reducible refine (number_calls (by omega) (by omega) _).mono ?_
      rintro en w2 ⟨rfl, hb2⟩
      refine ⟨_, rfl, ?_⟩
      replace B1 := ak (blk_below B1.out hb2)
      replace HB := ak (below_step HB.out hb2)
      replace hC := ak (Kd.C_below hC.out hb2)
      clear hb2 hHeld
      refine hK.out _ _ (heldP hC.out B1.out hxl.out hp.out) (fun hHeld => ?_)
      clear hK K
      refine norm_ (a' := ?_) ?_ ?_
      rotate_left
      · show Act.put _ (some 40) _ = _
        simp only [Act.put, List.setIfInBounds_toArray, List.set_cons_zero, List.set_cons_succ, i64_w, i32_w]
        rfl
      refine pS 9 (some 41) ?_
      refine pS 10 (some 42) ?_
      refine one_ (i := 17) (N := some 49) #[true, true, true, true, true, true, true, true, true, true, true, true, true, true, true, true, true, true, false, false] rfl rfl (one_of HT_.out kr) (by decide) (fun K hK => ?_)
      refine goes_ Tryz.func40 kr rfl #[.int .i64 p.y] (by rfl) rfl rfl ag ?_
      with_reducible refine (number_calls (by omega) (by omega) _).mono ?_
      rintro en w2 ⟨rfl, hb2⟩
      refine ⟨_, rfl, ?_⟩
      replace B1 := ak (blk_below B1.out hb2)
      replace HB := ak (below_step HB.out hb2)
      replace hC := ak (Kd.C_below hC.out hb2)
      clear hb2 hHeld
      refine hK.out _ _ (heldP hC.out B1.out hxl.out hp.out) (fun hHeld => ?_)
      clear hK K
      refine norm_ (a' := ?_) ?_ ?_
      rotate_left
      · show Act.put _ (some 49) _ = _
        simp only [Act.put, List.setIfInBounds_toArray, List.set_cons_zero, List.set_cons_succ, i64_w, i32_w]
        rfl
      refine pS 18 (some 50) ?_
      refine pS 19 (some 3) ?_
      refine Go.Proofs.YtnifkpljhfpdlaaGreatDoorW.PrintLast.done_ (done_of HT_.out kr) ?_
      try go_wp2
      go_roundg k1
      case measure => omega
      case rel =>
        refine ⟨i + 1, wrap64 (x + 1), _, rfl, rfl, ⟨hw.out, by have := hi.out; omega, ?_, ?_⟩, ⟨B1.out, HB.out⟩⟩
        · rw [hal.out]
          simp only [ByteArray.data_append, Array.toList_append, hU.out]
          simp [ptsW, itoaB]
        · simp only [ByteArray.size_append]
          have e : (⟨#[32]⟩ : ByteArray).size = 1 := rfl
          have a1 := n1.out
          have a2 := n2.out
          have a3 := hUs.out
          omega
end Go.Proofs.Tt.P
