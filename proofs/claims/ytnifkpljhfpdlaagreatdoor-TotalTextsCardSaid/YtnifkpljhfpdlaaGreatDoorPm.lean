/- What is proved: TotalTexts returns true at every input, if the example's run does. Conditions stand in each theorem. -/
import Derived.Test.YtnifkpljhfpdlaaGreatDoorPk
import Derived.Test.YtnifkpljhfpdlaaGreatDoorPl
set_option linter.unusedVariables false
set_option linter.unusedSimpArgs false
namespace Go.Proofs.Tt.P
open Go Go.Proofs.Tt.Sh Go.RowKit Go.Proofs.YtnifkpljhfpdlaaGreatDoorW.PrintWords Go.Proofs.YtnifkpljhfpdlaaGreatDoorW.PrintLast Go.Proofs.YtnifkpljhfpdlaaGreatDoorW.PrintMore
open Go.Tt (Pt Fg printF wordsF textOf spanOk siteW areaW ptW flat numsF pairs figF parseF zeroFg Small print_parse parse_print)
set_option linter.unusedVariables false
set_option linter.unusedSimpArgs false
theorem at_F {w : World} {A : Option Addr} {n : Nat} {xs : List (Int × Int × Int)} (h : Kd.C kF w A n xs) (j : Nat) (hj : j < n) (x : Int × Int × Int) (hx : xs[j]? = some x) : ∃ ad, A = some ad ∧ w.cell? (ad.add (j * 5)) = some (.int .i64 1) ∧ w.cell? ⟨(ad.add (j * 5)).block, (ad.add (j * 5)).off + 1, none⟩ = some (.int .i64 x.1) ∧ w.cell? ⟨(ad.add (j * 5)).block, (ad.add (j * 5)).off + 2, none⟩ = some (.slice none 0 0) ∧ w.cell? ⟨(ad.add (j * 5)).block, (ad.add (j * 5)).off + 3, none⟩ = some (.int .i64 x.2.1) ∧ w.cell? ⟨(ad.add (j * 5)).block, (ad.add (j * 5)).off + 4, none⟩ = some (.int .i64 x.2.2) := by
  obtain ⟨ad, c, e, _, hK, hc0⟩ := Kd.C_get h (0, 0, 0) (j : Int) (by omega) (by omega)
  have hg : xs.getD ((j : Int)).toNat (0, 0, 0) = x := by rw [List.getD_eq_getElem?_getD, show ((j : Int)).toNat = j by omega, hx]; rfl
  rw [hg] at hK
  have hc : ∀ i u, c[i]? = some u → w.cell? (ad.add (((j : Int)).toNat * 5 + i)) = some u := hc0
  rw [show ((j : Int)).toNat = j by omega] at hc
  obtain rfl : c = figC x := hK
  exact ⟨ad, e, hc 0 _ rfl, by rw [← add_field _ _ 1 (by omega)]; exact hc 1 _ rfl, by rw [← add_field _ _ 2 (by omega)]; exact hc 2 _ rfl, by rw [← add_field _ _ 3 (by omega)]; exact hc 3 _ rfl, by rw [← add_field _ _ 4 (by omega)]; exact hc 4 _ rfl⟩
theorem heldF {w : World} {ad ad' : Addr} {n : Nat} {xs : List (Int × Int × Int)} (h : Kd.C kF w (some ad) n xs) (h' : Kd.C kF w (some ad') n xs) {j : Nat} (hj : j < n) {x : Int × Int × Int} (hx : xs[j]? = some x) :
    w.cell? (ad.add (j * 5)) = some (.int .i64 1) ∧ w.cell? ⟨(ad.add (j * 5)).block, (ad.add (j * 5)).off + 1, none⟩ = some (.int .i64 x.1) ∧ w.cell? ⟨(ad.add (j * 5)).block, (ad.add (j * 5)).off + 2, none⟩ = some (.slice none 0 0) ∧ w.cell? ⟨(ad.add (j * 5)).block, (ad.add (j * 5)).off + 3, none⟩ = some (.int .i64 x.2.1) ∧ w.cell? ⟨(ad.add (j * 5)).block, (ad.add (j * 5)).off + 4, none⟩ = some (.int .i64 x.2.2) ∧
    w.cell? (ad'.add (j * 5)) = some (.int .i64 1) ∧ w.cell? ⟨(ad'.add (j * 5)).block, (ad'.add (j * 5)).off + 1, none⟩ = some (.int .i64 x.1) ∧ w.cell? ⟨(ad'.add (j * 5)).block, (ad'.add (j * 5)).off + 2, none⟩ = some (.slice none 0 0) ∧ w.cell? ⟨(ad'.add (j * 5)).block, (ad'.add (j * 5)).off + 3, none⟩ = some (.int .i64 x.2.1) ∧ w.cell? ⟨(ad'.add (j * 5)).block, (ad'.add (j * 5)).off + 4, none⟩ = some (.int .i64 x.2.2) := by
  obtain ⟨b, e, h0, h1, h2, h3, h4⟩ := at_F h j hj x hx
  obtain ⟨b', e', g0, g1, g2, g3, g4⟩ := at_F h' j hj x hx
  cases e
  cases e'
  exact ⟨h0, h1, h2, h3, h4, g0, g1, g2, g3, g4⟩
theorem nilP (w : World) : Kd.C kP w none 0 [] := ⟨rfl, by decide, fun h => by omega⟩
theorem sameMon_calls (w : World) (s lo hi : Int) : Calls Tryz.prog 11 #[.agg #[.int .i64 1, .int .i64 s, .slice none 0 0, .int .i64 lo, .int .i64 hi], .agg #[.int .i64 1, .int .i64 s, .slice none 0 0, .int .i64 lo, .int .i64 hi]] w fun en w' => en = .returned (.bool true) ∧ Below w.heap.size w w' :=
  sameFig_calls (xs := []) (A := none) (A' := none) (c := 0) (c' := 0) (nilP w) (nilP w) (by decide)
theorem months_both (id month y0 y1 : Int) : ∃ r : List (Int × Int × Int) × Int, r.1.length ≤ 8 ∧ (∀ w, Calls Tryz.prog 9 #[.int .i64 id, .int .i64 month, .agg #[.int .i64 y0, .int .i64 y1]] w (MonOut r w)) ∧ ∀ w, Calls Tryz.prog 10 #[.int .i64 id, .int .i64 month, .agg #[.int .i64 y0, .int .i64 y1]] w (MonOut r w) := by
  obtain ⟨k, k', l, l', er, h1, hm, h1', hm', e⟩ := months_eq id month y0 y1
  refine ⟨monF id l er, ?_, fun w => monthsP_calls h1 hm w, fun w => by rw [e]; exact monthsR_calls h1' hm' w⟩
  unfold monF mLoop
  repeat' split
  all_goals simp
  all_goals omega
def paF (s : ByteArray) : Fg := (parseF chkF s.data.toList).getD zeroFg
def paE (s : ByteArray) : Int := if (parseF chkF s.data.toList).isSome = true then 0 else 7
def paB (s : ByteArray) : Bool := (parseF chkF s.data.toList).isSome
theorem parseP_uni {w : World} {s : ByteArray} (hE : Env w) (hs : s.size ≤ 100000) : Calls Tryz.prog 8 #[.string s] w fun en w' => ∃ (A : Option Addr) (c : Nat), en = .returned (.tuple #[.agg #[.int .i64 (paF s).kind, .int .i64 (paF s).site, .slice A (paF s).ar.length c, .int .i64 (paF s).lo, .int .i64 (paF s).hi], .int .i64 (paE s)]) ∧ Kd.C kP w' A (paF s).ar.length (paF s).ar ∧ (paF s).ar.length ≤ 100000 ∧ Below w.heap.size w w' := by
  refine (parse_calls hE hs).mono ?_
  rintro en w' ⟨k, st, lo, hi, e, A, n, c, rfl, hb, hm⟩
  unfold paF paE
  cases hx : parseF chkF s.data.toList with
  | none =>
    rw [hx] at hm
    obtain ⟨rfl, rfl, rfl, rfl, rfl, rfl, rfl, rfl⟩ := hm
    exact ⟨none, 0, rfl, nilP w', by decide, hb⟩
  | some f =>
    rw [hx] at hm
    obtain ⟨rfl, rfl, rfl, rfl, rfl, rfl, h1, h2, h3⟩ := hm
    exact ⟨A, c, rfl, h3, h2, hb⟩
theorem parseR_uni {w : World} {s : ByteArray} (hs : s.size ≤ 100000) : Calls Tryz.prog 12 #[.string s] w fun en w' => ∃ (A : Option Addr) (c : Nat), en = .returned (.tuple #[.agg #[.int .i64 (paF s).kind, .int .i64 (paF s).site, .slice A (paF s).ar.length c, .int .i64 (paF s).lo, .int .i64 (paF s).hi], .bool (paB s)]) ∧ Kd.C kP w' A (paF s).ar.length (paF s).ar ∧ (paF s).ar.length ≤ 100000 ∧ Below w.heap.size w w' := by
  refine (parseR_calls hs).mono ?_
  rintro en w' ⟨k, st, lo, hi, b, A, n, c, rfl, hb, hm⟩
  unfold paF paB
  rw [parse_eq] at hm
  cases hx : parseF chkF s.data.toList with
  | none =>
    rw [hx] at hm
    obtain ⟨rfl, rfl, rfl, rfl, rfl, rfl, rfl, rfl⟩ := hm
    exact ⟨none, 0, rfl, nilP w', by decide, hb⟩
  | some f =>
    rw [hx] at hm
    obtain ⟨rfl, rfl, rfl, rfl, rfl, rfl, h1, h2, h3⟩ := hm
    exact ⟨A, c, rfl, h3, h2, hb⟩
def l4_T : Bool × List (List Nat × List Nat) := (true, [([], []), ([], []), ([0, 1], [0, 1]), ([2], [2]), ([], []), ([], []), ([4, 5], [4, 5]), ([6], [6]), ([3, 7], [3, 7]), ([8], [8])])
def l4_B : List Nat := [0, 0, 3, 7, 0, 0, 48, 112, 255, 511]
theorem l4_tab : rtab .any (opsOf Tryz.f4 10) = l4_T := by kernel_rfl
theorem l4_bits : waitsOk l4_T.2 l4_B = true := by kernel_rfl
attribute [local go_sem high] eqP35 eqA24
set_option maxHeartbeats 8000000 in
set_option maxRecDepth 100000 in
theorem law4_calls {w : World} {id month y0 y1 k st lo hi : Int} {A : Option Addr} {c : Nat} {ar : List Pt} {text : ByteArray} (sane : ∀ w : World, 8 ≤ w.heap.size → Calls Tryz.prog 6 #[] w fun e w' => e = .returned (.bool true) ∧ Below w.heap.size w w')
    (hE : Env w) (hC : Kd.C kP w A ar.length ar) (hc : ar.length ≤ c) (h8 : 8 ≤ w.heap.size) :
    Calls Tryz.prog 4 #[.int .i64 id, .int .i64 month, .agg #[.int .i64 y0, .int .i64 y1], .agg #[.int .i64 k, .int .i64 st, .slice A ar.length c, .int .i64 lo, .int .i64 hi], .string text] w fun e w' => e = .returned (.bool true) ∧ Below w.heap.size w w' := by
  have hu26 := Tryz.underlying26
  have hu24 := Tryz.underlying24
  have hu22 := Tryz.underlying22
  have hu37 := Tryz.underlying37
  obtain ⟨⟨rs, er⟩, hr8, hP, hR⟩ := months_both id month y0 y1
  replace hP := ak hP
  replace hR := ak hR
  replace hr8 := ak hr8
  go_enter Tryz.func4, Tryz.ntmps4
  go_upto_region 0 with fail
  go_cut [7, 8, 10] from 7 to 10 (fun s7 s8 s10 wc => ∃ g7 g8, s7 = .pointer (some ⟨g7, 0, none⟩) ∧ s8 = .pointer (some ⟨g8, 0, none⟩) ∧ s10 = .bool false ∧ wc.heap[g7]? = some (.cells #[.int .i64 y0, .int .i64 y1] 24 (0, 0)) ∧ wc.heap[g8]? = some (.cells #[.int .i64 k, .int .i64 st, .slice A ar.length c, .int .i64 lo, .int .i64 hi] 26 (0, 0)) ∧ Below w.heap.size w wc)
  case first =>
    go_wp2_with fail
    go_meet
    case rel => exact ⟨_, _, rfl, rfl, rfl, blk_alloc (blk_new w _) _, (by simpa using blk_new (w.alloc _) _), ((Below.refl _ w).alloc (Nat.le_refl _) _).alloc (by simp) _⟩
  obtain ⟨g7, g8, rfl, rfl, rfl, B7, B8, HB⟩ := hcut
  replace B7 := ak B7
  replace B8 := ak B8
  replace HB := ak HB
  have S8 : ∀ W : World, Below w.heap.size w W → 8 ≤ W.heap.size := fun W h => Nat.le_trans h8 h.size
  go_upto_region 1 with fail
  obtain ⟨z20, z21, z22, z23, z24, _⟩ := cb5 B8.out
  go_cut [29] from 22 to 29 (fun s wx => s = .bool (!decide (ar.length ≤ 20 ∧ text.size ≤ 300)) ∧ Below wc.heap.size wc wx)
  case first =>
    cases h1 : decide (ar.length ≤ 20)
    · go_wp2_with (first | (go_at_call 5; (with_reducible refine (plain_calls k st lo hi A ar.length c _).mono ?_); rintro en w2 ⟨rfl, hb2⟩; rw [h1]) | fail)
      go_meet
      case rel => exact ⟨by rw [decide_eq_false (fun h => (of_decide_eq_false h1) h.1)]; rfl, hb2⟩
    · go_wp2_with (first | (go_at_call 5; (with_reducible refine (plain_calls k st lo hi A ar.length c _).mono ?_); rintro en w2 ⟨rfl, hb2⟩; rw [h1]) | fail)
      go_meet
      case rel =>
        refine ⟨?_, hb2⟩
        congr 1
        rw [← decide_not]
        apply decide_eq_decide.2
        have := of_decide_eq_true h1
        omega
  obtain ⟨rfl, hb2⟩ := hcut
  clear z20 z21 z22 z23 z24
  replace B7 := ak (blk_below B7.out hb2)
  replace B8 := ak (blk_below B8.out hb2)
  replace HB := ak (below_step HB.out hb2)
  clear hb2
  cases hg : decide (ar.length ≤ 20 ∧ text.size ≤ 300)
  case false =>
    have hs := sane wc (S8 wc HB.out)
    go_wp2_with (first | (go_at_call 6; (with_reducible refine hs.mono ?_); rintro en w2 ⟨rfl, hb3⟩) | fail)
    go_ret
    exact ⟨rfl, below_step HB.out hb3⟩
  have hgd := of_decide_eq_true hg
  replace hE := ak hE
  replace hC := ak hC
  go_upto_region 3 with fail
  obtain ⟨z70, z71, f70, f71⟩ := cb2 B7.out
  go_cut [11, 12] from 11 to 37 (fun s11 s12 wx => ∃ A1 c1, s11 = .slice A1 rs.length c1 ∧ s12 = .int .i64 er ∧ Kd.C kF wx A1 rs.length rs ∧ Below wc.heap.size wc wx)
  case first =>
    go_wp2_with (first | (go_at_call 9; (with_reducible refine (hP.out _).mono ?_); rintro en w2 ⟨v, rfl, hR1, hb2⟩) | fail)
    go_meet
    case rel =>
      obtain ⟨A1, c1, rfl, _, hC1⟩ := Kd.R_reads hR1
      exact ⟨A1, c1, rfl, rfl, hC1, hb2⟩
  obtain ⟨A1, c1, rfl, rfl, hC1, hb2⟩ := hcut
  clear z70 z71 f70 f71 hP
  replace hC1 := ak hC1
  replace B7 := ak (blk_below B7.out hb2)
  replace B8 := ak (blk_below B8.out hb2)
  replace HB := ak (below_step HB.out hb2)
  clear hb2
  go_upto_region 4 with fail
  obtain ⟨z70, z71, f70, f71⟩ := cb2 B7.out
  go_cut [13, 14] from 13 to 44 (fun s13 s14 wx => ∃ A2 c2, s13 = .slice A2 rs.length c2 ∧ s14 = .int .i64 er ∧ Kd.C kF wx A2 rs.length rs ∧ Below wc.heap.size wc wx)
  case first =>
    go_wp2_with (first | (go_at_call 10; (with_reducible refine (hR.out _).mono ?_); rintro en w2 ⟨v, rfl, hR1, hb2⟩) | fail)
    go_meet
    case rel =>
      obtain ⟨A2, c2, rfl, _, hC2⟩ := Kd.R_reads hR1
      exact ⟨A2, c2, rfl, rfl, hC2, hb2⟩
  obtain ⟨A2, c2, rfl, rfl, hC2, hb2⟩ := hcut
  clear z70 z71 f70 f71 hR
  replace hC1 := ak (Kd.C_below hC1.out hb2)
  replace hC2 := ak hC2
  replace B8 := ak (blk_below B8.out hb2)
  replace HB := ak (below_step HB.out hb2)
  clear hb2 B7
  go_upto_region 5 with fail
  go_cut [54] from 45 to 54 (fun s wx => s = .bool false ∧ wx = wc)
  case first =>
    go_wp2_with fail
    go_meet
    case rel => exact ⟨by simp, rfl⟩
  obtain ⟨rfl, rfl⟩ := hcut
  go_step
  go_step
  go_step
  go_step
  go_step
  go_step
  go_cut [15] from 15 to 70 (fun _ wx => Below wc.heap.size wc wx)
  case first =>
    go_wp2
    go_loopg [15] rs.length (fun kq v15 w' => ∃ (i : Nat) (x : Int), v15 = .int .i64 x ∧ Aside0 (x = i ∧ i + kq = rs.length) ∧ Aside0 (Below wc.heap.size wc w'))
    case atStart => exact ⟨0, 0, rfl, ⟨rfl, by omega⟩, ⟨Below.refl _ _⟩⟩
    case round =>
      obtain ⟨i, x, rfl, ⟨hx, hi⟩, ⟨HR⟩⟩ := hrel
      cases gk with
      | zero =>
        have d1 : decide (x < (rs.length : Int)) = false := decide_eq_false (by omega)
        clear hx hi
        go_wp2
        go_meet
        case rel => exact HR
      | succ k1 =>
        have hlt : i < rs.length := by omega
        have d1 : decide (x < (rs.length : Int)) = true := decide_eq_true (by omega)
        obtain ⟨p, hp⟩ : ∃ p, rs[i]? = some p := ⟨_, List.getElem?_eq_getElem hlt⟩
        obtain ⟨ad1, e1, _⟩ := at_F (Kd.C_below hC1.out HR) i hlt p hp
        obtain ⟨ad2, e2, _⟩ := at_F (Kd.C_below hC2.out HR) i hlt p hp
        cases e1
        cases e2
        have hxi : x.toNat = i := by omega
        have px : (0 ≤ x) = True := eq_true (by omega)
        have qx : (x < (rs.length : Int)) = True := eq_true (by omega)
        have hw : Aside0 (wrap64 (x + 1) = ((i + 1 : Nat) : Int)) := ⟨by rw [hx, wrapN (by have := hr8.out; omega) (by have := hr8.out; omega)]; rfl⟩
        replace hp := ak (show rs[x.toNat]? = some p by rw [hxi]; exact hp)
        replace hlt := ak (show x.toNat < rs.length by omega)
        replace hx := ak hx
        replace hi := ak hi
        replace hxi := ak hxi
        have HRd := ak (below_drew1 HR)
        go_upto_region 10 with fail
        have hD1 := ak (Kd.C_below hC1.out HRd.out)
        have hD2 := ak (Kd.C_below hC2.out HRd.out)
        refine start_ (n := 10) (S := fun w' => w'.cell? (ad1.add (x.toNat * 5)) = some (.int .i64 1) ∧ w'.cell? ⟨(ad1.add (x.toNat * 5)).block, (ad1.add (x.toNat * 5)).off + 1, none⟩ = some (.int .i64 p.1) ∧ w'.cell? ⟨(ad1.add (x.toNat * 5)).block, (ad1.add (x.toNat * 5)).off + 2, none⟩ = some (.slice none 0 0) ∧ w'.cell? ⟨(ad1.add (x.toNat * 5)).block, (ad1.add (x.toNat * 5)).off + 3, none⟩ = some (.int .i64 p.2.1) ∧ w'.cell? ⟨(ad1.add (x.toNat * 5)).block, (ad1.add (x.toNat * 5)).off + 4, none⟩ = some (.int .i64 p.2.2) ∧ w'.cell? (ad2.add (x.toNat * 5)) = some (.int .i64 1) ∧ w'.cell? ⟨(ad2.add (x.toNat * 5)).block, (ad2.add (x.toNat * 5)).off + 1, none⟩ = some (.int .i64 p.1) ∧ w'.cell? ⟨(ad2.add (x.toNat * 5)).block, (ad2.add (x.toNat * 5)).off + 2, none⟩ = some (.slice none 0 0) ∧ w'.cell? ⟨(ad2.add (x.toNat * 5)).block, (ad2.add (x.toNat * 5)).off + 3, none⟩ = some (.int .i64 p.2.1) ∧ w'.cell? ⟨(ad2.add (x.toNat * 5)).block, (ad2.add (x.toNat * 5)).off + 4, none⟩ = some (.int .i64 p.2.2)) (ds := []) #[false, false, false, false, false, false, false, false, false, false] kr rfl rfl (heldF hD1.out hD2.out hlt.out hp.out) (fun hHeld => ?_); refine with_tabW l4_tab l4_bits (fun HT_ HW_ => ?_)
        refine pS 0 (some 61) ?_
        refine pS 1 (some 62) ?_
        refine pS 2 (some 63) ?_
        refine pT 3 (some 64) ?_
        refine pS 4 (some 65) ?_
        refine pS 5 (some 66) ?_
        refine pS 6 (some 67) ?_
        refine pT 7 (some 68) ?_
        refine one_ (i := 8) (N := some 69) #[true, true, true, true, true, true, true, true, true, false] rfl rfl (one_of HT_.out kr) (by decide) (fun K hK => ?_)
        refine goes_ Tryz.func11 kr rfl #[.agg #[.int .i64 1, .int .i64 p.1, .slice none 0 0, .int .i64 p.2.1, .int .i64 p.2.2], .agg #[.int .i64 1, .int .i64 p.1, .slice none 0 0, .int .i64 p.2.1, .int .i64 p.2.2]] (by rfl) rfl rfl ag ?_
        with_reducible refine (sameMon_calls _ p.1 p.2.1 p.2.2).mono ?_
        rintro en w2 ⟨rfl, hb2⟩
        refine ⟨_, rfl, ?_⟩
        replace hD1 := ak (Kd.C_below hD1.out hb2)
        replace hD2 := ak (Kd.C_below hD2.out hb2)
        replace HRd := ak (below_step HRd.out hb2)
        clear hb2 hHeld
        refine hK.out _ _ (heldF hD1.out hD2.out hlt.out hp.out) (fun hHeld => ?_)
        clear hK K
        refine norm_ (a' := ?_) ?_ ?_
        rotate_left
        · show Act.put _ (some 69) _ = _
          simp only [Act.put, List.setIfInBounds_toArray, List.set_cons_zero, List.set_cons_succ, i64_w, i32_w]
          rfl
        refine pS 9 (some 70) ?_
        refine Go.Proofs.YtnifkpljhfpdlaaGreatDoorW.PrintLast.done_ (done_of HT_.out kr) ?_
        try go_wp2
        go_roundg k1
        case measure => omega
        case rel => exact ⟨i + 1, wrap64 (x + 1), rfl, ⟨hw.out, by have := hi.out; omega⟩, ⟨HRd.out⟩⟩
  replace B8 := ak (blk_below B8.out hcut)
  replace HB := ak (below_step HB.out hcut)
  clear hcut hC1 hC2
  have hpa := parseP_uni (s := text) (hE.out.below HB.out) (by omega)
  go_upto_region 12 with fail
  go_cut [16, 17] from 16 to 75 (fun s16 s17 wx => ∃ (g16 : Nat) (A16 : Option Addr) (c16 : Nat), s16 = .pointer (some ⟨g16, 0, none⟩) ∧ s17 = .int .i64 (paE text) ∧ wx.heap[g16]? = some (.cells #[.int .i64 (paF text).kind, .int .i64 (paF text).site, .slice A16 (paF text).ar.length c16, .int .i64 (paF text).lo, .int .i64 (paF text).hi] 26 (0, 0)) ∧ Kd.C kP wx A16 (paF text).ar.length (paF text).ar ∧ (paF text).ar.length ≤ 100000 ∧ Below wc.heap.size wc wx)
  case first =>
    go_wp2_with (first | (go_at_call 8; (with_reducible refine hpa.mono ?_); rintro en w2 ⟨A16, c16, rfl, hC16, hl16, hb2⟩) | fail)
    go_meet
    case rel => exact ⟨_, A16, c16, rfl, rfl, blk_new w2 _, Kd.C_alloc hC16 _, hl16, hb2.trans (((Below.refl _ w2).alloc (Nat.le_refl _) _).mono hb2.size)⟩
  obtain ⟨g16, A16, c16, rfl, rfl, B16, hC16, hl16, hb2⟩ := hcut
  clear hpa
  replace B16 := ak B16
  replace hC16 := ak hC16
  replace hl16 := ak hl16
  replace B8 := ak (blk_below B8.out hb2)
  replace HB := ak (below_step HB.out hb2)
  clear hb2
  have hpa := fun W => parseR_uni (w := W) (s := text) (by omega)
  go_upto_region 13 with fail
  go_cut [18, 19] from 18 to 80 (fun s18 s19 wx => ∃ (g18 : Nat) (A18 : Option Addr) (c18 : Nat), s18 = .pointer (some ⟨g18, 0, none⟩) ∧ s19 = .bool (paB text) ∧ wx.heap[g18]? = some (.cells #[.int .i64 (paF text).kind, .int .i64 (paF text).site, .slice A18 (paF text).ar.length c18, .int .i64 (paF text).lo, .int .i64 (paF text).hi] 26 (0, 0)) ∧ Kd.C kP wx A18 (paF text).ar.length (paF text).ar ∧ Below wc.heap.size wc wx)
  case first =>
    go_wp2_with (first | (go_at_call 12; (with_reducible refine (hpa _).mono ?_); rintro en w2 ⟨A18, c18, rfl, hC18, _, hb2⟩) | fail)
    go_meet
    case rel => exact ⟨_, A18, c18, rfl, rfl, blk_new w2 _, Kd.C_alloc hC18 _, hb2.trans (((Below.refl _ w2).alloc (Nat.le_refl _) _).mono hb2.size)⟩
  obtain ⟨g18, A18, c18, rfl, rfl, B18, hC18, hb2⟩ := hcut
  clear hpa
  replace B18 := ak B18
  replace B16 := ak (blk_below B16.out hb2)
  replace hC16 := ak (Kd.C_below hC16.out hb2)
  replace hC18 := ak hC18
  replace B8 := ak (blk_below B8.out hb2)
  replace HB := ak (below_step HB.out hb2)
  clear hb2
  have hsf := sameFig_calls (k := (paF text).kind) (s := (paF text).site) (lo := (paF text).lo) (hi := (paF text).hi) (c := c16) (c' := c18) hC16.out hC18.out (by have := hl16.out; omega)
  generalize hFg : paF text = F at B16 B18 hC16 hC18 hl16 hsf
  have hbe : paE text = if paB text = true then 0 else 7 := rfl
  generalize paE text = ee at hbe
  generalize paB text = bb at hbe
  obtain ⟨y0', y1', y2', y3', y4', _⟩ := cb5 B16.out
  obtain ⟨x0', x1', x2', x3', x4', _⟩ := cb5 B18.out
  go_upto_region 14 with fail
  go_cut [99] from 81 to 99 (fun s wx => s = .bool false ∧ Below wc.heap.size wc wx)
  case first =>
    cases bb
    · obtain rfl : ee = 7 := hbe
      go_wp2_with (first | (go_at_call 11; (with_reducible refine hsf.mono ?_); rintro en w2 ⟨rfl, hb2⟩) | fail)
      go_meet
      case rel => exact ⟨rfl, hb2⟩
    · obtain rfl : ee = 0 := hbe
      go_wp2_with (first | (go_at_call 11; (with_reducible refine hsf.mono ?_); rintro en w2 ⟨rfl, hb2⟩) | fail)
      go_meet
      case rel => exact ⟨rfl, hb2⟩
  obtain ⟨rfl, hb2⟩ := hcut
  clear hbe y0' y1' y2' y3' y4' x0' x1' x2' x3' x4' hsf B16 B18 hC16 hC18 hl16
  replace B8 := ak (blk_below B8.out hb2)
  replace HB := ak (below_step HB.out hb2)
  clear hb2
  have hpr := print_calls (k := k) (s := st) (lo := lo) (hi := hi) (chk := chkF) (Kd.C_below hC.out HB.out) hc (hE.out.below HB.out).tab (fun W hW => check_calls (Kd.C_below (Kd.C_below hC.out HB.out) hW) (by omega) hc) (fun h => chkF_ok h)
  go_upto_region 16 with fail
  obtain ⟨z20, z21, z22, z23, z24, _⟩ := cb5 B8.out
  go_cut [20, 21] from 20 to 104 (fun s20 s21 wx => ∃ t e, s20 = .string t ∧ s21 = .int .i64 e ∧ PrOut (printF chkF ⟨k, st, ar, lo, hi⟩) t e ∧ Below wc.heap.size wc wx)
  case first =>
    go_wp2_with (first | (go_at_call 7; (with_reducible refine hpr.mono ?_); rintro en w2 ⟨t, e, rfl, hpo, hb2⟩) | fail)
    go_meet
    case rel => exact ⟨t, e, rfl, rfl, hpo, hb2⟩
  obtain ⟨t, e, rfl, rfl, hpo, hb2⟩ := hcut
  clear z20 z21 z22 z23 z24 hpr
  replace B8 := ak (blk_below B8.out hb2)
  replace HB := ak (below_step HB.out hb2)
  clear hb2
  have hpq := printableR_calls ⟨k, st, ar, lo, hi⟩ (c := c) (Kd.C_below hC.out HB.out) (by show ar.length ≤ 1000000; omega)
  generalize hpb : prB ⟨k, st, ar, lo, hi⟩ = pb at hpq
  have hpp := pr_print ⟨k, st, ar, lo, hi⟩
  rw [hpb] at hpp
  replace hpp := ak hpp
  replace hpb := ak hpb
  replace hpo := ak hpo
  go_upto_region 17 with fail
  obtain ⟨z20, z21, z22, z23, z24, _⟩ := cb5 B8.out
  go_cut [107] from 105 to 107 (fun s wx => s = .bool (!pb) ∧ Below wc.heap.size wc wx)
  case first =>
    go_wp2_with (first | (go_at_call 13; (with_reducible refine hpq.mono ?_); rintro en w2 ⟨rfl, hb2⟩) | fail)
    go_meet
    case rel => exact ⟨rfl, hb2⟩
  obtain ⟨rfl, hb2⟩ := hcut
  clear z20 z21 z22 z23 z24 hpq
  replace B8 := ak (blk_below B8.out hb2)
  replace HB := ak (below_step HB.out hb2)
  clear hb2
  replace hpp := hpp.out
  replace hpo := hpo.out
  replace hpb := hpb.out
  cases hx : printF chkF ⟨k, st, ar, lo, hi⟩ with
  | none =>
    rw [hx] at hpo hpp
    obtain rfl : pb = false := hpp
    obtain ⟨rfl, rfl⟩ := hpo
    have hs := sane wc (S8 wc HB.out)
    clear hx hpb
    go_wp2_with (first | (go_at_call 6; (with_reducible refine hs.mono ?_); rintro en w2 ⟨rfl, hb3⟩) | fail)
    go_ret
    exact ⟨rfl, below_step HB.out hb3⟩
  | some X =>
    rw [hx] at hpo hpp
    obtain rfl : pb = true := hpp
    obtain ⟨rfl, rfl⟩ := hpo
    have hs := sane wc (S8 wc HB.out)
    have hpt := fun (W : World) (hW : Below wc.heap.size wc W) => printR_calls (w := W) ⟨k, st, ar, lo, hi⟩ (c := c) (Kd.C_below (Kd.C_below hC.out HB.out) hW) (by show ar.length ≤ 1000000; omega) hpb
    rw [hx] at hpt
    replace hpt := ak hpt
    clear hx hpb
    go_wp2_with (first | (go_at_call 6; (with_reducible refine hs.mono ?_); rintro en w2 ⟨rfl, hb3⟩; obtain ⟨z20, z21, z22, z23, z24, _⟩ := cb5 (blk_below B8.out hb3)) | (go_at_call 14; (with_reducible refine (hpt.out _ hb3).mono ?_); rintro en w3 ⟨t', rfl, ht', hb4⟩; obtain rfl : t = t' := WideShapes.bytes_inj (Option.some.inj ht')) | fail)
    go_ret
    exact ⟨rfl, below_step (below_step HB.out hb3) hb4⟩
end Go.Proofs.Tt.P
