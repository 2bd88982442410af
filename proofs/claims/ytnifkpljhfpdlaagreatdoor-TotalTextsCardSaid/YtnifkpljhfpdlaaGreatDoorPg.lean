/- What is proved: what functions of the program do (walks, by hand and by programs of this repository). Conditions stand in each theorem. -/
import Derived.Test.YtnifkpljhfpdlaaGreatDoorPf
import Derived.OpenShut
import Derived.ChangeArms
set_option linter.unusedVariables false
set_option linter.unusedSimpArgs false
namespace Go.Proofs.Tt.P
open Go Go.Proofs.Tt.Sh Go.RowKit Go.Proofs.YtnifkpljhfpdlaaGreatDoorW.PrintWords Go.Proofs.YtnifkpljhfpdlaaGreatDoorW.PrintLast Go.Proofs.YtnifkpljhfpdlaaGreatDoorW.PrintMore
open Go.Tt (Pt Fg printF wordsF textOf spanOk siteW areaW ptW flat numsF pairs figF parseF zeroFg Small print_parse parse_print)
set_option linter.unusedVariables false
set_option linter.unusedSimpArgs false
theorem dec_len10 : ∀ k u, u < 10 ^ (k + 1) → (Lib.decDigits u).length ≤ k + 1
  | 0, u, h => by rw [Lib.decDigits, dif_pos (by simpa using h)]; simp
  | k + 1, u, h => by
    rw [Lib.decDigits]
    split
    · simp
    · rw [List.length_append]
      have := dec_len10 k (u / 10) (by rw [Nat.pow_succ] at h; omega)
      simp; omega
theorem itoa10 {n : Int} (h0 : 0 ≤ n) (h1 : n ≤ 1073741824) : (Lib.itoa n).length ≤ 10 := by
  unfold Lib.itoa
  rw [if_neg (by omega)]
  exact dec_len10 9 _ (by omega)
theorem ptW_len : ∀ l : List Pt, (ptW l).length = 2 * l.length
  | [] => rfl
  | p :: l => by rw [ptW, List.length_cons, List.length_cons, ptW_len l, List.length_cons]; omega
theorem ptW_short : ∀ l : List Pt, (∀ p ∈ l, okP p = true) → ∀ x ∈ ptW l, x.length ≤ 10
  | [], _, x, h => by simp [ptW] at h
  | p :: l, hp, x, h => by
    have := of_decide_eq_true (hp p (by simp))
    rw [ptW, List.mem_cons, List.mem_cons] at h
    rcases h with rfl | rfl | h
    · exact itoa10 (by omega) (by omega)
    · exact itoa10 (by omega) (by omega)
    · exact ptW_short l (fun q hq => hp q (by simp [hq])) x h
theorem print_len {f : Fg} {x : List UInt8} (h : printF chkF f = some x) : x.length ≤ 1000 := by
  unfold printF at h
  cases hw : wordsF chkF f with
  | none => rw [hw] at h; cases h
  | some ws =>
    rw [hw] at h
    obtain rfl : textOf ws = x := by simpa using h
    have hb : ws.length ≤ 35 ∧ ∀ y ∈ ws, y.length ≤ 10 := by
      unfold wordsF at hw
      split at hw
      · next hs =>
        have hs' := of_decide_eq_true hs
        split at hw
        · next h1 =>
          cases hw
          refine ⟨by simp, fun y hy => ?_⟩
          simp only [List.mem_cons, List.not_mem_nil, or_false] at hy
          rcases hy with rfl | rfl | rfl | rfl
          · decide
          · exact itoa10 (by omega) (by omega)
          · exact itoa10 (by omega) (by omega)
          · exact itoa10 (by omega) (by omega)
        · split at hw
          · split at hw
            · next hk =>
              cases hw
              obtain ⟨k1, k2⟩ := chkF_ok hk
              refine ⟨by simp [ptW_len]; omega, fun y hy => ?_⟩
              simp only [List.mem_cons] at hy
              rcases hy with rfl | rfl | rfl | hy
              · decide
              · exact itoa10 (by omega) (by omega)
              · exact itoa10 (by omega) (by omega)
              · exact ptW_short _ k2 _ hy
            · cases hw
          · cases hw
      · cases hw
    have := join_len ws 10 hb.2
    unfold textOf
    have h2 := hb.1
    have : ws.length * (10 + 1) ≤ 35 * 11 := Nat.mul_le_mul_right 11 h2
    simp; omega
theorem chk_small : ∀ l, chkF l = true → ∀ p ∈ l, Small p.x ∧ Small p.y := fun l h p hp => by
  have := of_decide_eq_true ((chkF_ok h).2 p hp)
  exact ⟨⟨by omega, by omega⟩, ⟨by omega, by omega⟩⟩
set_option maxHeartbeats 8000000 in
set_option maxRecDepth 100000 in
theorem plain_calls (k st lo hi : Int) (A : Option Addr) (n c : Nat) (w : World) : Calls Tryz.prog 5 #[.agg #[.int .i64 k, .int .i64 st, .slice A n c, .int .i64 lo, .int .i64 hi]] w fun e w' => e = .returned (.bool (decide (n ≤ 20))) ∧ Below w.heap.size w w' := by
  have hu26 := Tryz.underlying26
  have hu22 := Tryz.underlying22
  have hB := (blk_cell (blk_new w (.cells #[.int .i64 k, .int .i64 st, .slice A n c, .int .i64 lo, .int .i64 hi] 26)) 2)
  have hz : (w.alloc (.cells #[.int .i64 k, .int .i64 st, .slice A n c, .int .i64 lo, .int .i64 hi] 26)).cell? ⟨w.heap.size, 2, none⟩ = some (.slice A n c) := hB.trans rfl
  clear hB
  have hd : decide ((n : Int) ≤ 20) = decide (n ≤ 20) := decide_eq_decide.2 (by omega)
  go_enter Tryz.func5, Tryz.ntmps5
  go_wp2
  go_ret
  exact ⟨rfl, (Below.refl _ w).alloc (Nat.le_refl _) _⟩
def f3a_T : Bool × List (List Nat × List Nat) := (true, [([], []), ([0], [0]), ([], []), ([1, 2], [1, 2]), ([3], [3]), ([], []), ([5], [5]), ([], []), ([6, 7], [6, 7]), ([8], [8]), ([4, 9], [4, 9])])
def f3a_B : List Nat := [0, 1, 0, 7, 15, 0, 32, 0, 224, 480, 1023]
theorem f3a_tab : rtab .any (opsOf Tryz.f3 11) = f3a_T := by kernel_rfl
theorem f3a_bits : waitsOk f3a_T.2 f3a_B = true := by kernel_rfl
attribute [local go_sem high] eqP35 eqA24
set_option maxHeartbeats 8000000 in
set_option maxRecDepth 100000 in
theorem law_calls {w : World} {k st lo hi : Int} {A : Option Addr} {c : Nat} {ar : List Pt} {text : ByteArray} (sane : ∀ w : World, 8 ≤ w.heap.size → Calls Tryz.prog 6 #[] w fun e w' => e = .returned (.bool true) ∧ Below w.heap.size w w')
    (hE : Env w) (hC : Kd.C kP w A ar.length ar) (hc : ar.length ≤ c) (h8 : 8 ≤ w.heap.size) :
    Calls Tryz.prog 3 #[.agg #[.int .i64 k, .int .i64 st, .slice A ar.length c, .int .i64 lo, .int .i64 hi], .string text] w fun e w' => e = .returned (.bool true) ∧ Below w.heap.size w w' := by
  have hu26 := Tryz.underlying26
  have hu24 := Tryz.underlying24
  have hu22 := Tryz.underlying22
  go_enter Tryz.func3, Tryz.ntmps3
  go_upto_region 0 with fail
  go_cut [2, 4] from 2 to 4 (fun s2 s4 wc => ∃ g2, s2 = .pointer (some ⟨g2, 0, none⟩) ∧ s4 = .bool false ∧ wc.heap[g2]? = some (.cells #[.int .i64 k, .int .i64 st, .slice A ar.length c, .int .i64 lo, .int .i64 hi] 26 (0, 0)) ∧ Below w.heap.size w wc)
  case first =>
    go_wp2_with fail
    go_meet
    case rel => exact ⟨_, rfl, rfl, blk_new w _, (Below.refl _ w).alloc (Nat.le_refl _) _⟩
  obtain ⟨g2, rfl, rfl, B2, HB⟩ := hcut
  replace B2 := ak B2
  replace HB := ak HB
  have S8 : ∀ W : World, Below w.heap.size w W → 8 ≤ W.heap.size := fun W h => Nat.le_trans h8 h.size
  go_upto_region 1 with fail
  obtain ⟨z20, z21, z22, z23, z24, _⟩ := cb5 B2.out
  go_cut [21] from 14 to 21 (fun s wx => s = .bool (!decide (ar.length ≤ 20 ∧ text.size ≤ 300)) ∧ Below wc.heap.size wc wx)
  case first =>
    cases h1 : decide (ar.length ≤ 20)
    · go_wp2_with (first | (go_at_call 5; (with_reducible refine (plain_calls k st lo hi A ar.length c _).mono ?_); rintro en w2 ⟨rfl, hb2⟩; rw [h1]) | fail)
      go_meet
      case rel => exact ⟨by rw [decide_eq_false (fun h => (of_decide_eq_false h1) h.1)]; rfl, hb2⟩
    · go_wp2_with (first | (go_at_call 5; (with_reducible refine (plain_calls k st lo hi A ar.length c _).mono ?_); rintro en w2 ⟨rfl, hb2⟩; rw [h1]) | fail)
      go_meet
      case rel =>
        refine ⟨?_, hb2⟩
        congr 1
        rw [← decide_not]
        apply decide_eq_decide.2
        have := of_decide_eq_true h1
        omega
  obtain ⟨rfl, hb2⟩ := hcut
  clear z20 z21 z22 z23 z24
  replace B2 := ak (blk_below B2.out hb2)
  replace HB := ak (below_step HB.out hb2)
  clear hb2
  cases hg : decide (ar.length ≤ 20 ∧ text.size ≤ 300)
  case false =>
    have hs := sane wc (S8 wc HB.out)
    go_wp2_with (first | (go_at_call 6; (with_reducible refine hs.mono ?_); rintro en w2 ⟨rfl, hb3⟩) | fail)
    go_ret
    exact ⟨rfl, below_step HB.out hb3⟩
  have hgd := of_decide_eq_true hg
  have hpr := print_calls (k := k) (s := st) (lo := lo) (hi := hi) (chk := chkF) (Kd.C_below hC HB.out) hc (hE.below HB.out).tab (fun W hW => check_calls (Kd.C_below (Kd.C_below hC HB.out) hW) (by omega) hc) (fun h => chkF_ok h)
  go_upto_region 3 with fail
  obtain ⟨z20, z21, z22, z23, z24, _⟩ := cb5 B2.out
  go_cut [5, 6] from 5 to 27 (fun s5 s6 wx => ∃ t e, s5 = .string t ∧ s6 = .int .i64 e ∧ PrOut (printF chkF ⟨k, st, ar, lo, hi⟩) t e ∧ Below wc.heap.size wc wx)
  case first =>
    go_wp2_with (first | (go_at_call 7; (with_reducible refine hpr.mono ?_); rintro en w2 ⟨t, e, rfl, hpo, hb2⟩) | fail)
    go_meet
    case rel => exact ⟨t, e, rfl, rfl, hpo, hb2⟩
  obtain ⟨t, e, rfl, rfl, hpo, hb2⟩ := hcut
  clear z20 z21 z22 z23 z24 hpr
  replace B2 := ak (blk_below B2.out hb2)
  replace HB := ak (below_step HB.out hb2)
  clear hb2
  go_step
  go_step
  go_cut [7] from 7 to 84 (fun _ wx => Below wc.heap.size wc wx)
  case first =>
    cases hx : printF chkF ⟨k, st, ar, lo, hi⟩ with
    | none =>
      rw [hx] at hpo
      obtain ⟨rfl, _⟩ := hpo
      go_wp2_with fail
      go_meet
      case rel => exact Below.refl _ _
    | some x =>
      rw [hx] at hpo
      obtain ⟨rfl, ht⟩ := hpo
      have hts : t.size ≤ 1000 := by
        have := print_len hx
        rw [← ht] at this
        simpa using this
      have hpp := print_parse chk_small hx
      rw [← ht] at hpp
      have hpa := parse_calls (s := t) (hE.below HB.out) (by omega)
      go_upto_region 5 with fail
      go_cut [7, 8] from 7 to 34 (fun s7 s8 wx => ∃ g7 A7 c7, s7 = .pointer (some ⟨g7, 0, none⟩) ∧ s8 = .int .i64 0 ∧ wx.heap[g7]? = some (.cells #[.int .i64 k, .int .i64 st, .slice A7 ar.length c7, .int .i64 lo, .int .i64 hi] 26 (0, 0)) ∧ Kd.C kP wx A7 ar.length ar ∧ Below wc.heap.size wc wx)
      case first =>
        go_wp2_with (first | (go_at_call 8; (with_reducible refine hpa.mono ?_); rintro en w2 ⟨k2, st2, lo2, hi2, e2, A2, n2, c2, rfl, hb2, hm⟩; rw [hpp] at hm; obtain ⟨rfl, rfl, rfl, rfl, rfl, rfl, hm1, hm2, hm3⟩ := hm) | fail)
        go_meet
        case rel => exact ⟨_, A2, c2, rfl, rfl, blk_new w2 _, Kd.C_alloc hm3 _, hb2.trans (((Below.refl _ w2).alloc (Nat.le_refl _) _).mono hb2.size)⟩
      obtain ⟨g7, A7, c7, rfl, rfl, B7, hC7, hb2⟩ := hcut
      replace B2 := ak (blk_below B2.out hb2)
      replace HB := ak (below_step HB.out hb2)
      replace B7 := ak B7
      have hbo := ak hb2
      clear hpa hpp ht hts hx hb2
      have hC2 := Kd.C_below hC HB.out
      obtain ⟨z20, z21, z22, z23, z24, _⟩ := cb5 B2.out
      obtain ⟨z70, z71, z72, z73, z74, _⟩ := cb5 B7.out
      go_step
      go_step
      go_cut [8] from 35 to 66 (fun _ wx => wx = wc)
      case first =>
        go_wp2_with fail
        go_meet
        case rel => exact rfl
      subst hcut
      clear z20 z21 z22 z23 z24 z70 z71 z72 z73 z74
      go_wp2
      go_loopg [9] ar.length (fun kq v9 w' => ∃ (i : Nat) (x : Int), v9 = .int .i64 x ∧ Aside0 (x = i ∧ i + kq = ar.length) ∧ Aside0 (Below wc.heap.size wc w'))
      case atStart => exact ⟨0, 0, rfl, ⟨rfl, by omega⟩, ⟨Below.refl _ _⟩⟩
      case round =>
        obtain ⟨i, x, rfl, ⟨hx, hi⟩, ⟨HR⟩⟩ := hrel
        have B2r := blk_below B2.out HR
        have B7r := blk_below B7.out HR
        obtain ⟨z20, z21, z22, z23, z24, _⟩ := cb5 B2r
        cases gk with
        | zero =>
          have c1 : decide (x < (ar.length : Int)) = false := decide_eq_false (by omega)
          clear hx hi
          go_wp2
          go_meet
          case rel => exact hbo.out.trans (HR.mono hbo.out.size)
        | succ k1 =>
          have hlt : i < ar.length := by omega
          have c1 : decide (x < (ar.length : Int)) = true := decide_eq_true (by omega)
          obtain ⟨p, hp⟩ : ∃ p, ar[i]? = some p := ⟨_, List.getElem?_eq_getElem hlt⟩
          have HRd := below_drew1 HR
          obtain ⟨ad1, e1, h10, h11⟩ := at_P (Kd.C_below hC2 HRd) i hlt p hp
          obtain ⟨ad2, e2, h20, h21⟩ := at_P (Kd.C_below hC7 HRd) i hlt p hp
          cases e1
          cases e2
          have hxi : x.toNat = i := by omega
          have px : (0 ≤ x) = True := eq_true (by omega)
          have qx : (x < (ar.length : Int)) = True := eq_true (by omega)
          have hw : Aside0 (wrap64 (x + 1) = ((i + 1 : Nat) : Int)) := ⟨by rw [hx, wrapN (by omega) (by omega)]; rfl⟩
          rw [← hxi] at h10 h11 h20 h21
          replace hxi := ak hxi
          replace hx := ak hx
          replace hi := ak hi
          have hpt : ptEq p.x p.y p.x p.y = true := by unfold ptEq; simp
          have y2 := (blk_cell (blk_below B2.out HRd) 2)
          have y7 := (blk_cell (blk_below B7.out HRd) 2)
          go_upto_region 11 with fail
          refine start_ (n := 11) (S := fun w' => w'.cell? ⟨g7, 2, none⟩ = some (.slice (some ad2) ar.length c7) ∧ w'.cell? ⟨g2, 2, none⟩ = some (.slice (some ad1) ar.length c) ∧ w'.cell? (ad1.add (x.toNat * 2)) = some (.int .i64 p.x) ∧ w'.cell? ⟨(ad1.add (x.toNat * 2)).block, (ad1.add (x.toNat * 2)).off + 1, none⟩ = some (.int .i64 p.y) ∧ w'.cell? (ad2.add (x.toNat * 2)) = some (.int .i64 p.x) ∧ w'.cell? ⟨(ad2.add (x.toNat * 2)).block, (ad2.add (x.toNat * 2)).off + 1, none⟩ = some (.int .i64 p.y)) (ds := []) #[false, false, false, false, false, false, false, false, false, false, false] kr rfl rfl ⟨y7.trans rfl, y2.trans rfl, h10, h11, h20, h21⟩ (fun hHeld => ?_); refine with_tabW f3a_tab f3a_bits (fun HT_ HW_ => ?_)
          refine pS 0 (some 74) ?_
          refine pT 1 (some 75) ?_
          refine pS 2 (some 76) ?_
          refine pS 3 (some 77) ?_
          refine pT 4 (some 78) ?_
          refine pS 5 (some 79) ?_
          refine pT 6 (some 80) ?_
          refine pS 7 (some 81) ?_
          refine pS 8 (some 82) ?_
          refine pT 9 (some 83) ?_
          refine pS 10 (some 84) ?_
          refine Go.Proofs.YtnifkpljhfpdlaaGreatDoorW.PrintLast.done_ (done_of HT_.out kr) ?_
          try go_wp2
          go_roundg k1
          case measure => omega
          case rel => exact ⟨i + 1, wrap64 (x + 1), rfl, ⟨hw.out, by have := hi.out; omega⟩, ⟨HRd⟩⟩
  replace B2 := ak (blk_below B2.out hcut)
  replace HB := ak (below_step HB.out hcut)
  clear hcut hpo
  have hpa := parse_calls (s := text) (hE.below HB.out) (by omega)
  go_upto_region 13 with fail
  go_cut [10, 11] from 10 to 89 (fun s10 s11 wx => ∃ (g10 : Nat) (k st lo hi e : Int) (A : Option Addr) (n c : Nat), s10 = .pointer (some ⟨g10, 0, none⟩) ∧ s11 = .int .i64 e ∧ wx.heap[g10]? = some (.cells #[.int .i64 k, .int .i64 st, .slice A n c, .int .i64 lo, .int .i64 hi] 26 (0, 0)) ∧ Below wc.heap.size wc wx ∧
    match parseF chkF text.data.toList with
    | none => e = 7 ∧ k = 0
    | some f => e = 0 ∧ f.kind = k ∧ f.site = st ∧ f.lo = lo ∧ f.hi = hi ∧ f.ar.length = n ∧ n ≤ c ∧ n ≤ 100000 ∧ Kd.C kP wx A f.ar.length f.ar)
  case first =>
    go_wp2_with (first | (go_at_call 8; (with_reducible refine hpa.mono ?_); rintro en w2 ⟨k2, st2, lo2, hi2, e2, A2, n2, c2, rfl, hb2, hm⟩) | fail)
    go_meet
    case rel =>
      refine ⟨_, k2, st2, lo2, hi2, e2, A2, n2, c2, rfl, rfl, blk_new w2 _, hb2.trans (((Below.refl _ w2).alloc (Nat.le_refl _) _).mono hb2.size), ?_⟩
      cases hx : parseF chkF text.data.toList with
      | none => rw [hx] at hm; exact ⟨hm.1, hm.2.1⟩
      | some f =>
        rw [hx] at hm
        obtain ⟨m1, m2, m3, m4, m5, m6, m7, m8, m9⟩ := hm
        exact ⟨m1, m2, m3, m4, m5, m6, m7, m8, Kd.C_alloc m9 _⟩
  obtain ⟨g10, k', st', lo', hi', e, A', n, c', rfl, rfl, B10, hb2, hm⟩ := hcut
  clear hpa
  replace HB := ak (below_step HB.out hb2)
  clear hb2 B2
  obtain ⟨z100, z101, z102, z103, z104, _⟩ := cb5 B10
  cases hx : parseF chkF text.data.toList with
  | none =>
    rw [hx] at hm
    obtain ⟨rfl, rfl⟩ := hm
    have hs := sane wc (S8 wc HB.out)
    go_wp2_with (first | (go_at_call 6; (with_reducible refine hs.mono ?_); rintro en w2 ⟨rfl, hb3⟩; replace z100 := (blk_cell (blk_below B10 hb3) 0)) | fail)
    go_ret
    exact ⟨rfl, below_step HB.out hb3⟩
  | some f =>
    rw [hx] at hm
    obtain ⟨rfl, rfl, rfl, rfl, rfl, rfl, hc', hn', hC'⟩ := hm
    have hpp := parse_print hx
    have hpr := print_calls (k := f.kind) (s := f.site) (lo := f.lo) (hi := f.hi) (chk := chkF) hC' hc' (hE.below HB.out).tab (fun W hW => check_calls (Kd.C_below hC' hW) (by omega) hc') (fun h => chkF_ok h)
    go_upto_region 16 with fail
    go_cut [12, 13] from 12 to 106 (fun s12 s13 wx => s12 = .string text ∧ s13 = .int .i64 0 ∧ Below wc.heap.size wc wx)
    case first =>
      go_wp2_with (first | (go_at_call 7; (with_reducible refine hpr.mono ?_); rintro en w2 ⟨t, e, rfl, hpo, hb2⟩) | fail)
      go_meet
      case rel =>
        replace hpo : PrOut (printF chkF f) t e := hpo
        rw [hpp] at hpo
        obtain ⟨rfl, ht⟩ := hpo
        exact ⟨congrArg _ (WideShapes.bytes_inj ht), rfl, hb2⟩
    obtain ⟨rfl, rfl, hb2⟩ := hcut
    replace HB := ak (below_step HB.out hb2)
    have hs := sane wc (S8 wc HB.out)
    go_wp2_with (first | (go_at_call 6; (with_reducible refine hs.mono ?_); rintro en w2 ⟨rfl, hb3⟩) | fail)
    go_ret
    exact ⟨rfl, below_step HB.out hb3⟩
end Go.Proofs.Tt.P
namespace Go.Proofs.Tt.P
open Go Go.Proofs.Tt.Sh Go.RowKit Go.Proofs.YtnifkpljhfpdlaaGreatDoorW.PrintWords Go.Proofs.YtnifkpljhfpdlaaGreatDoorW.PrintLast Go.Proofs.YtnifkpljhfpdlaaGreatDoorW.PrintMore
open Go.Tt (Pt)
set_option linter.unusedVariables false
set_option linter.unusedSimpArgs false
section
variable {H : Type} {enc : TypeId × Value → H} {P : Program} {w : World} {base : Nat} {spare : Nat → Bool} {held : Bool}
theorem open_rows {α : Type} (k : Kd α) {e t : TypeId} (ht : P.underlying t = some (.slice e)) (hz : P.cellsOf e = k.sz) (good : α → Prop)
    (one : ∀ (n : Nat) (cs : List Value) (y : DataW H × List MemPlace), DataW.trod enc P w base spare held n e cs = some y → ∃ x : α, k.K w x cs ∧ good x)
    {fuel : Nat} {cs : List Value} {x : DataW H × List MemPlace} (h : DataW.trod enc P w base spare held fuel t cs = some x) :
    ∃ (A : Option Addr) (n c : Nat) (xs : List α), cs = [.slice A n c] ∧ n ≤ c ∧ xs.length = n ∧ Kd.C k w A n xs ∧ ∀ x ∈ xs, good x := by
  rcases DataW.trod_slice ht h with ⟨rfl, _⟩ | ⟨a, len, cap, elems, rest, n, rfl, rfl, _, _, hl, _, hlen, hel, _⟩
  · exact ⟨none, 0, 0, [], rfl, Nat.le_refl _, rfl, ⟨rfl, by decide, fun h => by omega⟩, fun x hx => by simp at hx⟩
  · have each : ∀ i, i < len → ∃ (x : α) (cc : List Value), w.cells? base (a.add (i * k.sz)) k.sz = some cc ∧ k.K w x cc ∧ good x := by
      intro i hi
      have h1 := hel i hi
      obtain ⟨y, hy⟩ : ∃ y, elems[i]? = some y := ⟨elems[i]'(by omega), List.getElem?_eq_getElem (by omega)⟩
      rw [hy] at h1
      obtain ⟨cc, h2, h3⟩ := Option.bind_eq_some_iff.1 h1
      obtain ⟨x, h4, h5⟩ := one _ _ _ h3
      exact ⟨x, cc, by rw [← hz]; exact h2, h4, h5⟩
    have build : ∀ m, m ≤ len → ∃ xs : List α, xs.length = m ∧ ∀ i x, xs[i]? = some x → ∃ cc, w.cells? base (a.add (i * k.sz)) k.sz = some cc ∧ k.K w x cc ∧ good x := by
      intro m
      induction m with
      | zero => exact fun _ => ⟨[], rfl, fun i x hx => by simp at hx⟩
      | succ m ih =>
        intro hm
        obtain ⟨xs, h1, h2⟩ := ih (by omega)
        obtain ⟨x, cc, h3, h4, h5⟩ := each m (by omega)
        refine ⟨xs ++ [x], by simp [h1], fun i y hy => ?_⟩
        rcases Nat.lt_or_ge i xs.length with hi | hi
        · rw [List.getElem?_append_left hi] at hy
          exact h2 i y hy
        · have him : i = m := by
            have := (List.getElem?_eq_some_iff.1 hy).1
            simp at this; omega
          subst him
          rw [List.getElem?_append_right hi, h1, Nat.sub_self] at hy
          obtain rfl : x = y := by simpa using hy
          exact ⟨cc, h3, h4, h5⟩
    obtain ⟨xs, h1, h2⟩ := build len (Nat.le_refl _)
    refine ⟨some a, len, cap, xs, rfl, hl, h1, ⟨h1, by have := ‹cap ≤ maxLen›; unfold maxLen at this; omega, fun _ => ⟨a, rfl, fun j x hj => ?_⟩⟩, fun x hx => ?_⟩
    · obtain ⟨cc, h3, h4, _⟩ := h2 j x hj
      refine ⟨cc, k.K_len h4, h4, fun i u hu => ?_⟩
      have hlt : i < k.sz := by
        have h6 := (List.getElem?_eq_some_iff.1 hu).1
        rw [k.K_len h4] at h6; exact h6
      have h7 := (World.cells?_some h3).2.2 i hlt
      rw [hu] at h7
      rw [← h7]
      congr 1
      by_cases h1 : j * k.sz = 0 <;> by_cases h2 : i = 0 <;> simp [Addr.add, h1, h2, Nat.add_assoc]
    · obtain ⟨j, hj, rfl⟩ := List.getElem_of_mem hx
      exact (h2 j _ (List.getElem?_eq_getElem hj)).choose_spec.2.2
theorem cells22 : Tryz.prog.cellsOf 22 = 1 := by kernel_rfl
theorem cells24 : Tryz.prog.cellsOf 24 = 2 := by kernel_rfl
theorem cells26 : Tryz.prog.cellsOf 26 = 5 := by kernel_rfl
theorem at_ {α : Type} {xs : List α} {n : Nat} (h : xs.length = n) {i : Nat} (hi : i < n) : ∃ x, xs[i]? = some x := ⟨xs[i]'(by omega), List.getElem?_eq_getElem (by omega)⟩
set_option maxRecDepth 100000 in
theorem open_point {n : Nat} {cs : List Value} {y : DataW H × List MemPlace} (h : DataW.trod enc Tryz.prog w base spare held n 35 cs = some y) : ∃ x : Pt, kP.K w x cs ∧ True := by
  obtain ⟨xs, m, rfl, _, hl, hx, hf⟩ := DataW.trod_struct Tryz.underlying35 h
  rw [cells35] at hl
  obtain ⟨x0, e0⟩ := at_ hx (i := 0) (by decide)
  obtain ⟨x1, e1⟩ := at_ hx (i := 1) (by decide)
  have h0 := hf 0 _ rfl
  have h1 := hf 1 _ rfl
  rw [e0] at h0; rw [e1] at h1
  match cs, hl with
  | [c0, c1], _ =>
    obtain ⟨a, q0, _⟩ := DataW.trod_int Tryz.underlying3 h0
    obtain ⟨b, q1, _⟩ := DataW.trod_int Tryz.underlying3 h1
    simp [cells3] at q0 q1
    subst q0; subst q1
    exact ⟨⟨a, b⟩, kP_mk w ⟨a, b⟩, trivial⟩
set_option maxRecDepth 100000 in
theorem open_span {n : Nat} {cs : List Value} {y : DataW H × List MemPlace} (h : DataW.trod enc Tryz.prog w base spare held n 24 cs = some y) : ∃ lo hi : Int, cs = [.int .i64 lo, .int .i64 hi] := by
  obtain ⟨xs, m, rfl, _, hl, hx, hf⟩ := DataW.trod_struct Tryz.underlying24 h
  rw [cells24] at hl
  obtain ⟨x0, e0⟩ := at_ hx (i := 0) (by decide)
  obtain ⟨x1, e1⟩ := at_ hx (i := 1) (by decide)
  have h0 := hf 0 _ rfl
  have h1 := hf 1 _ rfl
  rw [e0] at h0; rw [e1] at h1
  match cs, hl with
  | [c0, c1], _ =>
    obtain ⟨a, q0, _⟩ := DataW.trod_int Tryz.underlying3 h0
    obtain ⟨b, q1, _⟩ := DataW.trod_int Tryz.underlying3 h1
    simp [cells3] at q0 q1
    subst q0; subst q1
    exact ⟨a, b, rfl⟩
set_option maxRecDepth 100000 in
theorem open_fig {n : Nat} {cs : List Value} {y : DataW H × List MemPlace} (h : DataW.trod enc Tryz.prog w base spare held n 26 cs = some y) :
    ∃ (k s lo hi : Int) (A : Option Addr) (c : Nat) (ar : List Pt), cs = [.int .i64 k, .int .i64 s, .slice A ar.length c, .int .i64 lo, .int .i64 hi] ∧ ar.length ≤ c ∧ Kd.C kP w A ar.length ar := by
  obtain ⟨xs, m, rfl, _, hl, hx, hf⟩ := DataW.trod_struct Tryz.underlying26 h
  rw [cells26] at hl
  obtain ⟨x0, e0⟩ := at_ hx (i := 0) (by decide)
  obtain ⟨x1, e1⟩ := at_ hx (i := 1) (by decide)
  obtain ⟨x2, e2⟩ := at_ hx (i := 2) (by decide)
  obtain ⟨x3, e3⟩ := at_ hx (i := 3) (by decide)
  have h0 := hf 0 _ rfl
  have h1 := hf 1 _ rfl
  have h2 := hf 2 _ rfl
  have h3 := hf 3 _ rfl
  rw [e0] at h0; rw [e1] at h1; rw [e2] at h2; rw [e3] at h3
  match cs, hl with
  | [c0, c1, c2, c3, c4], _ =>
    obtain ⟨a, q0, _⟩ := DataW.trod_int Tryz.underlying3 h0
    obtain ⟨b, q1, _⟩ := DataW.trod_int Tryz.underlying3 h1
    obtain ⟨A, n, c, xs, q2, g1, g2, g3, _⟩ := open_rows kP (P := Tryz.prog) Tryz.underlying22 cells35 (fun _ => True) (fun _ _ _ h => open_point h) h2
    obtain ⟨lo, hi, q3⟩ := open_span h3
    simp [cells3, cells22, cells24] at q0 q1 q2 q3
    obtain ⟨r3, r4⟩ := q3
    subst q0; subst q1; subst q2; subst r3; subst r4
    subst g2
    exact ⟨a, b, lo, hi, A, c, xs, rfl, g1, g3⟩
end
end Go.Proofs.Tt.P
