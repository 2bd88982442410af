/- What is proved: what functions of the program do (walks, by hand and by programs of this repository). Conditions stand in each theorem. -/
import Derived.Test.YtnifkpljhfpdlaaGreatDoorPj
set_option linter.unusedVariables false
set_option linter.unusedSimpArgs false
namespace Go.Proofs.Tt.P
open Go Go.Proofs.Tt.Sh Go.RowKit Go.Proofs.YtnifkpljhfpdlaaGreatDoorW.PrintWords Go.Proofs.YtnifkpljhfpdlaaGreatDoorW.PrintLast Go.Proofs.YtnifkpljhfpdlaaGreatDoorW.PrintMore
open Go.Tt (Pt Fg)
set_option linter.unusedVariables false
set_option linter.unusedSimpArgs false
def vStep (st : List Int × Int × Int) (b : Int) : List Int × Int × Int :=
  if b = 32 ∨ b = 10 then (if 0 < st.2.2 then st.1 ++ [st.2.1] else st.1, -1, 0)
  else if 48 ≤ b ∧ b ≤ 57 ∧ st.2.2 < 10 then (st.1, (if st.2.2 = 0 then 0 else 10 * st.2.1) + (b - 48), st.2.2 + 1)
  else st
def vF (l : List Int) : List Int × Int × Int := l.foldl vStep ([], -1, 0)
theorem vF_snoc (l : List Int) (b : Int) : vF (l ++ [b]) = vStep (vF l) b := by unfold vF; rw [List.foldl_append]; rfl
def bytesI (s : ByteArray) : List Int := s.data.toList.map fun b => (b.toNat : Int)
def vOk (n d : Int) : Prop := 0 ≤ d ∧ d ≤ 10 ∧ -1 ≤ n ∧ n < ((10 ^ d.toNat : Nat) : Int) ∧ (0 < d → 0 ≤ n)
theorem vOk_step {n d c : Int} (h : vOk n d) (hd : d < 10) (h0 : 0 < d) (hc : 0 ≤ c ∧ c ≤ 9) : vOk (10 * n + c) (d + 1) := by
  obtain ⟨h1, h2, h3, h4, h5⟩ := h
  have := h5 h0
  have e : (d + 1).toNat = d.toNat + 1 := by omega
  refine ⟨by omega, by omega, by omega, ?_, by omega⟩
  rw [e, Nat.pow_succ]
  omega
theorem vOk_big {n d : Int} (h : vOk n d) : n < 10000000000 := by
  obtain ⟨h1, h2, h3, h4, h5⟩ := h
  have : 10 ^ d.toNat ≤ 10 ^ 10 := Nat.pow_le_pow_right (by decide) (by omega)
  have e : (10 : Nat) ^ 10 = 10000000000 := by decide
  omega
set_option maxHeartbeats 8000000 in
set_option maxRecDepth 100000 in
theorem values_calls {w : World} {s : ByteArray} (hs : s.size ≤ 100000) :
    Calls Tryz.prog 37 #[.string s] w fun en w' => ∃ A n c, en = .returned (.slice A n c) ∧ n = (vF (bytesI s)).1.length ∧ Kd.R kI 3 w' w.heap.size (fun _ => True) (.slice A n c) (vF (bytesI s)).1 ∧ Below w.heap.size w w' := by
  have hu58 := Tryz.underlying58
  have hbl : (bytesI s).length = s.size := by unfold bytesI; simp
  replace hbl := ak hbl
  go_enter Tryz.func37, Tryz.ntmps37
  go_wp2
  go_loopg [3, 4, 5, 6] s.size (fun kq v3 v4 v5 v6 w' => ∃ (i : Nat) (x : Int) (out : List Int) (n d : Int), v4 = .int .i64 n ∧ v5 = .int .i64 d ∧ v6 = .int .i64 x ∧ Aside0 (x = i ∧ i + kq = s.size ∧ vF ((bytesI s).take i) = (out, n, d) ∧ vOk n d ∧ out.length ≤ i) ∧ Aside0 (Kd.R kI 3 w' w.heap.size (fun _ => True) v3 out) ∧ Aside0 (Below w.heap.size w w'))
  case atStart => exact ⟨0, 0, [], -1, 0, rfl, rfl, rfl, ⟨rfl, by omega, rfl, ⟨by decide, by decide, by decide, by decide, by decide⟩, by simp⟩, ⟨Kd.R_nil _ _ _ _ _⟩, ⟨Below.refl _ _⟩⟩
  case round =>
    obtain ⟨i, x, out, n, d, rfl, rfl, rfl, ⟨hx, hi, hst, hbd, hol⟩, ⟨hR⟩, ⟨HB⟩⟩ := hrel
    replace HB := ak HB
    cases gk with
    | zero =>
      have c1 : decide (x < (s.size : Int)) = false := decide_eq_false (by omega)
      rw [List.take_of_length_le (by rw [hbl.out]; omega)] at hst
      clear hx hi
      obtain ⟨A6, k6, ev⟩ := Kd.R_slice hR
      subst ev
      go_wp2
      go_ret
      exact ⟨A6, _, k6, rfl, by rw [hst], by rw [hst]; exact hR, HB.out⟩
    | succ k1 =>
      have hlt : i < s.size := by omega
      have c1 : decide (x < (s.size : Int)) = true := decide_eq_true (by omega)
      have p5 : (0 ≤ x) = True := eq_true (by omega)
      have q5 : (x < (s.size : Int)) = True := eq_true (by omega)
      have hx5 := bt_at s x
      have hb1 : (bytesI s)[i]? = some (bt s x) := by
        have e : x.toNat = i := by omega
        have hlt' : i < s.data.toList.length := by simpa using hlt
        unfold bytesI bt
        rw [List.getElem?_map, List.getElem?_eq_getElem hlt', dif_pos (by omega)]
        simp only [e]
        rfl
      have hal := ak (show (bytesI s).take (i + 1) = (bytesI s).take i ++ [bt s x] by rw [List.take_add_one, hb1]; rfl)
      have hby : 0 ≤ bt s x ∧ bt s x ≤ 255 := by
        unfold bt
        rw [dif_pos (by omega)]
        have := (s[x.toNat]'(by omega)).toNat_lt
        omega
      have hw : Aside0 (wrap64 (x + 1) = ((i + 1 : Nat) : Int)) := ⟨by rw [hx, wrapN (by omega) (by omega)]; rfl⟩
      have hcap := ak (show (out.length + 1) * 8 ≤ 140737488355328 by omega)
      have hbg := vOk_big hbd
      have hwd := ak (show wrap64 (d + 1) = d + 1 by rw [wrapN (by have := hbd.1; omega) (by have := hbd.2.1; omega)])
      have hwn := ak (show 48 ≤ bt s x → bt s x ≤ 57 → wrap64 (wrap64 (10 * n) + (bt s x - 48)) = 10 * n + (bt s x - 48) by
        intro h1 h2
        have h3 := hbd.2.2.1
        rw [wrapN (n := 10 * n) (by omega) (by omega), wrapN (by omega) (by omega)])
      replace hx := ak hx
      replace hi := ak hi
      replace hst := ak hst
      replace hbd := ak hbd
      replace hol := ak hol
      replace hR := ak hR
      clear hb1
      obtain ⟨A6, k6, ev⟩ := Kd.R_slice hR.out
      subst ev
      generalize hbb : bt s x = b at hx5 hal hby hwn
      clear hbb
      replace hby := ak hby
      by_cases hsep : b = 32 ∨ b = 10
      · have hb22 : (b == 32) = true ∨ ((b == 32) = false ∧ (b == 10) = true) := by
          by_cases h : b = 32
          · exact .inl (beq_iff_eq.2 h)
          · exact .inr ⟨beq_eq_false_iff_ne.2 h, beq_iff_eq.2 (by omega)⟩
        by_cases hd : 0 < d
        · have cd : decide (d > 0) = true := decide_eq_true hd
          have cd2 : decide (0 < d) = true := decide_eq_true hd
          rcases hb22 with e1 | ⟨e1, e2⟩
          all_goals
            go_wp2_with (first | ((with_reducible refine gate_builtin (b := .append) (xs := #[.tmp 25, .tmp 27]) rfl ?_); at_builtin; refine Kd.R_append kI (w0 := w) w.heap.size rfl (.tmp 25) (.tmp 27) 58 3 (.int .i64 0) 8 rfl Tryz.underlying58 info3 rfl (by decide) (by omega) (.slice A6 out.length k6) out n [.int .i64 n] (fun _ => True) (fun _ => False) rfl rfl rfl (fun _ hk => hk.elim) (fun _ _ => trivial) hR.out HB.out HB.out.size hcap.out ?_; intro v3 w3 ho3 hb3 hg3 _) | fail)
            go_roundg k1
            case measure => omega
            case rel => exact ⟨i + 1, wrap64 (x + 1), out ++ [n], -1, 0, rfl, rfl, rfl, ⟨hw.out, by have := hi.out; omega, by rw [hal.out, vF_snoc, hst.out]; unfold vStep; rw [if_pos hsep, if_pos hd], ⟨by decide, by decide, by decide, by decide, by decide⟩, by have := hol.out; simp; omega⟩, ⟨ho3⟩, ⟨hb3⟩⟩
        · have cd : decide (d > 0) = false := decide_eq_false hd
          have cd2 : decide (0 < d) = false := decide_eq_false hd
          rcases hb22 with e1 | ⟨e1, e2⟩
          all_goals
            go_wp2
            go_roundg k1
            case measure => omega
            case rel => exact ⟨i + 1, wrap64 (x + 1), out, -1, 0, rfl, rfl, rfl, ⟨hw.out, by have := hi.out; omega, by rw [hal.out, vF_snoc, hst.out]; unfold vStep; rw [if_pos hsep, if_neg (show ¬ (0 : Int) < d by omega)], ⟨by decide, by decide, by decide, by decide, by decide⟩, by have := hol.out; omega⟩, hR, HB⟩
      · have e1 : (b == 32) = false := beq_eq_false_iff_ne.2 (fun h => hsep (.inl h))
        have e2 : (b == 10) = false := beq_eq_false_iff_ne.2 (fun h => hsep (.inr h))
        by_cases hdg : 48 ≤ b ∧ b ≤ 57 ∧ d < 10
        · have g1 : decide (48 ≤ b) = true := decide_eq_true hdg.1
          have g2 : decide (b ≤ 57) = true := decide_eq_true hdg.2.1
          have g3 : decide (d < 10) = true := decide_eq_true hdg.2.2
          by_cases hd0 : d = 0
          · have g4 : (d == 0) = true := beq_iff_eq.2 hd0
            subst hd0
            have hv1 := ak (show vOk (b - 48) 1 by
              have e10 : (10 ^ (1 : Int).toNat : Nat) = 10 := by decide
              refine ⟨by decide, by decide, by omega, ?_, fun _ => by omega⟩
              rw [e10]; omega)
            go_wp2
            go_roundg k1
            case measure => omega
            case rel => exact ⟨i + 1, wrap64 (x + 1), out, b - 48, 1, rfl, rfl, rfl, ⟨hw.out, by have := hi.out; omega, by rw [hal.out, vF_snoc, hst.out]; unfold vStep; rw [if_neg hsep, if_pos hdg, if_pos rfl]; simp, hv1.out, by have := hol.out; omega⟩, hR, HB⟩
          · have g4 : (d == 0) = false := beq_eq_false_iff_ne.2 hd0
            go_wp2
            go_roundg k1
            case measure => omega
            case rel => exact ⟨i + 1, wrap64 (x + 1), out, wrap64 (wrap64 (10 * n) + (b - 48)), wrap64 (d + 1), rfl, rfl, rfl, ⟨hw.out, by have := hi.out; omega, by rw [hal.out, vF_snoc, hst.out, hwn.out hdg.1 hdg.2.1, hwd.out]; unfold vStep; rw [if_neg hsep, if_pos hdg, if_neg hd0], by rw [hwn.out hdg.1 hdg.2.1, hwd.out]; exact vOk_step hbd.out hdg.2.2 (by have := hbd.out.1; omega) ⟨by omega, by omega⟩, by have := hol.out; omega⟩, hR, HB⟩
        · have hcs : decide (48 ≤ b) = false ∨ (decide (48 ≤ b) = true ∧ decide (b ≤ 57) = false) ∨ (decide (48 ≤ b) = true ∧ decide (b ≤ 57) = true ∧ decide (d < 10) = false) := by
            by_cases h1 : 48 ≤ b
            · by_cases h2 : b ≤ 57
              · exact .inr (.inr ⟨decide_eq_true h1, decide_eq_true h2, decide_eq_false (fun h => hdg ⟨h1, h2, h⟩)⟩)
              · exact .inr (.inl ⟨decide_eq_true h1, decide_eq_false h2⟩)
            · exact .inl (decide_eq_false h1)
          rcases hcs with g1 | ⟨g1, g2⟩ | ⟨g1, g2, g3⟩
          all_goals
            go_wp2
            go_roundg k1
            case measure => omega
            case rel => exact ⟨i + 1, wrap64 (x + 1), out, n, d, rfl, rfl, rfl, ⟨hw.out, by have := hi.out; omega, by rw [hal.out, vF_snoc, hst.out]; unfold vStep; rw [if_neg hsep, if_neg hdg], hbd.out, by have := hol.out; omega⟩, hR, HB⟩
end Go.Proofs.Tt.P
namespace Go.Proofs.Tt.P
open Go Go.Proofs.Tt.Sh Go.RowKit Go.Proofs.YtnifkpljhfpdlaaGreatDoorW.PrintWords Go.Proofs.YtnifkpljhfpdlaaGreatDoorW.PrintLast Go.Proofs.YtnifkpljhfpdlaaGreatDoorW.PrintMore
open Go.Tt (Pt Fg printF pairs zeroFg)
set_option linter.unusedVariables false
set_option linter.unusedSimpArgs false
theorem r12a_tab : rtab .any (opsOf Tryz.f12 4) = f8a_T := by kernel_rfl
theorem r12b_tab : rtab .any (opsOf Tryz.f12 6) = f8b_T := by kernel_rfl
theorem r12c_tab : rtab .any (opsOf Tryz.f12 10) = f8c_T := by kernel_rfl
def figR1 (fb : Int) (n : List Int) : Fg := if fb = 115 ∧ n.length = 3 then ⟨1, n.getD 0 0, [], n.getD 1 0, n.getD 2 0⟩ else zeroFg
def figR (fb : Int) (n : List Int) : Fg := if fb = 115 ∧ n.length = 3 then ⟨1, n.getD 0 0, [], n.getD 1 0, n.getD 2 0⟩ else if fb = 97 ∧ 2 ≤ n.length then ⟨2, 0, pairs (n.drop 2), n.getD 0 0, n.getD 1 0⟩ else zeroFg
def fbOf (s : ByteArray) : Int := if 0 < s.size then bt s 0 else -1
def parseR (s : ByteArray) : Option Fg := if prB (figR (fbOf s) (vF (bytesI s)).1) = true ∧ printF chkF (figR (fbOf s) (vF (bytesI s)).1) = some s.data.toList then some (figR (fbOf s) (vF (bytesI s)).1) else none
def PrOutR (w : World) (s : ByteArray) (en : Ending) (w' : World) : Prop := ∃ (k st lo hi : Int) (b : Bool) (A : Option Addr) (n c : Nat),
  en = .returned (.tuple #[.agg #[.int .i64 k, .int .i64 st, .slice A n c, .int .i64 lo, .int .i64 hi], .bool b]) ∧ Below w.heap.size w w' ∧
  match parseR s with
  | none => b = false ∧ k = 0 ∧ st = 0 ∧ lo = 0 ∧ hi = 0 ∧ A = none ∧ n = 0 ∧ c = 0
  | some f => b = true ∧ f.kind = k ∧ f.site = st ∧ f.lo = lo ∧ f.hi = hi ∧ f.ar.length = n ∧ n ≤ c ∧ n ≤ 100000 ∧ Kd.C kP w' A f.ar.length f.ar
theorem vFold_len : ∀ (l : List Int) (st : List Int × Int × Int), (l.foldl vStep st).1.length ≤ st.1.length + l.length
  | [], st => by simp
  | b :: l, st => by
    rw [List.foldl_cons]
    have ih := vFold_len l (vStep st b)
    have : (vStep st b).1.length ≤ st.1.length + 1 := by
      unfold vStep
      split
      · split
        · simp
        · simp
      · split
        · simp
        · simp
    simp only [List.length_cons]
    omega
theorem vF_len (l : List Int) : (vF l).1.length ≤ l.length := by
  have := vFold_len l ([], -1, 0)
  unfold vF
  simpa using this
theorem prR_end {tmps : Array Value} {w0 w1 : World} {s : ByteArray} {g2 : Nat} {k st lo hi : Int} {b : Bool} {A : Option Addr} {n c : Nat} (h2 : tmps[2]? = some (.pointer (some ⟨g2, 0, none⟩))) (h3 : tmps[3]? = some (.bool b))
    (B2 : w1.heap[g2]? = some (.cells #[.int .i64 k, .int .i64 st, .slice A n c, .int .i64 lo, .int .i64 hi] 26 (0, 0))) (hB : Below w0.heap.size w0 w1)
    (hm : match parseR s with
      | none => b = false ∧ k = 0 ∧ st = 0 ∧ lo = 0 ∧ hi = 0 ∧ A = none ∧ n = 0 ∧ c = 0
      | some f => b = true ∧ f.kind = k ∧ f.site = st ∧ f.lo = lo ∧ f.hi = hi ∧ f.ar.length = n ∧ n ≤ c ∧ n ≤ 100000 ∧ Kd.C kP w1 A f.ar.length f.ar) :
    bodyPost Tryz.prog Tryz.f12 (PrOutR w0 s) .ret { tmps := tmps, defers := [] } w1 := by
  obtain ⟨z0, z1, z2, z3, z4, _⟩ := cb5 B2
  have hu26 := Tryz.underlying26
  have hu24 := Tryz.underlying24
  refine bodyPost_ret (v := .tuple #[.agg #[.int .i64 k, .int .i64 st, .slice A n c, .int .i64 lo, .int .i64 hi], .bool b]) ?_ rfl ⟨k, st, lo, hi, b, A, n, c, rfl, hB, hm⟩
  simp [results, Tryz.f12, go_sem, h2, h3, z0, z1, z2, z3, z4]
set_option maxHeartbeats 8000000 in
set_option maxRecDepth 100000 in
theorem parseR_calls {w : World} {s : ByteArray} (hs : s.size ≤ 100000) : Calls Tryz.prog 12 #[.string s] w (PrOutR w s) := by
  have hu26 := Tryz.underlying26
  have hu24 := Tryz.underlying24
  have hu22 := Tryz.underlying22
  have hu58 := Tryz.underlying58
  go_enter Tryz.func12, Tryz.ntmps12
  go_upto_region 0 with fail
  go_cut [2, 3] from 2 to 3 (fun s2 s3 wc => ∃ g2, s2 = .pointer (some ⟨g2, 0, none⟩) ∧ s3 = .bool false ∧ wc.heap[g2]? = some (.cells #[.int .i64 0, .int .i64 0, .slice none 0 0, .int .i64 0, .int .i64 0] 26 (0, 0)) ∧ w.heap.size ≤ g2 ∧ Below w.heap.size w wc)
  case first =>
    go_wp2_with fail
    go_meet
    case rel => exact ⟨_, rfl, rfl, blk_new w _, Nat.le_refl _, (Below.refl _ w).alloc (Nat.le_refl _) _⟩
  obtain ⟨g2, rfl, rfl, B2, hg2, HB⟩ := hcut
  replace B2 := ak B2
  replace HB := ak HB
  go_upto_region 1 with fail
  go_cut [4] from 4 to 8 (fun s4 wx => ∃ A6 k6, s4 = .slice A6 (vF (bytesI s)).1.length k6 ∧ Kd.R kI 3 wx w.heap.size (fun _ => True) (.slice A6 (vF (bytesI s)).1.length k6) (vF (bytesI s)).1 ∧ Below wc.heap.size wc wx)
  case first =>
    go_wp2_with (first | (go_at_call 37; (with_reducible refine (values_calls hs).mono ?_); rintro en w2 ⟨A6, n6, k6, rfl, rfl, hR6, hb2⟩) | fail)
    go_meet
    case rel => exact ⟨A6, k6, rfl, Kd.R_lower hR6 HB.out.size, hb2⟩
  obtain ⟨A6, k6, rfl, hR, hb2⟩ := hcut
  replace hR := ak hR
  replace B2 := ak (blk_below B2.out hb2)
  replace HB := ak (below_step HB.out hb2)
  clear hb2
  have hnl : (vF (bytesI s)).1.length ≤ 100000 := Nat.le_trans (vF_len _) (by unfold bytesI; simpa using hs)
  have hpe := ak (show parseR s = if prB (figR (fbOf s) (vF (bytesI s)).1) = true ∧ printF chkF (figR (fbOf s) (vF (bytesI s)).1) = some s.data.toList then some (figR (fbOf s) (vF (bytesI s)).1) else none from rfl)
  have hx0 : ∀ h : 0 < s.size, ((s[0]'h).toNat : Int) = bt s 0 := fun h => bt_at s 0 h
  have hfb : (0 < s.size → fbOf s = bt s 0) ∧ (¬ 0 < s.size → fbOf s = -1) := ⟨fun h => by unfold fbOf; rw [if_pos h], fun h => by unfold fbOf; rw [if_neg h]⟩
  generalize (vF (bytesI s)).1 = ns at hR hnl hpe
  generalize fbOf s = fb at hfb hpe
  generalize bt s 0 = b0 at hfb hx0
  replace hnl := ak hnl
  go_upto_region 2 with fail
  go_cut [5] from 5 to 5 (fun v wx => ∃ g10, v = .pointer (some ⟨g10, 0, none⟩) ∧ wx.heap[g10]? = some (.cells #[.int .i64 0, .int .i64 0, .slice none 0 0, .int .i64 0, .int .i64 0] 26 (0, 0)) ∧ wc.heap.size ≤ g10 ∧ Below wc.heap.size wc wx)
  case first =>
    go_wp2_with fail
    go_meet
    case rel => exact ⟨_, rfl, blk_new wc _, Nat.le_refl _, (Below.refl _ wc).alloc (Nat.le_refl _) _⟩
  obtain ⟨g10, rfl, B10, hg10, hb2⟩ := hcut
  have hne : g10 ≠ g2 := by have := blk_lt B2.out; omega
  have hg10' : w.heap.size ≤ g10 := by have := HB.out.size; omega
  replace B2 := ak (blk_below B2.out hb2)
  replace HB := ak (below_step HB.out hb2)
  replace hR := ak (Kd.R_below hR.out hb2)
  replace B10 := ak B10
  clear hb2 hg10
  go_step
  go_step
  go_cut [9] from 9 to 32 (fun _ wx => wx.heap[g10]? = some (.cells #[.int .i64 (figR1 fb ns).kind, .int .i64 (figR1 fb ns).site, .slice none 0 0, .int .i64 (figR1 fb ns).lo, .int .i64 (figR1 fb ns).hi] 26 (0, 0)) ∧ wx.heap[g2]? = some (.cells #[.int .i64 0, .int .i64 0, .slice none 0 0, .int .i64 0, .int .i64 0] 26 (0, 0)) ∧ Kd.R kI 3 wx w.heap.size (fun _ => True) (.slice A6 ns.length k6) ns ∧ Below w.heap.size w wx)
  case first =>
    have zero : ¬ (fb = 115 ∧ ns.length = 3) → figR1 fb ns = zeroFg := fun h => by unfold figR1; rw [if_neg h]
    by_cases h0 : 0 < s.size
    · have c0 : decide ((s.size : Int) > 0) = true := decide_eq_true (by omega)
      have c0' : decide (0 < (s.size : Int)) = true := decide_eq_true (by omega)
      have q0 : (0 < (s.size : Int)) = True := eq_true (by omega)
      have q0n : (0 < s.size) = True := eq_true h0
      have hf0 := hfb.1 h0
      clear hfb
      by_cases h1 : fb = 115
      · have e1 : (b0 == 115) = true := beq_iff_eq.2 (by omega)
        by_cases h3 : ns.length = 3
        · have c3 : ((ns.length : Int) == 3) = true := beq_iff_eq.2 (by omega)
          obtain ⟨gn, cap, ev, gnb, gnl, HG⟩ := Kd.R_form hR.out (by omega)
          cases ev
          obtain ⟨v0, v1, v2, e3⟩ : ∃ v0 v1 v2, ns = [v0, v1, v2] := by
            match ns, h3 with
            | [a, b, c], _ => exact ⟨a, b, c, rfl⟩
          have y0 := kI_cell (Kd.R_drew hR.out) 0 v0 (by rw [e3]; rfl)
          have y1 := kI_cell (Kd.R_drew hR.out) 1 v1 (by rw [e3]; rfl)
          have y2 := kI_cell (Kd.R_drew hR.out) 2 v2 (by rw [e3]; rfl)
          have hf : figR1 fb ns = ⟨1, v0, [], v1, v2⟩ := by
            unfold figR1
            rw [if_pos ⟨h1, h3⟩, e3]
            rfl
          replace e3 := ak e3
          replace hf := ak hf
          have hRd := Kd.R_drew hR.out
          replace h3 := ak h3
          clear zero
          go_upto_region 4 with fail
          have hXd := below_drew1 (Below.refl wc.heap.size wc)
          replace B2 := ak (blk_below B2.out hXd)
          replace B10 := ak (blk_below B10.out hXd)
          replace HB := ak (below_step HB.out hXd)
          have l0 : (0 < (ns.length : Int)) = True := eq_true (by have := h3.out; omega)
          have l1 : (1 < (ns.length : Int)) = True := eq_true (by have := h3.out; omega)
          have l2 : (2 < (ns.length : Int)) = True := eq_true (by have := h3.out; omega)
          have l0n : (0 < ns.length) = True := eq_true (by have := h3.out; omega)
          have l1n : (1 < ns.length) = True := eq_true (by have := h3.out; omega)
          have l2n : (2 < ns.length) = True := eq_true (by have := h3.out; omega)
          clear hXd
          refine start_ (n := 12) (S := fun w' => w'.cell? ⟨gn, 0, none⟩ = some (.int .i64 v0) ∧ w'.cell? ⟨gn, 1, none⟩ = some (.int .i64 v1) ∧ w'.cell? ⟨gn, 2, none⟩ = some (.int .i64 v2)) (ds := [11]) #[false, false, false, false, false, false, false, false, false, false, false, false] kr rfl rfl ⟨y0, y1, y2⟩ (fun hHeld => ?_); refine with_tabW r12a_tab f8a_bits (fun HT_ HW_ => ?_)
          clear y0 y1 y2
          generalize wc.drew = wd at B2 B10 HB hRd hHeld ⊢
          refine pS 0 (some 22) ?_
          refine pS 1 (some 23) ?_
          refine pT 2 (some 24) ?_
          refine pS 3 (some 25) ?_
          refine pS 4 (some 26) ?_
          refine pT 5 (some 27) ?_
          refine pS 6 (some 28) ?_
          refine pS 7 (some 29) ?_
          refine pT 8 (some 30) ?_
          refine pS 9 (some 31) ?_
          refine pS 10 (some 32) ?_
          obtain ⟨z100, z101, z102, z103, z104, f100, f101, f102, f103, f104⟩ := cb5 B10.out
          refine last_ (i := 11) (N := none) #[true, true, true, true, true, true, true, true, true, true, true, true] rfl rfl (one_of HT_.out kr) (by decide) (fun K hK => ?_)
          refine skip_ (w1 := ((((wd.setCell ⟨g10, 0, none⟩ (.int .i64 1)).setCell ⟨g10, 1, none⟩ (.int .i64 v0)).setCell ⟨g10, 2, none⟩ (.slice none 0 0)).setCell ⟨g10, 3, none⟩ (.int .i64 v1)).setCell ⟨g10, 4, none⟩ (.int .i64 v2)) (by rfl) rfl (by go_simp; done) ?_
          refine hK.out _ _ ?_
          clear hK K
          refine Go.Proofs.YtnifkpljhfpdlaaGreatDoorW.PrintLast.done_ (done_of HT_.out kr) ?_
          try go_wp2
          go_meet
          case rel =>
            obtain ⟨q0, q1, q2, _⟩ := set5 B10.out (.int .i64 1) (.int .i64 v0) (.slice none 0 0) (.int .i64 v1) (.int .i64 v2) rfl
            rw [hf.out]
            exact ⟨q0, q2 _ _ _ (fun e => hne e.symm) B2.out, Kd.R_set (Kd.R_set (Kd.R_set (Kd.R_set (Kd.R_set hRd B10.out (by decide) 0 _) (blk_put (cs' := #[.int .i64 1, .int .i64 0, .slice none 0 0, .int .i64 0, .int .i64 0]) B10.out 0 _ rfl) (by decide) 1 _) (blk_put (cs' := #[.int .i64 1, .int .i64 v0, .slice none 0 0, .int .i64 0, .int .i64 0]) (blk_put (cs' := #[.int .i64 1, .int .i64 0, .slice none 0 0, .int .i64 0, .int .i64 0]) B10.out 0 _ rfl) 1 _ rfl) (by decide) 2 _) (blk_put (cs' := #[.int .i64 1, .int .i64 v0, .slice none 0 0, .int .i64 0, .int .i64 0]) (blk_put (cs' := #[.int .i64 1, .int .i64 v0, .slice none 0 0, .int .i64 0, .int .i64 0]) (blk_put (cs' := #[.int .i64 1, .int .i64 0, .slice none 0 0, .int .i64 0, .int .i64 0]) B10.out 0 _ rfl) 1 _ rfl) 2 _ rfl) (by decide) 3 _) (blk_put (cs' := #[.int .i64 1, .int .i64 v0, .slice none 0 0, .int .i64 v1, .int .i64 0]) (blk_put (cs' := #[.int .i64 1, .int .i64 v0, .slice none 0 0, .int .i64 0, .int .i64 0]) (blk_put (cs' := #[.int .i64 1, .int .i64 v0, .slice none 0 0, .int .i64 0, .int .i64 0]) (blk_put (cs' := #[.int .i64 1, .int .i64 0, .slice none 0 0, .int .i64 0, .int .i64 0]) B10.out 0 _ rfl) 1 _ rfl) 2 _ rfl) 3 _ rfl) (by decide) 4 _, q1 w hg10' HB.out⟩
        · have c3 : ((ns.length : Int) == 3) = false := beq_eq_false_iff_ne.2 (by omega)
          have hz := ak (zero (fun h => h3 h.2))
          clear zero
          go_wp2_with fail
          go_meet
          case rel => rw [hz.out]; exact ⟨B10.out, B2.out, hR.out, HB.out⟩
      · have e1 : (b0 == 115) = false := beq_eq_false_iff_ne.2 (by omega)
        have hz := ak (zero (fun h => h1 h.1))
        clear zero
        go_wp2_with fail
        go_meet
        case rel => rw [hz.out]; exact ⟨B10.out, B2.out, hR.out, HB.out⟩
    · have c0 : decide ((s.size : Int) > 0) = false := decide_eq_false (by omega)
      have c0' : decide (0 < (s.size : Int)) = false := decide_eq_false (by omega)
      have hz := ak (zero (fun h => by have := hfb.2 h0; omega))
      clear zero hfb
      go_wp2_with fail
      go_meet
      case rel => rw [hz.out]; exact ⟨B10.out, B2.out, hR.out, HB.out⟩
  obtain ⟨B10, B2, hR, HB⟩ := hcut
  replace B10 := ak B10
  replace B2 := ak B2
  replace hR := ak hR
  replace HB := ak HB
  go_step
  go_step
  go_cut [33] from 33 to 75 (fun _ wx => ∃ (A : Option Addr) (n c : Nat), wx.heap[g10]? = some (.cells #[.int .i64 (figR fb ns).kind, .int .i64 (figR fb ns).site, .slice A n c, .int .i64 (figR fb ns).lo, .int .i64 (figR fb ns).hi] 26 (0, 0)) ∧ n = (figR fb ns).ar.length ∧ n ≤ c ∧ n ≤ 100000 ∧ CF wx g2 A (figR fb ns).ar.length (figR fb ns).ar ∧ wx.heap[g2]? = some (.cells #[.int .i64 0, .int .i64 0, .slice none 0 0, .int .i64 0, .int .i64 0] 26 (0, 0)) ∧ Below w.heap.size w wx)
  case first =>
    have nil : figR fb ns = figR1 fb ns → (figR1 fb ns).ar = [] → ∃ (A : Option Addr) (n c : Nat), wc.heap[g10]? = some (.cells #[.int .i64 (figR fb ns).kind, .int .i64 (figR fb ns).site, .slice A n c, .int .i64 (figR fb ns).lo, .int .i64 (figR fb ns).hi] 26 (0, 0)) ∧ n = (figR fb ns).ar.length ∧ n ≤ c ∧ n ≤ 100000 ∧ CF wc g2 A (figR fb ns).ar.length (figR fb ns).ar ∧ wc.heap[g2]? = some (.cells #[.int .i64 0, .int .i64 0, .slice none 0 0, .int .i64 0, .int .i64 0] 26 (0, 0)) ∧ Below w.heap.size w wc := fun e e' => by
      rw [e, e']
      exact ⟨none, 0, 0, B10.out, rfl, by decide, by decide, cf_nil _ _, B2.out, HB.out⟩
    by_cases hS : fb = 115 ∧ ns.length = 3
    · have e1 : figR fb ns = figR1 fb ns := by unfold figR figR1; rw [if_pos hS, if_pos hS]
      have e2 : (figR1 fb ns).ar = [] := by unfold figR1; rw [if_pos hS]
      have hz := ak (nil e1 e2)
      have h0 : 0 < s.size := by
        rcases Nat.lt_or_ge 0 s.size with h | h
        · exact h
        · have := hfb.2 (by omega); omega
      have c0 : decide ((s.size : Int) > 0) = true := decide_eq_true (by omega)
      have c0' : decide (0 < (s.size : Int)) = true := decide_eq_true (by omega)
      have q0 : (0 < (s.size : Int)) = True := eq_true (by omega)
      have q0n : (0 < s.size) = True := eq_true h0
      have e3 : (b0 == 97) = false := beq_eq_false_iff_ne.2 (by have := hfb.1 h0; omega)
      clear nil e1 e2 hfb hS
      go_wp2_with fail
      go_meet
      case rel => exact hz.out
    · have hz1 : figR1 fb ns = zeroFg := by unfold figR1; rw [if_neg hS]
      have zero : ¬ (fb = 97 ∧ 2 ≤ ns.length) → figR fb ns = figR1 fb ns := fun h => by unfold figR figR1; rw [if_neg hS, if_neg hS, if_neg h]
      have e2 : (figR1 fb ns).ar = [] := by rw [hz1]; rfl
      by_cases h0 : 0 < s.size
      · have c0 : decide ((s.size : Int) > 0) = true := decide_eq_true (by omega)
        have c0' : decide (0 < (s.size : Int)) = true := decide_eq_true (by omega)
        have q0 : (0 < (s.size : Int)) = True := eq_true (by omega)
        have q0n : (0 < s.size) = True := eq_true h0
        have hf0 := hfb.1 h0
        clear hfb
        by_cases h1 : fb = 97
        · have e1 : (b0 == 97) = true := beq_iff_eq.2 (by omega)
          by_cases h2 : 2 ≤ ns.length
          · have c2 : 2 ≤ (ns.length : Int) := by omega
            clear zero nil e2
            rw [hz1] at B10
            clear hz1
            obtain ⟨gn, cap, ev, gnb, gnl, HG⟩ := Kd.R_form hR.out (by omega)
            cases ev
            obtain ⟨v0, e0⟩ : ∃ v, ns[0]? = some v := ⟨_, List.getElem?_eq_getElem (by omega)⟩
            obtain ⟨v1, e1⟩ : ∃ v, ns[1]? = some v := ⟨_, List.getElem?_eq_getElem (by omega)⟩
            have y0 := kI_cell (Kd.R_drew hR.out) 0 v0 e0
            have y1 := kI_cell (Kd.R_drew hR.out) 1 v1 e1
            have hf : figR fb ns = ⟨2, 0, pairs (ns.drop 2), v0, v1⟩ := by
              unfold figR
              rw [if_neg (fun h => by omega), if_pos ⟨h1, h2⟩]
              simp only [List.getD_eq_getElem?_getD, e0, e1, Option.getD_some]
            obtain ⟨cs3, HG⟩ := HG
            have hcs : ∀ j v, ns[j]? = some v → cs3[j]? = some (Value.int .i64 v) := fun j v hj => (blk_cell HG j).symm.trans (kI_cell hR.out j v hj)
            have hpl := pairs_len _ (ns.drop 2) (Nat.le_refl _)
            rw [List.length_drop] at hpl
            replace hf := ak hf
            replace hcs := ak hcs
            have hnl0 := hnl.out
            go_upto_region 6 with fail
            have hXd := below_drew1 (Below.refl wc.heap.size wc)
            replace B2 := ak (blk_below B2.out hXd)
            replace B10 := ak (blk_below B10.out hXd)
            replace HG := ak (blk_below HG hXd)
            replace HB := ak (below_step HB.out hXd)
            have l0 : (0 < (ns.length : Int)) = True := eq_true (by omega)
            have l1 : (1 < (ns.length : Int)) = True := eq_true (by omega)
            have l0n : (0 < ns.length) = True := eq_true (by omega)
            have l1n : (1 < ns.length) = True := eq_true (by omega)
            clear hXd
            refine start_ (n := 9) (S := fun w' => w'.cell? ⟨gn, 0, none⟩ = some (.int .i64 v0) ∧ w'.cell? ⟨gn, 1, none⟩ = some (.int .i64 v1)) (ds := [8]) #[false, false, false, false, false, false, false, false, false] kr rfl rfl ⟨y0, y1⟩ (fun hHeld => ?_); refine with_tabW r12b_tab f8b_bits (fun HT_ HW_ => ?_)
            clear y0 y1
            generalize wc.drew = wd at B2 B10 HG HB hHeld ⊢
            refine pS 0 (some 46) ?_
            refine pS 1 (some 47) ?_
            refine pT 2 (some 48) ?_
            refine pS 3 (some 49) ?_
            refine pS 4 (some 50) ?_
            refine pT 5 (some 51) ?_
            refine pS 6 (some 52) ?_
            refine pS 7 (some 53) ?_
            obtain ⟨z100, z101, z102, z103, z104, f100, f101, f102, f103, f104⟩ := cb5 B10.out
            refine last_ (i := 8) (N := none) #[true, true, true, true, true, true, true, true, true] rfl rfl (one_of HT_.out kr) (by decide) (fun K hK => ?_)
            refine skip_ (w1 := ((((wd.setCell ⟨g10, 0, none⟩ (.int .i64 2)).setCell ⟨g10, 1, none⟩ (.int .i64 0)).setCell ⟨g10, 2, none⟩ (.slice none 0 0)).setCell ⟨g10, 3, none⟩ (.int .i64 v0)).setCell ⟨g10, 4, none⟩ (.int .i64 v1)) (by rfl) rfl (by go_simp; done) ?_
            refine hK.out _ _ ?_
            clear hK K
            refine Go.Proofs.YtnifkpljhfpdlaaGreatDoorW.PrintLast.done_ (done_of HT_.out kr) ?_
            clear HT_ HW_ hHeld z100 z101 z102 z103 z104 f100 f101 f102 f103 f104
            obtain ⟨q0, q1, q2, _⟩ := set5 B10.out (.int .i64 2) (.int .i64 0) (.slice none 0 0) (.int .i64 v0) (.int .i64 v1) rfl
            generalize hwe : ((((wd.setCell ⟨g10, 0, none⟩ (.int .i64 2)).setCell ⟨g10, 1, none⟩ (.int .i64 0)).setCell ⟨g10, 2, none⟩ (.slice none 0 0)).setCell ⟨g10, 3, none⟩ (.int .i64 v0)).setCell ⟨g10, 4, none⟩ (.int .i64 v1) = we at q0 q1 q2 ⊢
            clear hwe
            replace HG := ak (q2 _ _ _ (blk_ne HG.out B10.out (by decide)) HG.out)
            replace B2 := ak (q2 _ _ _ (fun e => hne e.symm) B2.out)
            replace HB := ak (q1 w hg10' HB.out)
            replace q0 := ak q0
            clear q1 q2 B10 hR
            go_wp2
            go_loopg [6] (pairs (ns.drop 2)).length (fun kq v6 w' => ∃ (j : Nat) (x : Int) (v : Value), v6 = .int .i64 x ∧ Aside0 (x = 2 + 2 * (j : Int) ∧ j + kq = (pairs (ns.drop 2)).length) ∧ Aside0 (w'.heap[g10]? = some (.cells #[.int .i64 2, .int .i64 0, v, .int .i64 v0, .int .i64 v1] 26 (0, 0)) ∧ Kd.R kP 35 w' w.heap.size (fun _ => True) v ((pairs (ns.drop 2)).take j)) ∧ Aside0 (w'.heap[gn]? = some (.cells cs3 3 (0, 0)) ∧ w'.heap[g2]? = some (.cells #[.int .i64 0, .int .i64 0, .slice none 0 0, .int .i64 0, .int .i64 0] 26 (0, 0)) ∧ Below w.heap.size w w'))
            case atStart => exact ⟨0, 2, _, rfl, ⟨rfl, by omega⟩, ⟨q0.out, Kd.R_nil _ _ _ _ _⟩, ⟨HG.out, B2.out, HB.out⟩⟩
            case round =>
              clear q0 HG B2 HB
              obtain ⟨j, x, v, rfl, ⟨hx, hj⟩, ⟨B10, hRp⟩, ⟨HG, B2, HB⟩⟩ := hrel
              cases gk with
              | zero =>
                have c5 : decide (wrap64 (x + 1) < (ns.length : Int)) = false := decide_eq_false (by rw [wrapN (by omega) (by omega)]; omega)
                rw [List.take_of_length_le (by omega)] at hRp
                obtain ⟨Ap, kp, ev⟩ := Kd.R_slice hRp
                subst ev
                clear hx hj
                go_wp2
                go_meet
                case rel =>
                  rw [hf.out]
                  exact ⟨Ap, _, kp, B10, rfl, (Kd.R_reads' hRp).2.1, by omega, cf_row hRp B2 (by decide), B2, HB⟩
              | succ k1 =>
                have hlt : j < (pairs (ns.drop 2)).length := by omega
                have c5 : decide (wrap64 (x + 1) < (ns.length : Int)) = true := decide_eq_true (by rw [wrapN (by omega) (by omega)]; omega)
                obtain ⟨p, hp⟩ : ∃ p, (pairs (ns.drop 2))[j]? = some p := ⟨_, List.getElem?_eq_getElem hlt⟩
                obtain ⟨hp1, hp2⟩ := pairs_get _ (ns.drop 2) (Nat.le_refl _) j p hp
                rw [List.getElem?_drop] at hp1 hp2
                have hxw : wrap64 (x + 1) = x + 1 := wrapN (by omega) (by omega)
                have hxw2 : Aside0 (wrap64 (x + 2) = 2 + 2 * ((j + 1 : Nat) : Int)) := ⟨by rw [wrapN (by omega) (by omega)]; omega⟩
                have px : (0 ≤ x) = True := eq_true (by omega)
                have qx : (x < (ns.length : Int)) = True := eq_true (by omega)
                have px1 : (0 ≤ wrap64 (x + 1)) = True := eq_true (by omega)
                have qx1 : (wrap64 (x + 1) < (ns.length : Int)) = True := eq_true (by omega)
                have HGd := blk_below HG (below_drew1 (Below.refl wr.heap.size wr))
                have yx : ∀ W : World, W.heap[gn]? = some (.cells cs3 3 (0, 0)) → W.cell? ⟨gn, x.toNat, none⟩ = some (.int .i64 p.x) := fun W h => (blk_cell h _).trans (by rw [show x.toNat = 2 + 2 * j by omega]; exact hcs.out _ _ hp1)
                have yy : ∀ W : World, W.heap[gn]? = some (.cells cs3 3 (0, 0)) → W.cell? ⟨gn, (wrap64 (x + 1)).toNat, none⟩ = some (.int .i64 p.y) := fun W h => (blk_cell h _).trans (by rw [show (wrap64 (x + 1)).toNat = 2 + (2 * j + 1) by omega]; exact hcs.out _ _ hp2)
                have hal : (pairs (ns.drop 2)).take (j + 1) = (pairs (ns.drop 2)).take j ++ [p] := by rw [List.take_add_one, hp]; rfl
                have hptl : ((pairs (ns.drop 2)).take j).length = j := by rw [List.length_take]; omega
                clear hxw hp1 hp2 hp
                replace hal := ak hal
                replace hx := ak hx
                replace hj := ak hj
                have hcap := ak (show (((pairs (ns.drop 2)).take j).length + 1) * 16 ≤ 140737488355328 by omega)
                clear hptl
                generalize (pairs (ns.drop 2)).take j = pts at hRp hal hcap
                obtain ⟨Ap, kp, ev⟩ := Kd.R_slice hRp
                subst ev
                replace yx := ak yx
                replace yy := ak yy
                go_upto_region 10 with fail
                have hXd := below_drew1 (Below.refl wr.heap.size wr)
                replace B10 := blk_below B10 hXd
                replace HG := blk_below HG hXd
                replace B2 := blk_below B2 hXd
                replace HB := below_step HB hXd
                replace hRp := Kd.R_below hRp hXd
                clear hXd HGd
                refine start_ (n := 16) (S := fun w' => w'.cell? ⟨g10, 2, none⟩ = some (.slice Ap pts.length kp) ∧ w'.cell? ⟨gn, x.toNat, none⟩ = some (.int .i64 p.x) ∧ w'.cell? ⟨gn, (wrap64 (x + 1)).toNat, none⟩ = some (.int .i64 p.y)) (ds := [15]) #[false, false, false, false, false, false, false, false, false, false, false, false, false, false, false, false] kr rfl rfl ⟨(blk_cell B10 2).trans rfl, yx.out _ HG, yy.out _ HG⟩ (fun hHeld => ?_); refine with_tabW r12c_tab f8c_bits (fun HT_ HW_ => ?_)
                generalize wr.drew = w1 at B2 B10 HG HB hRp hHeld ⊢
                refine pS 0 (some 61) ?_
                refine pT 1 (some 62) ?_
                refine pS 2 (some 63) ?_
                refine pS 3 (some 64) ?_
                refine pS 4 (some 65) ?_
                refine pT 5 (some 66) ?_
                refine pS 6 (some 67) ?_
                refine pS 7 (some 68) ?_
                refine pS 8 (some 69) ?_
                refine pS 9 (some 70) ?_
                refine pT 10 (some 71) ?_
                refine pS 11 (some 72) ?_
                refine one_ (i := 12) (N := some 73) #[true, true, true, true, true, true, true, true, true, true, true, true, true, false, false, false] rfl rfl (one_of HT_.out kr) (by decide) (fun K hK => ?_)
                refine value_ (w1 := ?_) (v := ?_) (by rfl) rfl ?_ ?_
                rotate_left 2
                · go_simp
                  constructor
                  · rfl
                  · rfl
                have B10a := blk_alloc B10 (.cells [Value.int .i64 p.x, .int .i64 p.y].toArray 35)
                have HGa := blk_alloc HG (.cells [Value.int .i64 p.x, .int .i64 p.y].toArray 35)
                have B2a := blk_alloc B2 (.cells [Value.int .i64 p.x, .int .i64 p.y].toArray 35)
                refine hK.out _ _ ⟨(blk_cell B10a 2).trans rfl, yx.out _ HGa, yy.out _ HGa⟩ (fun hHeld => ?_)
                clear hK K
                refine norm_ (a' := ?_) ?_ ?_
                rotate_left
                · show Act.put _ (some 73) _ = _
                  simp only [Act.put, List.setIfInBounds_toArray, List.set_cons_zero, List.set_cons_succ, i64_w, i32_w]
                  rfl
                refine one_ (i := 13) (N := some 74) #[true, true, true, true, true, true, true, true, true, true, true, true, true, true, false, false] rfl rfl (one_of HT_.out kr) (by decide) (fun K hK => ?_)
                refine Kd.R_append_step kP (w0 := w) w.heap.size (by rfl) (.tmp 62) (.tmp 73) 22 35 (.agg #[.int .i64 0, .int .i64 0]) 16 rfl Tryz.underlying22 info35 rfl (by decide) (by omega) (.slice Ap pts.length kp) pts p [.int .i64 p.x, .int .i64 p.y] (fun _ => True) (fun _ => False) rfl rfl (kP_mkM _ _ _ _) (fun _ hk => hk.elim) (fun _ _ => trivial) hRp HB HB.size hcap.out ?_
                intro v3 w3 ho3 hb3 hg3 _
                have B10b := blk_grown B10 hg3 (Kd.R_ne hRp B10 (by decide))
                have HGb := blk_grown HG hg3 (Kd.R_ne hRp HG (by decide))
                have B2b := blk_grown B2 hg3 (Kd.R_ne hRp B2 (by decide))
                refine hK.out _ _ ⟨(blk_cell B10b 2).trans rfl, yx.out _ HGb, yy.out _ HGb⟩ (fun hHeld => ?_)
                clear hK K
                refine norm_ (a' := ?_) ?_ ?_
                rotate_left
                · show Act.put _ (some 74) _ = _
                  simp only [Act.put, List.setIfInBounds_toArray, List.set_cons_zero, List.set_cons_succ, i64_w, i32_w]
                  rfl
                refine pS 14 (some 75) ?_
                have z4 : w3.cell? ⟨g10, 2, none⟩ = some (.slice Ap pts.length kp) := (blk_cell B10b 2).trans rfl
                have f4 := blk_frozen B10b 2
                refine last_ (i := 15) (N := none) #[true, true, true, true, true, true, true, true, true, true, true, true, true, true, true, true] rfl rfl (one_of HT_.out kr) (by decide) (fun K hK => ?_)
                obtain ⟨A3, k3, e3⟩ := Kd.R_slice ho3
                generalize (pts ++ [p]).length = L at e3
                subst e3
                refine skip_ (w1 := w3.setCell ⟨g10, 2, none⟩ (.slice A3 L k3)) (by rfl) rfl (by go_simp; done) ?_
                refine hK.out _ _ ?_
                clear hK K
                have B10c := blk_put (cs' := #[.int .i64 2, .int .i64 0, .slice A3 L k3, .int .i64 v0, .int .i64 v1]) B10b 2 (.slice A3 L k3) rfl
                have hRc := Kd.R_set ho3 B10b (by decide) 2 (.slice A3 L k3)
                have HBc := below_set (j := 2) (v := .slice A3 L k3) hb3 hg10'
                have HGc := blk_far HGb (p := ⟨g10, 2, none⟩) (blk_ne HGb B10b (by decide)) (.slice A3 L k3)
                have B2c := blk_far B2b (p := ⟨g10, 2, none⟩) (fun e => hne e.symm) (.slice A3 L k3)
                refine Go.Proofs.YtnifkpljhfpdlaaGreatDoorW.PrintLast.done_ (done_of HT_.out kr) ?_
                try go_wp2
                go_roundg k1
                case measure => omega
                case rel => exact ⟨j + 1, wrap64 (x + 2), _, rfl, ⟨hxw2.out, by have := hj.out; omega⟩, ⟨B10c, by rw [hal.out]; exact hRc⟩, ⟨HGc, B2c, HBc⟩⟩
          · have c2 : ¬ 2 ≤ (ns.length : Int) := by omega
            have hz := ak (nil (zero (fun h => h2 h.2)) e2)
            clear zero nil e2 hz1
            go_wp2_with fail
            go_meet
            case rel => exact hz.out
        · have e1 : (b0 == 97) = false := beq_eq_false_iff_ne.2 (by omega)
          have hz := ak (nil (zero (fun h => h1 h.1)) e2)
          clear zero nil e2 hz1
          go_wp2_with fail
          go_meet
          case rel => exact hz.out
      · have c0 : decide ((s.size : Int) > 0) = false := decide_eq_false (by omega)
        have c0' : decide (0 < (s.size : Int)) = false := decide_eq_false (by omega)
        have hz := ak (nil (zero (fun h => by have := hfb.2 h0; omega)) e2)
        clear zero nil e2 hz1 hfb
        go_wp2_with fail
        go_meet
        case rel => exact hz.out
  obtain ⟨A, n, c, B10, hn, hnc, hn1, hCF, B2, HB⟩ := hcut
  generalize figR fb ns = f at B10 hn hCF hpe
  subst hn
  have hC := hCF wc (fun _ _ _ => rfl)
  have hpr1 := printableR_calls f (c := c) hC (by omega)
  go_upto_region 11 with fail
  obtain ⟨z100, z101, z102, z103, z104, _⟩ := cb5 B10
  have hS := ByteArray.toList_eq s
  have fin0 : ∀ (wy : World), Below wc.heap.size wc wy → ∀ (tmps : Array Value) (W : World), parseR s = none → tmps[2]? = some (.pointer (some ⟨g2, 0, none⟩)) → tmps[3]? = some (.bool false) → (((((wy.setCell ⟨g2, 0, none⟩ (.int .i64 0)).setCell ⟨g2, 1, none⟩ (.int .i64 0)).setCell ⟨g2, 2, none⟩ (.slice none 0 0)).setCell ⟨g2, 3, none⟩ (.int .i64 0)).setCell ⟨g2, 4, none⟩ (.int .i64 0)) = W → bodyPost Tryz.prog Tryz.f12 (PrOutR w s) .ret { tmps := tmps, defers := [] } W := fun wy hb tmps W hn h1 h2 h3 => by
    obtain ⟨q0, q1, _⟩ := set5 (blk_below B2 hb) _ _ _ _ _ h3
    exact prR_end h1 h2 q0 (q1 w hg2 (below_step HB hb)) (by rw [hn]; exact ⟨rfl, rfl, rfl, rfl, rfl, rfl, rfl, rfl⟩)
  cases hp : prB f
  case false =>
    have hpn := ak (show parseR s = none by rw [hpe.out, if_neg (fun h => by rw [hp] at h; cases h.1)])
    rw [hp] at hpr1
    replace fin0 := ak fin0
    go_wp2_with (first | (go_at_call 13; (with_reducible refine hpr1.mono ?_); rintro en w2 ⟨rfl, hb2⟩; have C2 := blk_below B2 hb2; obtain ⟨z20, z21, z22, z23, z24, f20, f21, f22, f23, f24⟩ := cb5 C2) | fail)
    exact fin0.out _ hb2 _ _ hpn.out rfl rfl rfl
  case true =>
    rw [hp] at hpr1
    have hpr2 : ∀ w2, Below wc.heap.size wc w2 → Calls Tryz.prog 14 #[.agg #[.int .i64 f.kind, .int .i64 f.site, .slice A f.ar.length c, .int .i64 f.lo, .int .i64 f.hi]] w2 fun en w' => ∃ t, en = .returned (.string t) ∧ printF chkF f = some t.data.toList ∧ Below w2.heap.size w2 w' := fun w2 hb => printR_calls f (Kd.C_below hC hb) (by omega) hp
    replace hpr2 := ak hpr2
    by_cases hq : printF chkF f = some s.data.toList
    · have hps := ak (show parseR s = some f by rw [hpe.out, if_pos ⟨hp, hq⟩])
      replace hq := ak hq
      clear fin0
      go_wp2_with (first
        | (go_at_call 13; (with_reducible refine hpr1.mono ?_); rintro en w2 ⟨rfl, hb2⟩; clear z100 z101 z102 z103 z104; have D2 := blk_below B10 hb2; obtain ⟨z100, z101, z102, z103, z104, _⟩ := cb5 D2)
        | (go_at_call 14; (with_reducible refine (hpr2.out _ hb2).mono ?_); rintro en w3 ⟨t, rfl, ht, hb3⟩; have hts : t = s := (by have h1 := hq.out; rw [ht] at h1; exact WideShapes.bytes_inj (Option.some.inj h1)); subst hts; clear ht; have hb4 := hb2.trans (hb3.mono hb2.size); clear z100 z101 z102 z103 z104; have D3 := blk_below B10 hb4; obtain ⟨z100, z101, z102, z103, z104, _⟩ := cb5 D3; have C3 := blk_below B2 hb4; obtain ⟨z20, z21, z22, z23, z24, f20, f21, f22, f23, f24⟩ := cb5 C3)
        | fail)
      obtain ⟨q0, q1, q2, q3⟩ := set5 C3 (.int .i64 f.kind) (.int .i64 f.site) (.slice A f.ar.length c) (.int .i64 f.lo) (.int .i64 f.hi) rfl
      refine prR_end rfl rfl q0 (q1 w hg2 (below_step HB hb4)) ?_
      rw [hps.out]
      exact ⟨rfl, rfl, rfl, rfl, rfl, rfl, hnc, hn1, hCF _ (fun k hk hlt => (q3 k hk).trans (hb4.block k hlt))⟩
    · have hpn := ak (show parseR s = none by rw [hpe.out, if_neg (fun h => hq h.2)])
      have hne5 : ∀ t : ByteArray, printF chkF f = some t.data.toList → (t.toList == s.toList) = false := fun t ht => beq_eq_false_iff_ne.2 (fun h => by
        rw [ByteArray.toList_eq, hS] at h
        rw [h] at ht; exact hq ht)
      replace hne5 := ak hne5
      replace fin0 := ak fin0
      clear hq hS
      go_wp2_with (first
        | (go_at_call 13; (with_reducible refine hpr1.mono ?_); rintro en w2 ⟨rfl, hb2⟩; clear z100 z101 z102 z103 z104; have D2 := blk_below B10 hb2; obtain ⟨z100, z101, z102, z103, z104, _⟩ := cb5 D2)
        | (go_at_call 14; (with_reducible refine (hpr2.out _ hb2).mono ?_); rintro en w3 ⟨t, rfl, ht, hb3⟩; have htn := hne5.out t ht; clear ht; have hb4 := hb2.trans (hb3.mono hb2.size); have C3 := blk_below B2 hb4; obtain ⟨z20, z21, z22, z23, z24, f20, f21, f22, f23, f24⟩ := cb5 C3)
        | fail)
      exact fin0.out _ hb4 _ _ hpn.out rfl rfl rfl
end Go.Proofs.Tt.P
namespace Go.Proofs.Tt.P
open Go Go.RowKit Go.Proofs.YtnifkpljhfpdlaaGreatDoorW.PrintWords Go.Proofs.YtnifkpljhfpdlaaGreatDoorW.PrintLast Go.Proofs.YtnifkpljhfpdlaaGreatDoorW.PrintMore
open Go.Tt (Pt Fg printF parseF pairs pairs_flat flat zeroFg siteW areaW print_parse parse_print flat_len)
def bi (l : List UInt8) : List Int := l.map fun b => (b.toNat : Int)
theorem bi_app (a b : List UInt8) : bi (a ++ b) = bi a ++ bi b := by unfold bi; rw [List.map_append]
def vG (st : List Int × Int × Int) (l : List UInt8) : List Int × Int × Int := (bi l).foldl vStep st
theorem vG_app (st : List Int × Int × Int) (a b : List UInt8) : vG st (a ++ b) = vG (vG st a) b := by unfold vG; rw [bi_app, List.foldl_append]
theorem vG_cons (st : List Int × Int × Int) (a : UInt8) (b : List UInt8) : vG st (a :: b) = vG (vStep st (a.toNat : Int)) b := rfl
theorem vG_32 (st : List Int × Int × Int) (l : List UInt8) : vG st (32 :: l) = vG (vStep st 32) l := rfl
theorem vG_10 (st : List Int × Int × Int) (l : List UInt8) : vG st (10 :: l) = vG (vStep st 10) l := rfl
theorem digit_step (out : List Int) (n d : Int) (c : Nat) (hc : c < 10) (hd : d < 10) : vStep (out, n, d) ((UInt8.ofNat (48 + c)).toNat : Int) = (out, (if d = 0 then 0 else 10 * n) + (c : Int), d + 1) := by
  have e : (UInt8.ofNat (48 + c)).toNat = 48 + c := by simp; omega
  rw [e]
  unfold vStep
  rw [if_neg (by omega), if_pos ⟨by omega, by omega, hd⟩]
  simp only [Prod.mk.injEq, true_and, and_true]
  omega
theorem dec_pos (u : Nat) : 0 < (Lib.decDigits u).length := by
  rw [Lib.decDigits]; split <;> simp
theorem vG_dec (out : List Int) (n0 : Int) : ∀ (k u : Nat), k ≤ 9 → u < 10 ^ (k + 1) → vG (out, n0, 0) (Lib.decDigits u) = (out, (u : Int), ((Lib.decDigits u).length : Int))
  | 0, u, _, h => by
    have h' : u < 10 := by simpa using h
    rw [Lib.decDigits, dif_pos h', vG_cons, digit_step out n0 0 u h' (by decide), if_pos rfl]
    simp [vG, bi]
  | k + 1, u, hk, h => by
    by_cases h' : u < 10
    · rw [Lib.decDigits, dif_pos h', vG_cons, digit_step out n0 0 u h' (by decide), if_pos rfl]
      simp [vG, bi]
    · have hd : u / 10 < 10 ^ (k + 1) := by rw [Nat.pow_succ] at h; omega
      have hl := dec_len10 k (u / 10) hd
      have hp := dec_pos (u / 10)
      rw [Lib.decDigits, dif_neg h', vG_app, vG_dec out n0 k (u / 10) (by omega) hd, vG_cons, digit_step _ _ _ (u % 10) (Nat.mod_lt _ (by decide)) (by omega), if_neg (by omega)]
      simp only [vG, bi, List.map_nil, List.foldl_nil, List.length_append, List.length_cons, List.length_nil, Prod.mk.injEq, true_and]
      constructor
      · omega
      · omega
def Sm (n : Int) : Prop := 0 ≤ n ∧ n ≤ 1073741824
theorem vG_itoa (out : List Int) (n0 : Int) {m : Int} (h : Sm m) : ∃ d : Int, 0 < d ∧ vG (out, n0, 0) (Lib.itoa m) = (out, m, d) := by
  obtain ⟨h0, h1⟩ := h
  unfold Lib.itoa
  rw [if_neg (by omega)]
  refine ⟨_, ?_, by rw [vG_dec out n0 9 m.toNat (by decide) (by omega)]; rw [show ((m.toNat : Nat) : Int) = m by omega]⟩
  have := dec_pos m.toNat
  omega
theorem sep_step (out : List Int) (n d : Int) (b : Int) (hb : b = 32 ∨ b = 10) (hd : 0 < d) : vStep (out, n, d) b = (out ++ [n], -1, 0) := by
  unfold vStep; rw [if_pos hb, if_pos hd]
theorem sep_none (out : List Int) (n : Int) (b : Int) (hb : b = 32 ∨ b = 10) : vStep (out, n, 0) b = (out, -1, 0) := by
  unfold vStep; rw [if_pos hb, if_neg (show ¬ (0 : Int) < 0 by decide)]
theorem vG_nums : ∀ (ms : List Int) (out : List Int) (n d : Int), 0 < d → (∀ m ∈ ms, Sm m) → vG (out, n, d) (ms.flatMap (fun m => 32 :: Lib.itoa m) ++ [10]) = (out ++ n :: ms, -1, 0)
  | [], out, n, d, hd, _ => by
    simp only [List.flatMap_nil, List.nil_append]
    rw [vG_10, sep_step out n d _ (.inr rfl) hd]
    rfl
  | m :: ms, out, n, d, hd, h => by
    rw [List.flatMap_cons, List.append_assoc, List.cons_append, vG_32, sep_step out n d _ (.inl rfl) hd, vG_app]
    obtain ⟨d', hd', e⟩ := vG_itoa (out ++ [n]) (-1) (h m (by simp))
    rw [e, vG_nums ms (out ++ [n]) m d' hd' (fun x hx => h x (by simp [hx]))]
    simp
theorem vG_text (w : List UInt8) (hw : vG ([], -1, 0) w = ([], -1, 0)) (m : Int) (ms : List Int) (h : ∀ x ∈ m :: ms, Sm x) : (vG ([], -1, 0) (w ++ ((m :: ms).flatMap (fun m => 32 :: Lib.itoa m) ++ [10]))).1 = m :: ms := by
  rw [vG_app, hw, List.flatMap_cons, List.append_assoc, List.cons_append, vG_32, sep_none _ _ _ (.inl rfl), vG_app]
  obtain ⟨d', hd', e⟩ := vG_itoa [] (-1) (h m (by simp))
  rw [e, vG_nums ms [] m d' hd' (fun x hx => h x (by simp [hx]))]
  rfl
theorem flat_pts : ∀ l : List Pt, (flat l).flatMap (fun m => (32 : UInt8) :: Lib.itoa m) = ptsW l
  | [] => rfl
  | p :: l => by
    have := flat_pts l
    unfold ptsW at this ⊢
    rw [flat, List.flatMap_cons, List.flatMap_cons, this, List.flatMap_cons]
    simp
theorem fig_back {f : Fg} (hp : prB f = true) {s : ByteArray} (hs : s.data.toList = prText f) : figR (fbOf s) (vF (bytesI s)).1 = f := by
  have hv : (vF (bytesI s)).1 = (vG ([], -1, 0) (prText f)).1 := by rw [← hs]; rfl
  have hlen : s.data.toList.length = s.size := by simp
  have hfb : ∀ (c : UInt8) (r : List UInt8), prText f = c :: r → fbOf s = (c.toNat : Int) := fun c r e => by
    rw [e] at hs
    have h0 : 0 < s.size := by rw [← hlen, hs]; simp
    unfold fbOf
    rw [if_pos h0]
    unfold bt
    rw [dif_pos (show (0 : Int).toNat < s.size from h0)]
    have e2 : s.data.toList[0]? = some c := by rw [hs]; rfl
    have e3 : s[(0 : Int).toNat]'h0 = c := by
      have h1 : 0 < s.data.toList.length := by omega
      rw [List.getElem?_eq_getElem h1] at e2
      exact Option.some.inj e2
    rw [e3]
  obtain ⟨k, st, ar, lo, hi⟩ := f
  have hp' := hp
  unfold prB at hp'
  simp only [Bool.and_eq_true] at hp'
  obtain ⟨hsp, hk'⟩ := hp'
  have hsp' := of_decide_eq_true hsp
  by_cases hk : k = 1
  · rw [if_pos hk] at hk'
    have h' := of_decide_eq_true hk'
    have ha := List.eq_nil_of_length_eq_zero h'.2.2
    subst ha
    subst hk
    have et : prText ⟨1, st, [], lo, hi⟩ = siteW ++ ((st :: [lo, hi]).flatMap (fun m => 32 :: Lib.itoa m) ++ [10]) := by
      unfold prText headW
      rw [if_pos rfl]
      simp [ptsW]
    rw [hfb 115 _ (by rw [et]; rfl), hv, et, vG_text siteW (by decide) st [lo, hi] (by
      intro x hx
      simp only [List.mem_cons, List.not_mem_nil, or_false] at hx
      rcases hx with rfl | rfl | rfl
      · exact ⟨by omega, by omega⟩
      · exact ⟨by omega, by omega⟩
      · exact ⟨by omega, by omega⟩)]
    rfl
  · rw [if_neg hk] at hk'
    simp only [Bool.and_eq_true, decide_eq_true_eq] at hk'
    obtain ⟨⟨rfl, rfl⟩, hck⟩ := hk'
    rw [← chk_eq] at hck
    have et : prText ⟨2, 0, ar, lo, hi⟩ = areaW ++ ((lo :: hi :: flat ar).flatMap (fun m => 32 :: Lib.itoa m) ++ [10]) := by
      unfold prText headW
      rw [if_neg (show ¬ (2 : Int) = 1 by decide), List.flatMap_cons, List.flatMap_cons, flat_pts]
      simp
    rw [hfb 97 _ (by rw [et]; rfl), hv, et, vG_text areaW (by decide) lo (hi :: flat ar) (by
      intro x hx
      simp only [List.mem_cons] at hx
      rcases hx with rfl | rfl | hx
      · exact ⟨by omega, by omega⟩
      · exact ⟨by omega, by omega⟩
      · have := flat_60 ar (chkF_ok hck).2 x hx
        exact ⟨by omega, by omega⟩)]
    unfold figR
    rw [if_neg (fun h => absurd h.1 (by decide)), if_pos ⟨rfl, by simp⟩]
    simp [pairs_flat]
theorem parse_eq (s : ByteArray) : parseR s = parseF chkF s.data.toList := by
  unfold parseR
  split
  · next h => exact (print_parse chk_small h.2).symm
  · next h =>
    cases hx : parseF chkF s.data.toList with
    | none => rfl
    | some f =>
      exfalso
      have hp := parse_print hx
      have hb : prB f = true := by rw [pr_print, hp]; rfl
      have ht := pr_text hb
      rw [hp] at ht
      have hf := fig_back hb (Option.some.inj ht)
      rw [hf] at h
      exact h ⟨hb, hp⟩
end Go.Proofs.Tt.P
