/- What is proved: what functions of the program do (walks, by hand and by programs of this repository). Conditions stand in each theorem. -/
import Derived.Test.YtnifkpljhfpdlaaGreatDoorPa
import Derived.Lib.SplitLaws
import Derived.Lib.Join
import Derived.Lib.Strings
import Derived.Lib.AtoiAll
import Derived.Lib.ItoaNum
set_option linter.unusedVariables false
set_option linter.unusedSimpArgs false
namespace Go.Tt
open Go.Lib
theorem parse_app : ∀ (l : List UInt8) (acc : Nat) (r : List UInt8), parseUint10 acc (l ++ r) = match parseUint10 acc l with
    | .ok a => parseUint10 a r
    | e => e
  | [], acc, r => rfl
  | c :: l, acc, r => by
    rw [List.cons_append]
    simp only [parseUint10]
    split
    · split
      · rfl
      · split
        · rfl
        · exact parse_app l _ r
    · rfl
theorem parse_dec (u : Nat) : u < 1000000000000000000 → parseUint10 0 (decDigits u) = .ok u := by
  induction u using Nat.strongRecOn with
  | _ u ih =>
    intro hu
    have one : ∀ (acc d : Nat), acc < 1844674407370955161 → d < 10 → parseUint10 acc [UInt8.ofNat (48 + d)] = .ok (acc * 10 + d) := by
      intro acc d ha hd
      have e : (UInt8.ofNat (48 + d)).toNat = 48 + d := by simp; omega
      simp only [parseUint10, e]
      rw [if_pos (by omega), if_neg (by omega), if_neg (by omega)]
      congr 1; omega
    by_cases h : u < 10
    · rw [decDigits, dif_pos h]
      have := one 0 u (by omega) h
      simpa using this
    · rw [decDigits, dif_neg h, parse_app, ih (u / 10) (by omega) (by omega)]
      show parseUint10 (u / 10) [UInt8.ofNat (48 + u % 10)] = _
      rw [one _ _ (by omega) (Nat.mod_lt _ (by decide))]
      congr 1; omega
theorem dec_digit (u : Nat) : ∀ c ∈ decDigits u, 48 ≤ c.toNat ∧ c.toNat ≤ 57 := by
  induction u using Nat.strongRecOn with
  | _ u ih =>
    intro c hc
    have one : ∀ d, d < 10 → (UInt8.ofNat (48 + d)).toNat = 48 + d := fun d hd => by simp; omega
    by_cases h : u < 10
    · rw [decDigits, dif_pos h] at hc
      obtain rfl := List.mem_singleton.1 hc
      rw [one u h]; omega
    · rw [decDigits, dif_neg h] at hc
      rcases List.mem_append.1 hc with hc | hc
      · exact ih _ (by omega) c hc
      · obtain rfl := List.mem_singleton.1 hc
        have := Nat.mod_lt u (show 0 < 10 by decide)
        rw [one _ this]; omega
theorem dec_ne (u : Nat) : decDigits u ≠ [] := by
  rw [decDigits]; split <;> simp
theorem atoi_itoa {n : Int} (h0 : 0 ≤ n) (h1 : n < 1000000000000000000) : atoiAll (itoa n) = .ok n := by
  have hp := parse_dec n.toNat (by omega)
  have hd := dec_digit n.toNat
  have hn := dec_ne n.toNat
  unfold itoa
  rw [if_neg (by omega)]
  cases hl : decDigits n.toNat with
  | nil => exact absurd hl hn
  | cons c r =>
    rw [hl] at hp hd
    have hc := hd c (by simp)
    simp only [atoiAll]
    rw [if_neg (by omega)]
    have : parseMag (c :: r) = .ok n.toNat := by unfold parseMag; rw [if_neg (by simp)]; exact hp
    rw [this]
    simp only
    rw [if_neg (by omega), if_neg (by omega), if_neg (by omega)]
    congr 1; omega
theorem itoa_plain {n : Int} (h0 : 0 ≤ n) : (32 : UInt8) ∉ itoa n := by
  unfold itoa
  rw [if_neg (by omega)]
  intro h
  have := dec_digit _ _ h
  have e : (32 : UInt8).toNat = 32 := rfl
  omega
theorem index_blank : ∀ (w r : List UInt8), (32 : UInt8) ∉ w → index (w ++ 32 :: r) [32] = w.length
  | [], r, _ => by simp [index, List.isPrefixOf]
  | c :: w, r, h => by
    have hc : c ≠ 32 := fun e => h (by simp [e])
    have ih := index_blank w r (fun hm => h (by simp [hm]))
    rw [List.cons_append, index, ih]
    have e1 : List.isPrefixOf [32] (c :: (w ++ 32 :: r)) = false := by simp [List.isPrefixOf, hc.symm]
    rw [e1]
    have e2 : ((w.length : Int) == -1) = false := by rw [beq_eq_false_iff_ne]; omega
    rw [e2]
    simp
theorem count_blank (w r : List UInt8) (h : (32 : UInt8) ∉ w) : count (w ++ 32 :: r) [32] = count r [32] + 1 := by
  rw [count_one, count_one, List.count_append, List.count_cons_self, List.count_eq_zero.2 h]; omega
theorem split_join : ∀ (ws : List (List UInt8)), ws ≠ [] → (∀ w ∈ ws, (32 : UInt8) ∉ w) → split (join ws [32]) [32] = ws
  | [], h, _ => absurd rfl h
  | [w], _, h => by
    have hw := h w (by simp)
    have : join [w] [32] = w := by simp [join, List.intercalate]
    rw [this]
    unfold split
    rw [count_one, List.count_eq_zero.2 hw]
    rfl
  | w :: v :: ws, _, h => by
    have hw := h w (by simp)
    have ih := split_join (v :: ws) (by simp) (fun x hx => h x (by simp [hx]))
    have e : join (w :: v :: ws) [32] = w ++ 32 :: join (v :: ws) [32] := by simp [join, List.intercalate]
    rw [e]
    unfold split at ih ⊢
    rw [count_blank _ _ hw, splitK, index_blank _ _ hw]
    have e2 : ((w.length : Int) == -1) = false := by rw [beq_eq_false_iff_ne]; omega
    rw [e2]
    simp only [Bool.false_eq_true, if_false, Int.toNat_natCast, Nat.add_zero, List.length_singleton]
    rw [List.take_left' rfl, show (w ++ 32 :: join (v :: ws) [32]).drop (w.length + 1) = join (v :: ws) [32] by rw [List.drop_append]; simp]
    rw [ih]
theorem trim_feed (t : List UInt8) : trimSuffix (t ++ [10]) [10] = t := by
  unfold trimSuffix hasSuffix
  rw [if_pos (by rw [List.isSuffixOf_iff_suffix]; exact List.suffix_append _ _)]
  simp
end Go.Tt
namespace Go.Tt
open Go.Lib
structure Pt where
  x : Int
  y : Int
  deriving DecidableEq
structure Fg where
  kind : Int
  site : Int
  ar : List Pt
  lo : Int
  hi : Int
  deriving DecidableEq
def zeroFg : Fg := ⟨0, 0, [], 0, 0⟩
def siteW : List UInt8 := [115, 105, 116, 101]
def areaW : List UInt8 := [97, 114, 101, 97]
def ptW : List Pt → List (List UInt8)
  | [] => []
  | p :: l => itoa p.x :: itoa p.y :: ptW l
def textOf (ws : List (List UInt8)) : List UInt8 := join ws [32] ++ [10]
def spanOk (lo hi : Int) : Bool := decide (0 ≤ lo ∧ lo ≤ hi ∧ hi ≤ 60000)
def wordsF (chk : List Pt → Bool) (f : Fg) : Option (List (List UInt8)) :=
  if spanOk f.lo f.hi then
    if f.kind = 1 ∧ f.ar = [] ∧ 1 ≤ f.site ∧ f.site ≤ 1073741824 then some [siteW, itoa f.site, itoa f.lo, itoa f.hi]
    else if f.kind = 2 ∧ f.site = 0 then
      if chk f.ar then some (areaW :: itoa f.lo :: itoa f.hi :: ptW f.ar) else none
    else none
  else none
def printF (chk : List Pt → Bool) (f : Fg) : Option (List UInt8) := (wordsF chk f).map textOf
def numsF : List (List UInt8) → Option (List Int)
  | [] => some []
  | s :: l => match atoiAll s with
    | .ok v => (numsF l).map (v :: ·)
    | _ => none
def pairs : List Int → List Pt
  | x :: y :: l => ⟨x, y⟩ :: pairs l
  | _ => []
def figF (w0 : List UInt8) (n : List Int) : Fg :=
  if w0 = siteW ∧ n.length = 3 then ⟨1, n.getD 0 0, [], n.getD 1 0, n.getD 2 0⟩
  else if w0 = areaW ∧ 2 ≤ n.length ∧ n.length % 2 = 0 then ⟨2, 0, pairs (n.drop 2), n.getD 0 0, n.getD 1 0⟩
  else zeroFg
def parseF (chk : List Pt → Bool) (text : List UInt8) : Option Fg :=
  match split (trimSuffix text [10]) [32] with
  | [] => none
  | w0 :: ws => match numsF ws with
    | none => none
    | some n => if printF chk (figF w0 n) = some text then some (figF w0 n) else none
theorem parse_print {chk : List Pt → Bool} {text : List UInt8} {f : Fg} (h : parseF chk text = some f) : printF chk f = some text := by
  unfold parseF at h
  split at h
  · cases h
  · split at h
    · cases h
    · split at h
      · next h1 => cases h; exact h1
      · cases h
def Small (n : Int) : Prop := 0 ≤ n ∧ n < 1000000000000000000
theorem nums_itoa : ∀ (l : List Int), (∀ n ∈ l, Small n) → numsF (l.map itoa) = some l
  | [], _ => rfl
  | n :: l, h => by
    have hn := h n (by simp)
    rw [List.map_cons, numsF, atoi_itoa hn.1 hn.2, nums_itoa l (fun m hm => h m (by simp [hm]))]
    rfl
def flat : List Pt → List Int
  | [] => []
  | p :: l => p.x :: p.y :: flat l
theorem ptW_flat : ∀ l, ptW l = (flat l).map itoa
  | [] => rfl
  | p :: l => by rw [ptW, flat, List.map_cons, List.map_cons, ptW_flat l]
theorem pairs_flat : ∀ l, pairs (flat l) = l
  | [] => rfl
  | p :: l => by rw [flat, pairs, pairs_flat l]
theorem flat_len : ∀ l, (flat l).length = 2 * l.length
  | [] => rfl
  | p :: l => by rw [flat, List.length_cons, List.length_cons, flat_len l, List.length_cons]; omega
theorem flat_small : ∀ l : List Pt, (∀ p ∈ l, Small p.x ∧ Small p.y) → ∀ n ∈ flat l, Small n
  | [], _, n, hn => by simp [flat] at hn
  | p :: l, h, n, hn => by
    rw [flat] at hn
    rcases List.mem_cons.1 hn with rfl | hn
    · exact (h p (by simp)).1
    · rcases List.mem_cons.1 hn with rfl | hn
      · exact (h p (by simp)).2
      · exact flat_small l (fun q hq => h q (by simp [hq])) n hn
theorem print_parse {chk : List Pt → Bool} (hc : ∀ l, chk l = true → ∀ p ∈ l, Small p.x ∧ Small p.y) {text : List UInt8} {f : Fg} (h : printF chk f = some text) : parseF chk text = some f := by
  have key : ∀ (w0 : List UInt8) (ns : List Int), (32 : UInt8) ∉ w0 → (∀ n ∈ ns, Small n) → split (trimSuffix (textOf (w0 :: ns.map itoa)) [10]) [32] = w0 :: ns.map itoa := by
    intro w0 ns h0 hn
    unfold textOf
    rw [trim_feed]
    refine split_join _ (by simp) fun w hw => ?_
    rcases List.mem_cons.1 hw with rfl | hw
    · exact h0
    · obtain ⟨n, hn', rfl⟩ := List.mem_map.1 hw
      exact itoa_plain (hn n hn').1
  have fin : ∀ (w0 : List UInt8) (ns : List Int), (32 : UInt8) ∉ w0 → (∀ n ∈ ns, Small n) → text = textOf (w0 :: ns.map itoa) → figF w0 ns = f → parseF chk text = some f := by
    intro w0 ns h0 hn ht hf
    unfold parseF
    rw [ht, key w0 ns h0 hn]
    simp only [nums_itoa ns hn]
    rw [hf, ← ht, if_pos h]
  have h' := h
  unfold printF wordsF at h'
  by_cases hs : spanOk f.lo f.hi = true
  · rw [if_pos hs] at h'
    have hs' := of_decide_eq_true hs
    have s1 : Small f.lo := ⟨by omega, by omega⟩
    have s2 : Small f.hi := ⟨by omega, by omega⟩
    by_cases h1 : f.kind = 1 ∧ f.ar = [] ∧ 1 ≤ f.site ∧ f.site ≤ 1073741824
    · rw [if_pos h1] at h'
      refine fin siteW [f.site, f.lo, f.hi] (by decide) (fun n hn => ?_) (by simpa using h'.symm) ?_
      · simp only [List.mem_cons, List.not_mem_nil, or_false] at hn
        rcases hn with rfl | rfl | rfl
        · exact ⟨by omega, by omega⟩
        · exact s1
        · exact s2
      · unfold figF
        rw [if_pos ⟨rfl, rfl⟩]
        obtain ⟨k, s, a, lo, hi⟩ := f
        obtain ⟨rfl, rfl, _⟩ := h1
        rfl
    · rw [if_neg h1] at h'
      by_cases h2 : f.kind = 2 ∧ f.site = 0
      · rw [if_pos h2] at h'
        by_cases hk : chk f.ar = true
        · rw [if_pos hk] at h'
          refine fin areaW (f.lo :: f.hi :: flat f.ar) (by decide) (fun n hn => ?_) (by rw [List.map_cons, List.map_cons, ← ptW_flat]; simpa using h'.symm) ?_
          · rcases List.mem_cons.1 hn with rfl | hn
            · exact s1
            · rcases List.mem_cons.1 hn with rfl | hn
              · exact s2
              · exact flat_small _ (hc _ hk) n hn
          · unfold figF
            rw [if_neg (fun e => absurd e.1 (by decide)), if_pos ⟨rfl, by simp, by simp [flat_len]; omega⟩]
            obtain ⟨k, s, a, lo, hi⟩ := f
            obtain ⟨rfl, rfl⟩ := h2
            simp [pairs_flat]
        · rw [if_neg hk] at h'; cases h'
      · rw [if_neg h2] at h'; cases h'
  · rw [if_neg hs] at h'; cases h'
end Go.Tt
namespace Go.Proofs.Tt.P
open Go.Proofs.Tt.Sh Go.RowKit Go.Proofs.YtnifkpljhfpdlaaGreatDoorW.PrintWords Go.Proofs.YtnifkpljhfpdlaaGreatDoorW.PrintLast Go.Proofs.YtnifkpljhfpdlaaGreatDoorW.PrintMore
open Go.Tt (Pt)
set_option linter.unusedVariables false
set_option linter.unusedSimpArgs false
theorem info3 : (Tryz.prog.info? 3).map (fun i => (i.zero, i.size, i.bytes)) = some (some (.int .i64 0), 1, 8) := by kernel_rfl
theorem wrapN {n : Int} (h0 : -9223372036854775808 ≤ n) (h1 : n < 9223372036854775808) : wrap64 n = n := by
  unfold wrap64; omega
def zP : Pt := ⟨0, 0⟩
def kP : Kd Pt := Kd.iso (Kd.pair (Kd.int .i64) (Kd.int .i64)) (fun x : Pt => (x.x, x.y))
theorem kP_open {w : World} {x : Pt} {cs : List Value} (h : kP.K w x cs) : cs = [.int .i64 x.x, .int .i64 x.y] := by
  obtain ⟨_, _, rfl, rfl, rfl⟩ := h
  exact rfl
theorem kP_openM {w : World} {base : Nat} {ok : Nat → Prop} {x : Pt} {cs : List Value} (h : kP.M w base ok x cs) : cs = [.int .i64 x.x, .int .i64 x.y] := by
  obtain ⟨_, _, rfl, rfl, rfl⟩ := h
  exact rfl
theorem kP_mk (w : World) (x : Pt) : kP.K w x [.int .i64 x.x, .int .i64 x.y] := ⟨[.int .i64 x.x], [.int .i64 x.y], rfl, rfl, rfl⟩
theorem kP_mkM (w : World) (base : Nat) (ok : Nat → Prop) (x : Pt) : kP.M w base ok x [.int .i64 x.x, .int .i64 x.y] := ⟨[.int .i64 x.x], [.int .i64 x.y], rfl, rfl, rfl⟩
theorem at_P {w : World} {A : Option Addr} {n : Nat} {xs : List Pt} (h : Kd.C kP w A n xs) (j : Nat) (hj : j < n) (x : Pt) (hx : xs[j]? = some x) : ∃ ad, A = some ad ∧ w.cell? (ad.add (j * 2)) = some (.int .i64 x.x) ∧ w.cell? ⟨(ad.add (j * 2)).block, (ad.add (j * 2)).off + 1, none⟩ = some (.int .i64 x.y) := by
  obtain ⟨ad, c, e, _, hK, hc0⟩ := Kd.C_get h zP (j : Int) (by omega) (by omega)
  have hg : xs.getD ((j : Int)).toNat zP = x := by rw [List.getD_eq_getElem?_getD, show ((j : Int)).toNat = j by omega, hx]; rfl
  rw [hg] at hK
  have hc : ∀ i u, c[i]? = some u → w.cell? (ad.add (((j : Int)).toNat * 2 + i)) = some u := hc0
  rw [show ((j : Int)).toNat = j by omega] at hc
  obtain rfl := kP_open hK
  exact ⟨ad, e, hc 0 _ rfl, by rw [← add_field _ _ 1 (by omega)]; exact hc 1 _ rfl⟩
def okP (p : Pt) : Bool := decide (0 ≤ p.x ∧ p.x ≤ 60 ∧ 0 ≤ p.y ∧ p.y ≤ 60)
theorem isP (p : Pt) : field_isPoint.f p.x p.y = some (okP p) := by
  unfold field_isPoint.f okP
  repeat' split
  all_goals (congr 1; first | (symm; apply decide_eq_false; omega) | (apply decide_eq_decide.2; omega))
set_option maxHeartbeats 8000000 in
set_option maxRecDepth 100000 in
theorem chk1_calls (p : Pt) (w : World) : Calls Tryz.prog 57 #[.agg #[.int .i64 p.x, .int .i64 p.y]] w fun en w' => en = .returned (.bool (!okP p)) ∧ Below w.heap.size w w' := by
  have hu35 := Tryz.underlying35
  go_enter Tryz.func57, Tryz.ntmps57
  have HB := ak (Below.refl w.heap.size w)
  go_wp2_with (first | (go_at_call 58; (with_reducible refine (field_isPoint.calls p.x p.y _ _ (isP p)).mono ?_); rintro en w2 ⟨rfl, hb2⟩) | fail)
  go_ret
  exact ⟨rfl, (((Below.refl _ w).alloc (Nat.le_refl _) _)).trans (hb2.mono (by simp))⟩
set_option maxHeartbeats 8000000 in
set_option maxRecDepth 100000 in
theorem allP_calls {w : World} {A : Option Addr} {c : Nat} {xs : List Pt} (hr : Kd.C kP w A xs.length xs) (hl : xs.length ≤ 1000000) :
    Calls Tryz.prog 56 #[.slice A xs.length c, .func (.func 57) #[] #[]] w fun en w' => ∃ r : Int, en = .returned (.int .i64 r) ∧ decide (0 ≤ r) = !(xs.all okP) ∧ Below w.heap.size w w' := by
  have hu35 := Tryz.underlying35
  have hu22 := Tryz.underlying22
  replace hl := ak hl
  go_enter Tryz.func56, Tryz.ntmps56
  go_wp2
  go_loopg [8] xs.length (fun kq v8 w' => ∃ (i : Nat) (x : Int), v8 = .int .i64 x ∧ Aside0 (x = i ∧ i + kq = xs.length ∧ (xs.take i).all okP = true) ∧ Aside0 (Below w.heap.size w w'))
  case atStart => exact ⟨0, 0, rfl, ⟨rfl, by omega, rfl⟩, ⟨Below.refl _ _⟩⟩
  case round =>
    obtain ⟨i, x, rfl, ⟨hx, hi, ha⟩, ⟨HB⟩⟩ := hrel
    cases gk with
    | zero =>
      have c1 : decide (x < (xs.length : Int)) = false := decide_eq_false (by omega)
      rw [List.take_of_length_le (by omega)] at ha
      clear hx hi
      go_wp2
      go_ret
      exact ⟨-1, rfl, by rw [ha]; rfl, HB⟩
    | succ k1 =>
      have hlt : i < xs.length := by omega
      have c1 : decide (x < (xs.length : Int)) = true := decide_eq_true (by omega)
      obtain ⟨p, hp⟩ : ∃ p, xs[i]? = some p := ⟨_, List.getElem?_eq_getElem hlt⟩
      obtain ⟨ad, e, h0, h1⟩ := at_P (Kd.C_below hr HB) i hlt p hp
      cases e
      have hxi : x.toNat = i := by omega
      have px : (0 ≤ x) = True := eq_true (by omega)
      have qx : (x < (xs.length : Int)) = True := eq_true (by omega)
      have hw : Aside0 (wrap64 (x + 1) = ((i + 1 : Nat) : Int)) := ⟨by have := hl.out; rw [hx, wrapN (by omega) (by omega)]; rfl⟩
      rw [← hxi] at h0 h1
      replace hxi := ak hxi
      replace hx := ak hx
      replace hi := ak hi
      replace hp := ak hp
      have hal := ak (show xs.take (i + 1) = xs.take i ++ [p] by rw [List.take_add_one, hp.out]; rfl)
      replace ha := ak ha
      cases ho : okP p
      case false =>
        go_wp2_with (first | (go_at_call 57; (with_reducible refine (chk1_calls p _).mono ?_); rintro en w2 ⟨rfl, hb2⟩; rw [ho]) | fail)
        go_ret
        refine ⟨x, rfl, ?_, below_step HB hb2⟩
        have : xs.all okP = false := by
          rw [List.all_eq_false]
          exact ⟨p, List.mem_of_getElem? hp.out, by simp [ho]⟩
        rw [this]
        have h1 := hx.out
        exact decide_eq_true (by omega)
      case true =>
        go_wp2_with (first | (go_at_call 57; (with_reducible refine (chk1_calls p _).mono ?_); rintro en w2 ⟨rfl, hb2⟩; rw [ho]) | fail)
        go_roundg k1
        case measure => omega
        case rel => exact ⟨i + 1, wrap64 (x + 1), rfl, ⟨hw.out, by have := hi.out; omega, by rw [hal.out, List.all_append, ha.out]; simp [ho]⟩, ⟨below_step HB hb2⟩⟩
end Go.Proofs.Tt.P
namespace Go.Proofs.Tt.P
open Go.Proofs.Tt.Sh Go.RowKit Go.Proofs.YtnifkpljhfpdlaaGreatDoorW.PrintWords Go.Proofs.YtnifkpljhfpdlaaGreatDoorW.PrintLast Go.Proofs.YtnifkpljhfpdlaaGreatDoorW.PrintMore
open Go.Tt (Pt)
set_option linter.unusedVariables false
set_option linter.unusedSimpArgs false
theorem eqA35 (d : Nat) (w : World) (x0 y0 : Int) (x1 y1 : Int) :
    (Op.equalIn (d + 2) 35 (.agg #[.int .i64 x0, .int .i64 x1]) (.agg #[.int .i64 y0, .int .i64 y1])).run Tryz.prog w = .ok (x0 == y0 && (x1 == y1)) w := by
  refine eqA_of Tryz.underlying35 (by kernel_rfl) ?_
  refine eqf_cons (by rfl) (by go_simp; rfl) (by go_simp; rfl) (by go_simp) ?_
  exact eqf_last (by rfl) (by go_simp; rfl) (by go_simp; rfl) (by go_simp)
theorem eqA24 (d : Nat) (w : World) (x0 y0 : Int) (x1 y1 : Int) :
    (Op.equalIn (d + 2) 24 (.agg #[.int .i64 x0, .int .i64 x1]) (.agg #[.int .i64 y0, .int .i64 y1])).run Tryz.prog w = .ok (x0 == y0 && (x1 == y1)) w := by
  refine eqA_of Tryz.underlying24 (by kernel_rfl) ?_
  refine eqf_cons (by rfl) (by go_simp; rfl) (by go_simp; rfl) (by go_simp) ?_
  exact eqf_last (by rfl) (by go_simp; rfl) (by go_simp; rfl) (by go_simp)
def ptEq (x0 x1 y0 y1 : Int) : Bool := x0 == y0 && (x1 == y1)
theorem eqP35 (d : Nat) (w : World) (x0 y0 : Int) (x1 y1 : Int) :
    (Op.equalIn (d + 2) 35 (.agg #[.int .i64 x0, .int .i64 x1]) (.agg #[.int .i64 y0, .int .i64 y1])).run Tryz.prog w = .ok (ptEq x0 x1 y0 y1) w := eqA35 d w x0 y0 x1 y1
def clashB (a b c d e f g h : Int) : Bool :=
  if ptEq g h a b = true then
    if ptEq c d e f = true then true else onB a b c d e f || onB e f g h c d
  else if ptEq c d e f = true then onB a b c d g h || onB e f g h a b
  else meetB a b c d e f g h
section
attribute [local go_sem high] eqP35
set_option maxHeartbeats 8000000 in
set_option maxRecDepth 100000 in
theorem clash_calls (a b c d e f g h : Int) (w : World) : Calls Tryz.prog 62 #[.agg #[.int .i64 a, .int .i64 b, .int .i64 c, .int .i64 d], .agg #[.int .i64 e, .int .i64 f, .int .i64 g, .int .i64 h]] w fun en w' => en = .returned (.bool (clashB a b c d e f g h)) ∧ Below w.heap.size w w' := by
  have hu35 := Tryz.underlying35
  go_enter Tryz.func62, Tryz.ntmps62
  go_upto_region 0 with fail
  go_cut [2, 3, 4] from 2 to 4 (fun s2 s3 s4 wc => ∃ g2 g3, s2 = .pointer (some ⟨g2, 0, none⟩) ∧ s3 = .pointer (some ⟨g3, 0, none⟩) ∧ s4 = .bool false ∧ wc.heap[g2]? = some (.cells #[.int .i64 a, .int .i64 b, .int .i64 c, .int .i64 d] 133 (0, 0)) ∧ wc.heap[g3]? = some (.cells #[.int .i64 e, .int .i64 f, .int .i64 g, .int .i64 h] 133 (0, 0)) ∧ Below w.heap.size w wc)
  case first =>
    go_wp2_with fail
    go_meet
    case rel => exact ⟨_, _, rfl, rfl, rfl, blk_alloc (blk_new w _) _, (by simpa using blk_new (w.alloc _) _), ((Below.refl _ w).alloc (Nat.le_refl _) _).alloc (by simp) _⟩
  obtain ⟨g2, g3, rfl, rfl, rfl, B2, B3, HB⟩ := hcut
  replace B2 := ak B2
  replace B3 := ak B3
  replace HB := ak HB
  obtain ⟨z20, z21, z22, z23⟩ := cb4 B2.out
  obtain ⟨z30, z31, z32, z33⟩ := cb4 B3.out
  cases p1 : ptEq g h a b <;> cases p2 : ptEq c d e f
  case false.false =>
    go_wp2_with (first | (go_at_call 90; (with_reducible refine (meet_calls a b c d e f g h _).mono ?_); rintro en w2 ⟨rfl, hb2⟩; replace HB := ak (below_step HB.out hb2)) | fail)
    go_ret
    exact ⟨by unfold clashB; simp [p1, p2], HB.out⟩
  case false.true =>
    cases e1 : onB a b c d g h
    all_goals (go_wp2_with (first | (go_at_call 89; (with_reducible first | refine (on_calls a b c d g h _).mono ?_ | refine (on_calls e f g h a b _).mono ?_); rintro en w2 ⟨rfl, hb2⟩; (try rw [e1]); replace HB := ak (below_step HB.out hb2); clear z20 z21 z22 z23 z30 z31 z32 z33; replace B2 := ak (blk_below B2.out hb2); replace B3 := ak (blk_below B3.out hb2); obtain ⟨z20, z21, z22, z23⟩ := cb4 B2.out; obtain ⟨z30, z31, z32, z33⟩ := cb4 B3.out; clear hb2) | fail))
    all_goals go_ret
    all_goals exact ⟨by unfold clashB; simp [p1, p2, e1], HB.out⟩
  case true.false =>
    cases e1 : onB a b c d e f
    all_goals (go_wp2_with (first | (go_at_call 89; (with_reducible first | refine (on_calls a b c d e f _).mono ?_ | refine (on_calls e f g h c d _).mono ?_); rintro en w2 ⟨rfl, hb2⟩; (try rw [e1]); replace HB := ak (below_step HB.out hb2); clear z20 z21 z22 z23 z30 z31 z32 z33; replace B2 := ak (blk_below B2.out hb2); replace B3 := ak (blk_below B3.out hb2); obtain ⟨z20, z21, z22, z23⟩ := cb4 B2.out; obtain ⟨z30, z31, z32, z33⟩ := cb4 B3.out; clear hb2) | fail))
    all_goals go_ret
    all_goals exact ⟨by unfold clashB; simp [p1, p2, e1], HB.out⟩
  case true.true =>
    go_wp2
    go_ret
    exact ⟨by unfold clashB; simp [p1, p2], HB.out⟩
end
end Go.Proofs.Tt.P
namespace Go.Proofs.Tt.P
open Go.Proofs.Tt.Sh Go.RowKit Go.Proofs.YtnifkpljhfpdlaaGreatDoorW.PrintWords Go.Proofs.YtnifkpljhfpdlaaGreatDoorW.PrintLast Go.Proofs.YtnifkpljhfpdlaaGreatDoorW.PrintMore
open Go.Tt (Pt)
set_option linter.unusedVariables false
set_option linter.unusedSimpArgs false
structure Sd where
  a : Int
  b : Int
  c : Int
  d : Int
def Sd.vs (s : Sd) : Array Value := #[.int .i64 s.a, .int .i64 s.b, .int .i64 s.c, .int .i64 s.d]
def zS : Sd := ⟨0, 0, 0, 0⟩
def kS : Kd Sd := Kd.iso (Kd.pair (Kd.pair (Kd.int .i64) (Kd.int .i64)) (Kd.pair (Kd.int .i64) (Kd.int .i64))) (fun x : Sd => ((x.a, x.b), (x.c, x.d)))
theorem kS_open {w : World} {x : Sd} {cs : List Value} (h : kS.K w x cs) : cs = [.int .i64 x.a, .int .i64 x.b, .int .i64 x.c, .int .i64 x.d] := by
  obtain ⟨_, _, rfl, ⟨_, _, rfl, rfl, rfl⟩, ⟨_, _, rfl, rfl, rfl⟩⟩ := h
  exact rfl
theorem kS_mkM (w : World) (base : Nat) (ok : Nat → Prop) (x : Sd) : kS.M w base ok x [.int .i64 x.a, .int .i64 x.b, .int .i64 x.c, .int .i64 x.d] := ⟨[.int .i64 x.a, .int .i64 x.b], [.int .i64 x.c, .int .i64 x.d], rfl, ⟨[.int .i64 x.a], [.int .i64 x.b], rfl, rfl, rfl⟩, ⟨[.int .i64 x.c], [.int .i64 x.d], rfl, rfl, rfl⟩⟩
theorem at_S {w : World} {A : Option Addr} {n : Nat} {xs : List Sd} (h : Kd.C kS w A n xs) (j : Nat) (hj : j < n) (x : Sd) (hx : xs[j]? = some x) : ∃ ad, A = some ad ∧ w.cell? (ad.add (j * 4)) = some (.int .i64 x.a) ∧ w.cell? ⟨(ad.add (j * 4)).block, (ad.add (j * 4)).off + 1, none⟩ = some (.int .i64 x.b) ∧ w.cell? ⟨(ad.add (j * 4)).block, (ad.add (j * 4)).off + 2, none⟩ = some (.int .i64 x.c) ∧ w.cell? ⟨(ad.add (j * 4)).block, (ad.add (j * 4)).off + 3, none⟩ = some (.int .i64 x.d) := by
  obtain ⟨ad, c, e, _, hK, hc0⟩ := Kd.C_get h zS (j : Int) (by omega) (by omega)
  have hg : xs.getD ((j : Int)).toNat zS = x := by rw [List.getD_eq_getElem?_getD, show ((j : Int)).toNat = j by omega, hx]; rfl
  rw [hg] at hK
  have hc : ∀ i u, c[i]? = some u → w.cell? (ad.add (((j : Int)).toNat * 4 + i)) = some u := hc0
  rw [show ((j : Int)).toNat = j by omega] at hc
  obtain rfl := kS_open hK
  exact ⟨ad, e, hc 0 _ rfl, by rw [← add_field _ _ 1 (by omega)]; exact hc 1 _ rfl, by rw [← add_field _ _ 2 (by omega)]; exact hc 2 _ rfl, by rw [← add_field _ _ 3 (by omega)]; exact hc 3 _ rfl⟩
def clS (s t : Sd) : Bool := clashB s.a s.b s.c s.d t.a t.b t.c t.d
set_option maxHeartbeats 8000000 in
set_option maxRecDepth 100000 in
theorem chk2_calls (s t : Sd) {gs : Nat} {w : World} (hs : w.heap[gs]? = some (.cells #[.int .i64 s.a, .int .i64 s.b, .int .i64 s.c, .int .i64 s.d] 133 (0, 0))) :
    Calls Tryz.prog 61 #[.agg #[.int .i64 t.a, .int .i64 t.b, .int .i64 t.c, .int .i64 t.d], .pointer (some ⟨gs, 0, none⟩)] w fun en w' => en = .returned (.bool (clS s t)) ∧ Below w.heap.size w w' := by
  obtain ⟨z0, z1, z2, z3⟩ := cb4 (blk_alloc hs (.cells #[.int .i64 t.a, .int .i64 t.b, .int .i64 t.c, .int .i64 t.d] 133))
  go_enter Tryz.func61, Tryz.ntmps61
  go_wp2_with (first | (go_at_call 62; (with_reducible refine (clash_calls s.a s.b s.c s.d t.a t.b t.c t.d _).mono ?_); rintro en w2 ⟨rfl, hb2⟩) | fail)
  go_ret
  exact ⟨rfl, (((Below.refl _ w).alloc (Nat.le_refl _) _)).trans (hb2.mono (by simp))⟩
set_option maxHeartbeats 8000000 in
set_option maxRecDepth 100000 in
theorem idxS_calls (s : Sd) {gs : Nat} {w : World} {A : Option Addr} {c : Nat} {xs : List Sd} (hr : Kd.C kS w A xs.length xs) (hl : xs.length ≤ 1000000) (hs : w.heap[gs]? = some (.cells #[.int .i64 s.a, .int .i64 s.b, .int .i64 s.c, .int .i64 s.d] 133 (0, 0))) :
    Calls Tryz.prog 88 #[.slice A xs.length c, .func (.func 61) #[] #[.pointer (some ⟨gs, 0, none⟩)]] w fun en w' => ∃ r : Int, en = .returned (.int .i64 r) ∧ decide (0 ≤ r) = xs.any (clS s) ∧ Below w.heap.size w w' := by
  have hu133 := Tryz.underlying133
  have hu128 := Tryz.underlying128
  replace hl := ak hl
  replace hs := ak hs
  go_enter Tryz.func88, Tryz.ntmps88
  go_wp2
  go_loopg [8] xs.length (fun kq v8 w' => ∃ (i : Nat) (x : Int), v8 = .int .i64 x ∧ Aside0 (x = i ∧ i + kq = xs.length ∧ (xs.take i).any (clS s) = false) ∧ Aside0 (Below w.heap.size w w'))
  case atStart => exact ⟨0, 0, rfl, ⟨rfl, by omega, rfl⟩, ⟨Below.refl _ _⟩⟩
  case round =>
    obtain ⟨i, x, rfl, ⟨hx, hi, ha⟩, ⟨HB⟩⟩ := hrel
    cases gk with
    | zero =>
      have c1 : decide (x < (xs.length : Int)) = false := decide_eq_false (by omega)
      rw [List.take_of_length_le (by omega)] at ha
      clear hx hi
      go_wp2
      go_ret
      exact ⟨-1, rfl, by rw [ha]; rfl, HB⟩
    | succ k1 =>
      have hlt : i < xs.length := by omega
      have c1 : decide (x < (xs.length : Int)) = true := decide_eq_true (by omega)
      obtain ⟨p, hp⟩ : ∃ p, xs[i]? = some p := ⟨_, List.getElem?_eq_getElem hlt⟩
      obtain ⟨ad, e, h0, h1, h2, h3⟩ := at_S (Kd.C_below hr HB) i hlt p hp
      cases e
      have hxi : x.toNat = i := by omega
      have px : (0 ≤ x) = True := eq_true (by omega)
      have qx : (x < (xs.length : Int)) = True := eq_true (by omega)
      have hw : Aside0 (wrap64 (x + 1) = ((i + 1 : Nat) : Int)) := ⟨by have := hl.out; rw [hx, wrapN (by omega) (by omega)]; rfl⟩
      rw [← hxi] at h0 h1 h2 h3
      replace hxi := ak hxi
      replace hx := ak hx
      replace hi := ak hi
      replace hp := ak hp
      have hal := ak (show xs.take (i + 1) = xs.take i ++ [p] by rw [List.take_add_one, hp.out]; rfl)
      replace ha := ak ha
      cases ho : clS s p
      case true =>
        go_wp2_with (first | (go_at_call 61; (with_reducible refine (chk2_calls s p (blk_below hs.out HB)).mono ?_); rintro en w2 ⟨rfl, hb2⟩; rw [ho]) | fail)
        go_ret
        refine ⟨x, rfl, ?_, below_step HB hb2⟩
        have : xs.any (clS s) = true := by
          rw [List.any_eq_true]
          exact ⟨p, List.mem_of_getElem? hp.out, ho⟩
        rw [this]
        have h1 := hx.out
        exact decide_eq_true (by omega)
      case false =>
        go_wp2_with (first | (go_at_call 61; (with_reducible refine (chk2_calls s p (blk_below hs.out HB)).mono ?_); rintro en w2 ⟨rfl, hb2⟩; rw [ho]) | fail)
        go_roundg k1
        case measure => omega
        case rel => exact ⟨i + 1, wrap64 (x + 1), rfl, ⟨hw.out, by have := hi.out; omega, by rw [hal.out, List.any_append, ha.out]; simp [ho]⟩, ⟨below_step HB hb2⟩⟩
set_option maxHeartbeats 8000000 in
set_option maxRecDepth 100000 in
theorem anyS_calls (s : Sd) {gs : Nat} {w : World} {A : Option Addr} {c : Nat} {xs : List Sd} (hr : Kd.C kS w A xs.length xs) (hl : xs.length ≤ 1000000) (hs : w.heap[gs]? = some (.cells #[.int .i64 s.a, .int .i64 s.b, .int .i64 s.c, .int .i64 s.d] 133 (0, 0))) :
    Calls Tryz.prog 60 #[.slice A xs.length c, .func (.func 61) #[] #[.pointer (some ⟨gs, 0, none⟩)]] w fun en w' => en = .returned (.bool (xs.any (clS s))) ∧ Below w.heap.size w w' := by
  go_enter Tryz.func60, Tryz.ntmps60
  go_wp2_with (first | (go_at_call 88; (with_reducible refine (idxS_calls s hr hl hs).mono ?_); rintro en w2 ⟨r, rfl, e, hb2⟩) | fail)
  go_ret
  exact ⟨by rw [← e]; simp, hb2⟩
end Go.Proofs.Tt.P
