/- What is proved: the two lexers, as plain functions, answer alike at every text. Condition: the size that the row itself brings. -/
import Derived.Test.YtjhjgkdmacndgaaGreatDoorPLx6
set_option linter.unusedVariables false
set_option linter.unusedSimpArgs false
namespace Go.Proofs.YtjhjgkdmacndgaaGreatDoor.Pure
open Go.RowKit Go.Lx Go.Proofs.YtjhjgkdmacndgaaGreatDoor.PLx Go.Proofs.YtjhjgkdmacndgaaGreatDoorW.PrintWords Go.Proofs.YtjhjgkdmacndgaaGreatDoorW.PrintMore
theorem w64 {i : Int} (h0 : 0 ≤ i) (h1 : i ≤ 100000) : wrap64 i = i := by unfold wrap64; omega
theorem w32 {i : Int} (h0 : 0 ≤ i) (h1 : i ≤ 255) : wrap32 i = i := by unfold wrap32; omega
theorem bt_nat (s : ByteArray) (a : Nat) (h : a < s.size) : bt s (a : Int) = ((s[a]'h).toNat : Int) := by simp [bt, h]
theorem bt_ext (s : ByteArray) (a : Nat) (h : a < s.size) : bt (s.extract a s.size) 0 = bt s (a : Int) := by
  have h2 : 0 < (s.extract a s.size).size := by simp; omega
  rw [bt_nat s a h]
  have := bt_nat (s.extract a s.size) 0 h2
  simp only [Int.ofNat_zero] at this
  rw [this, ext_at s a s.size 0 h2 (by omega)]
  simp
theorem ext_ext (s : ByteArray) (a n : Nat) (h : a + n ≤ s.size) : (s.extract a s.size).extract 0 n = s.extract a (a + n) := by
  rw [ByteArray.extract_extract]
  congr 1
  omega
theorem ext_size (s : ByteArray) (a n : Nat) (h : a + n ≤ s.size) : (s.extract a (a + n)).size = n := by simp; omega
theorem list_size (s : ByteArray) : s.toList.length = s.size := by rw [ByteArray.toList_eq, Array.length_toList]; rfl
theorem ext_ne (s : ByteArray) (a n : Nat) (h : a + n ≤ s.size) (hn : 0 < n) : ¬ (s.extract a (a + n)).toList = ([] : List UInt8) := by
  intro e
  have := list_size (s.extract a (a + n))
  rw [e, ext_size s a n h] at this
  simp at this; omega
theorem ext_one (s : ByteArray) (a : Nat) (h : a < s.size) : (s.extract a (a + 1)).toList = [s[a]'h] := by
  have hz := ext_size s a 1 (by omega)
  rw [ByteArray.toList_eq]
  apply List.ext_getElem
  · rw [Array.length_toList]; exact hz
  · intro i h1 h2
    have hi : i = 0 := by simpa using h2
    subst hi
    have h3 : 0 < (s.extract a (a + 1)).size := by omega
    have := ext_at s a (a + 1) 0 h3 (by omega)
    simp only [Nat.add_zero] at this
    have e : (s.extract a (a + 1)).data[0]'h3 = s[a]'h := this
    simpa using e
theorem has_eq (l : List ByteArray) (x : ByteArray) : ∀ d k i, l.length - i = d → d < k → l.length ≤ 1000 →
    udometerref10_has.l0 k l x (i : Nat) = some ((l.drop i).any fun y => decide (y.toList = x.toList)) := by
  intro d
  induction d with
  | zero =>
    intro k i hd hk hl
    obtain ⟨k, rfl⟩ : ∃ m, k = m + 1 := ⟨k - 1, by omega⟩
    simp only [udometerref10_has.l0]
    rw [if_neg (by omega), List.drop_eq_nil_of_le (by omega)]; rfl
  | succ d ih =>
    intro k i hd hk hl
    obtain ⟨k, rfl⟩ : ∃ m, k = m + 1 := ⟨k - 1, by omega⟩
    have hi : i < l.length := by omega
    simp only [udometerref10_has.l0]
    rw [if_pos (by omega), if_pos (by omega), List.drop_eq_getElem_cons hi]
    have hr : rdOf ByteArray.empty l (i : Int) = l[i] := by simp [rdOf, hi]
    rw [hr]
    by_cases e : l[i].toList = x.toList
    · rw [if_pos e, List.any_cons, decide_eq_true e]; rfl
    · rw [if_neg e, w64 (by omega) (by omega)]
      have := ih k (i + 1) (by omega) (by omega) hl
      rw [show ((i : Nat) : Int) + 1 = ((i + 1 : Nat) : Int) by simp, this, List.any_cons, decide_eq_false e]; rfl
/-- two bytes that are a sign -/
def two (x : List UInt8) : Bool := decide (x = [60, 61]) || (decide (x = [62, 61]) || (decide (x = [61, 61]) || decide (x = [33, 61])))
/-- a byte that is a sign -/
def one (b : UInt8) : Bool := [40, 41, 91, 93, 44, 59, 61, 43, 45, 42, 60, 62].any fun y : UInt8 => decide (y = b)
theorem has_two (x : ByteArray) (k : Nat) (hk : 4 < k) :
    udometerref10_has.f k (([(⟨#[60, 61]⟩ : ByteArray), (⟨#[62, 61]⟩ : ByteArray), (⟨#[61, 61]⟩ : ByteArray), (⟨#[33, 61]⟩ : ByteArray)] : List ByteArray)) x = some (two x.toList) := by
  unfold udometerref10_has.f
  have := has_eq (([(⟨#[60, 61]⟩ : ByteArray), (⟨#[62, 61]⟩ : ByteArray), (⟨#[61, 61]⟩ : ByteArray), (⟨#[33, 61]⟩ : ByteArray)] : List ByteArray)) x 4 k 0 rfl hk (by decide)
  rw [show ((0 : Nat) : Int) = 0 from rfl] at this
  rw [this]
  have e1 : (⟨#[60, 61]⟩ : ByteArray).toList = [60, 61] := by rw [ByteArray.toList_eq]
  have e2 : (⟨#[62, 61]⟩ : ByteArray).toList = [62, 61] := by rw [ByteArray.toList_eq]
  have e3 : (⟨#[61, 61]⟩ : ByteArray).toList = [61, 61] := by rw [ByteArray.toList_eq]
  have e4 : (⟨#[33, 61]⟩ : ByteArray).toList = [33, 61] := by rw [ByteArray.toList_eq]
  simp only [List.drop_zero, List.any_cons, List.any_nil, e1, e2, e3, e4, two, Bool.or_false, eq_comm]
theorem one_list (c : UInt8) : (⟨#[c]⟩ : ByteArray).toList = [c] := by rw [ByteArray.toList_eq]
theorem has_one (x : ByteArray) (b : UInt8) (hx : x.toList = [b]) (k : Nat) (hk : 12 < k) :
    udometerref10_has.f k (([(⟨#[40]⟩ : ByteArray), (⟨#[41]⟩ : ByteArray), (⟨#[91]⟩ : ByteArray), (⟨#[93]⟩ : ByteArray), (⟨#[44]⟩ : ByteArray), (⟨#[59]⟩ : ByteArray), (⟨#[61]⟩ : ByteArray), (⟨#[43]⟩ : ByteArray), (⟨#[45]⟩ : ByteArray), (⟨#[42]⟩ : ByteArray), (⟨#[60]⟩ : ByteArray), (⟨#[62]⟩ : ByteArray)] : List ByteArray)) x = some (one b) := by
  unfold udometerref10_has.f
  have := has_eq (([(⟨#[40]⟩ : ByteArray), (⟨#[41]⟩ : ByteArray), (⟨#[91]⟩ : ByteArray), (⟨#[93]⟩ : ByteArray), (⟨#[44]⟩ : ByteArray), (⟨#[59]⟩ : ByteArray), (⟨#[61]⟩ : ByteArray), (⟨#[43]⟩ : ByteArray), (⟨#[45]⟩ : ByteArray), (⟨#[42]⟩ : ByteArray), (⟨#[60]⟩ : ByteArray), (⟨#[62]⟩ : ByteArray)] : List ByteArray)) x 12 k 0 rfl hk (by decide)
  rw [show ((0 : Nat) : Int) = 0 from rfl] at this
  rw [this]
  simp only [List.drop_zero, List.any_cons, List.any_nil, one_list, hx, one, List.cons.injEq, and_true]
/-- strings.ContainsRune over the signs tells the same -/
theorem contains_one (b : UInt8) : strings_ContainsRune.f (⟨#[40, 41, 91, 93, 44, 59, 43, 45, 42, 61, 60, 62]⟩ : ByteArray) (b.toNat : Int) = some (one b) := by
  unfold strings_ContainsRune.f
  have hb := b.toNat_lt
  rw [if_pos ⟨rfl, by omega, by omega⟩]
  have key : ∀ n : Nat, n < 256 → (if (n : Int) < 128 then decide (0 ≤ Lib.indexByte [40, 41, 91, 93, 44, 59, 43, 45, 42, 61, 60, 62] (UInt8.ofNat n)) else false) = one (UInt8.ofNat n) := by decide +kernel
  have := key b.toNat (by omega)
  rw [UInt8.ofNat_toNat] at this
  rw [← this]
  simp
theorem letter_eq (c : UInt8) : udometerref10_letter.f (c.toNat : Int) = some (isL c.toNat) := by
  unfold udometerref10_letter.f isL
  by_cases h : 97 ≤ c.toNat
  · rw [if_pos (by omega)]; simp [h]; omega
  · rw [if_neg (by omega)]; simp [h]
theorem digit_eq (c : UInt8) : udometerref10_digit.f (c.toNat : Int) = some (isD c.toNat) := by
  unfold udometerref10_digit.f isD
  by_cases h : 48 ≤ c.toNat
  · rw [if_pos (by omega)]; simp [h]; omega
  · rw [if_neg (by omega)]; simp [h]
theorem isLetter_eq (c : UInt8) : ask_isLetter.f (c.toNat : Int) = some (isL c.toNat) := letter_eq c
theorem isDigit_eq (c : UInt8) : ask_isDigit.f (c.toNat : Int) = some (isD c.toNat) := digit_eq c
theorem next_l0 (s : ByteArray) (a : Int) (hs : s.size ≤ 1000) : ∀ d k pos, s.size - pos = d → pos ≤ s.size → d < k →
    ∃ j, k ≤ j + d + 1 ∧ udometerref10_next.l0 k s a (pos : Nat) = udometerref10_next.j1 j s a (lead isL s d pos : Nat) := by
  intro d
  induction d with
  | zero =>
    intro k pos hd hp hk
    obtain ⟨k, rfl⟩ : ∃ m, k = m + 1 := ⟨k - 1, by omega⟩
    refine ⟨k, by omega, ?_⟩
    simp only [udometerref10_next.l0]
    rw [if_neg (by omega), lead_end isL s 0 pos (by omega)]
  | succ d ih =>
    intro k pos hd hp hk
    obtain ⟨k, rfl⟩ : ∃ m, k = m + 1 := ⟨k - 1, by omega⟩
    have hlt : pos < s.size := by omega
    simp only [udometerref10_next.l0]
    rw [if_pos (by omega), if_pos (by omega), bt_nat s pos hlt, letter_eq]
    simp only [Option.bind_some]
    have hl : lead isL s (d + 1) pos = if isL (s[pos]'hlt).toNat = true then lead isL s d (pos + 1) else pos := by
      show (if h : pos < s.size then _ else _) = _
      rw [dif_pos hlt]
    rw [hl]
    by_cases e : isL (s[pos]'hlt).toNat = true
    · rw [if_pos e, if_pos e, w64 (by omega) (by omega)]
      obtain ⟨j, hj, e2⟩ := ih k (pos + 1) (by omega) (by omega) (by omega)
      exact ⟨j, by omega, by rw [show ((pos : Nat) : Int) + 1 = ((pos + 1 : Nat) : Int) by simp]; exact e2⟩
    · rw [if_neg e, if_neg e]
      exact ⟨k, by omega, rfl⟩
theorem next_l1 (s : ByteArray) (a : Int) (hs : s.size ≤ 1000) : ∀ d k pos, s.size - pos = d → pos ≤ s.size → d < k →
    ∃ j, k ≤ j + d + 1 ∧ udometerref10_next.l1 k s a (pos : Nat) = udometerref10_next.j3 j s a (lead isD s d pos : Nat) := by
  intro d
  induction d with
  | zero =>
    intro k pos hd hp hk
    obtain ⟨k, rfl⟩ : ∃ m, k = m + 1 := ⟨k - 1, by omega⟩
    refine ⟨k, by omega, ?_⟩
    simp only [udometerref10_next.l1]
    rw [if_neg (by omega), lead_end isD s 0 pos (by omega)]
  | succ d ih =>
    intro k pos hd hp hk
    obtain ⟨k, rfl⟩ : ∃ m, k = m + 1 := ⟨k - 1, by omega⟩
    have hlt : pos < s.size := by omega
    simp only [udometerref10_next.l1]
    rw [if_pos (by omega), if_pos (by omega), bt_nat s pos hlt, digit_eq]
    simp only [Option.bind_some]
    have hl : lead isD s (d + 1) pos = if isD (s[pos]'hlt).toNat = true then lead isD s d (pos + 1) else pos := by
      show (if h : pos < s.size then _ else _) = _
      rw [dif_pos hlt]
    rw [hl]
    by_cases e : isD (s[pos]'hlt).toNat = true
    · rw [if_pos e, if_pos e, w64 (by omega) (by omega)]
      obtain ⟨j, hj, e2⟩ := ih k (pos + 1) (by omega) (by omega) (by omega)
      exact ⟨j, by omega, by rw [show ((pos : Nat) : Int) + 1 = ((pos + 1 : Nat) : Int) by simp]; exact e2⟩
    · rw [if_neg e, if_neg e]
      exact ⟨k, by omega, rfl⟩
/-- the sign at a place: its length -/
def sgn (s : ByteArray) (a : Nat) : Nat :=
  if a + 1 < s.size ∧ two (s.extract a (a + 2)).toList = true then 2 else if h : a < s.size then (if one (s[a]'h) = true then 1 else 0) else 0
theorem next_j4 (s : ByteArray) (a : Nat) (b : Bool) (ha : a < s.size) (hs : s.size ≤ 1000) (hb : b = (decide (a + 1 < s.size) && two (s.extract a (a + 2)).toList)) (k : Nat) (hk : 20 < k) :
    udometerref10_next.j4 k s (a : Int) b = some (if sgn s a = 0 then 0 else 3, (sgn s a : Int)) := by
  obtain ⟨k, rfl⟩ : ∃ m, k = m + 1 := ⟨k - 1, by omega⟩
  simp only [udometerref10_next.j4]
  cases b with
  | true =>
    rw [if_pos rfl]
    have hb := hb.symm
    simp only [Bool.and_eq_true, decide_eq_true_eq] at hb
    have : sgn s a = 2 := by unfold sgn; rw [if_pos hb]
    rw [this]; rfl
  | false =>
    rw [if_neg (by simp), w64 (by omega) (by omega), if_pos (by omega), if_pos (by omega), if_pos (by omega)]
    have hn : ¬ (a + 1 < s.size ∧ two (s.extract a (a + 2)).toList = true) := by
      intro h
      have hb := hb.symm
      rw [decide_eq_true h.1, h.2] at hb
      cases hb
    have e : (s.extract ((a : Int)).toNat ((a : Int) + 1).toNat).toList = [s[a]'ha] := by
      rw [show ((a : Int) + 1).toNat = a + 1 by omega, Int.toNat_natCast]; exact ext_one s a ha
    rw [has_one _ _ e k (by omega)]
    simp only [Option.bind_some]
    have hsg : sgn s a = if one (s[a]'ha) = true then 1 else 0 := by unfold sgn; rw [if_neg hn, dif_pos ha]
    rw [hsg]
    by_cases h1 : one (s[a]'ha) = true
    · rw [if_pos h1]; simp [h1]
    · rw [if_neg h1]; simp [h1]
theorem next_eq (s : ByteArray) (a : Nat) (ha : a < s.size) (hs : s.size ≤ 1000) (k : Nat) (hk : 3000 < k) :
    udometerref10_next.f k s (a : Int) = some (
      if a < lead isL s (s.size - a) a then (1, ((lead isL s (s.size - a) a - a : Nat) : Int))
      else if a < lead isD s (s.size - a) a then (2, ((lead isD s (s.size - a) a - a : Nat) : Int))
      else (if sgn s a = 0 then 0 else 3, (sgn s a : Int))) := by
  unfold udometerref10_next.f
  obtain ⟨j, hj, e⟩ := next_l0 s (a : Int) hs (s.size - a) k a rfl (by omega) (by omega)
  rw [e]
  have hge := lead_ge isL s (s.size - a) a
  have hle := lead_le isL s (s.size - a) a (by omega)
  generalize lead isL s (s.size - a) a = L at hge hle e
  obtain ⟨j, rfl⟩ : ∃ m, j = m + 1 := ⟨j - 1, by omega⟩
  simp only [udometerref10_next.j1]
  by_cases h1 : a < L
  · rw [if_pos (by omega), if_pos h1, w64 (by omega) (by omega)]
    congr 2; omega
  · rw [if_neg (by omega), if_neg h1]
    obtain rfl : L = a := by omega
    obtain ⟨j', hj', e'⟩ := next_l1 s (L : Int) hs (s.size - L) j L rfl (by omega) (by omega)
    rw [e']
    have hge := lead_ge isD s (s.size - L) L
    have hle := lead_le isD s (s.size - L) L (by omega)
    generalize lead isD s (s.size - L) L = D at hge hle e'
    obtain ⟨j', rfl⟩ : ∃ m, j' = m + 1 := ⟨j' - 1, by omega⟩
    simp only [udometerref10_next.j3]
    by_cases h2 : L < D
    · rw [if_pos (by omega), if_pos h2, w64 (by omega) (by omega)]
      congr 2; omega
    · rw [if_neg (by omega), if_neg h2, w64 (by omega) (by omega)]
      by_cases h3 : L + 1 < s.size
      · rw [if_pos (by omega), if_pos (by omega), w64 (by omega) (by omega), if_pos (by omega), if_pos (by omega)]
        have ex : s.extract ((L : Int)).toNat ((L : Int) + 2).toNat = s.extract L (L + 2) := by
          rw [show ((L : Int) + 2).toNat = L + 2 by omega, Int.toNat_natCast]
        rw [ex, has_two _ j' (by omega)]
        simp only [Option.bind_some]
        exact next_j4 s L _ ha hs (by rw [decide_eq_true h3]; rfl) j' (by omega)
      · rw [if_neg (by omega)]
        exact next_j4 s L _ ha hs (by rw [decide_eq_false h3]; rfl) j' (by omega)
end Go.Proofs.YtjhjgkdmacndgaaGreatDoor.Pure
namespace Go.Proofs.YtjhjgkdmacndgaaGreatDoor.Pure
open Go.RowKit Go.Lx Go.Proofs.YtjhjgkdmacndgaaGreatDoor.PLx Go.Proofs.YtjhjgkdmacndgaaGreatDoorW.PrintWords Go.Proofs.YtjhjgkdmacndgaaGreatDoorW.PrintMore
theorem amount_full (t : ByteArray) (ht : t.size ≤ 1000) : ∀ d k pos, t.size - pos = d → d < k →
    udometerref10_amount.l0 k t 1099511627777 (pos : Nat) = some 1099511627777 := by
  intro d
  induction d with
  | zero =>
    intro k pos hd hk
    obtain ⟨k, rfl⟩ : ∃ m, k = m + 1 := ⟨k - 1, by omega⟩
    simp only [udometerref10_amount.l0]
    rw [if_neg (by omega)]
  | succ d ih =>
    intro k pos hd hk
    obtain ⟨k, rfl⟩ : ∃ m, k = m + 1 := ⟨k - 1, by omega⟩
    simp only [udometerref10_amount.l0]
    have hb := bt_range t (pos : Int)
    rw [if_pos (by omega), if_pos (by omega), w64 (i := (pos : Int) + 1) (by omega) (by omega)]
    have e : mn (wrap64 ((wrap64 (10 * 1099511627777)) + (((bt t (pos : Int)) - 48) % 256))) 1099511627777 = 1099511627777 := by
      unfold mn wrap64; omega
    rw [e, show ((pos : Nat) : Int) + 1 = ((pos + 1 : Nat) : Int) by simp]
    exact ih k (pos + 1) (by omega) (by omega)
theorem amount_eq (t : ByteArray) (ht : t.size ≤ 1000) (hd : ∀ (j : Nat) (h : j < t.size), isD (t[j]'h).toNat = true) : ∀ d k pos (n : Int), t.size - pos = d → d < k → 0 ≤ n → n ≤ 1099511627776 →
    udometerref10_amount.l0 k t n (pos : Nat) = some (if (valf t d pos n).2 = true then (valf t d pos n).1 else 1099511627777) ∧ ((valf t d pos n).2 = true → (valf t d pos n).1 ≤ 1099511627776) := by
  intro d
  induction d with
  | zero =>
    intro k pos n hp hk h0 h1
    obtain ⟨k, rfl⟩ : ∃ m, k = m + 1 := ⟨k - 1, by omega⟩
    simp only [udometerref10_amount.l0]
    rw [if_neg (by omega), valf_end t 0 pos n (by omega)]
    exact ⟨rfl, fun _ => h1⟩
  | succ d ih =>
    intro k pos n hp hk h0 h1
    obtain ⟨k, rfl⟩ : ∃ m, k = m + 1 := ⟨k - 1, by omega⟩
    have hlt : pos < t.size := by omega
    have hc := hd pos hlt
    simp only [isD, Bool.and_eq_true, decide_eq_true_eq] at hc
    simp only [udometerref10_amount.l0]
    rw [if_pos (by omega), if_pos (by omega), w64 (i := (pos : Int) + 1) (by omega) (by omega), bt_nat t pos hlt]
    have hv : valf t (d + 1) pos n = if 10 * n + (((t[pos]'hlt).toNat : Int) - 48) > 1099511627776 then (0, false) else valf t d (pos + 1) (10 * n + (((t[pos]'hlt).toNat : Int) - 48)) := by
      show (if h : pos < t.size then _ else _) = _
      rw [dif_pos hlt]
    rw [hv]
    generalize (t[pos]'hlt).toNat = c at hc
    rw [show ((pos : Nat) : Int) + 1 = ((pos + 1 : Nat) : Int) by simp]
    by_cases h : 10 * n + ((c : Int) - 48) > 1099511627776
    · rw [if_pos h]
      have e : mn (wrap64 ((wrap64 (10 * n)) + (((c : Int) - 48) % 256))) 1099511627777 = 1099511627777 := by
        unfold mn wrap64; omega
      rw [e, amount_full t ht d k (pos + 1) (by omega) (by omega)]
      exact ⟨rfl, fun h => by cases h⟩
    · rw [if_neg h]
      have e : mn (wrap64 ((wrap64 (10 * n)) + (((c : Int) - 48) % 256))) 1099511627777 = 10 * n + ((c : Int) - 48) := by
        unfold mn wrap64; omega
      rw [e]
      exact ih k (pos + 1) _ (by omega) (by omega) (by omega) (by omega)
theorem digits_ext (s : ByteArray) (a : Nat) (ha : a ≤ s.size) : ∀ (j : Nat) (h : j < (s.extract a (lead isD s (s.size - a) a)).size), isD ((s.extract a (lead isD s (s.size - a) a))[j]'h).toNat = true := by
  intro j h
  have hle := lead_le isD s (s.size - a) a ha
  have hsz : (s.extract a (lead isD s (s.size - a) a)).size = lead isD s (s.size - a) a - a := by simp; omega
  have hj : a + j < s.size := by omega
  rw [ext_at s a _ j h hj]
  exact lead_all isD s (s.size - a) a (a + j) hj (by omega) (by omega)
theorem beq_dec (x y : List UInt8) : (x == y) = decide (x = y) := by
  by_cases h : x = y
  · rw [decide_eq_true h]; exact beq_iff_eq.2 h
  · rw [decide_eq_false h]; exact beq_eq_false_iff_ne.2 h
theorem sign_eq (s : ByteArray) (a : Nat) (ha : a < s.size) (k : Nat) (hk : 2 < k) :
    ask_sign.f k (s.extract a s.size) = some (if sgn s a = 0 then (⟨#[]⟩ : ByteArray) else s.extract a (a + sgn s a)) := by
  have hsz : (s.extract a s.size).size = s.size - a := by simp
  obtain ⟨k, rfl⟩ : ∃ m, k = m + 1 := ⟨k - 1, by omega⟩
  have hj : ∀ b, b = (decide (a + 1 < s.size) && two (s.extract a (a + 2)).toList) → ask_sign.j0 (k + 1) (s.extract a s.size) b = some (if sgn s a = 0 then (⟨#[]⟩ : ByteArray) else s.extract a (a + sgn s a)) := by
    intro b hb
    simp only [ask_sign.j0]
    cases b with
    | true =>
      have hb := hb.symm
      simp only [Bool.and_eq_true, decide_eq_true_eq] at hb
      have hg : sgn s a = 2 := by unfold sgn; rw [if_pos hb]
      rw [if_pos rfl, if_pos (by omega), if_pos (by omega), hg, ext_ext s a 2 (by omega), if_neg (by decide)]
    | false =>
      have hn : ¬ (a + 1 < s.size ∧ two (s.extract a (a + 2)).toList = true) := by
        intro h
        have hb := hb.symm
        rw [decide_eq_true h.1, h.2] at hb
        cases hb
      have hsg : sgn s a = if one (s[a]'ha) = true then 1 else 0 := by unfold sgn; rw [if_neg hn, dif_pos ha]
      have hr := (s[a]'ha).toNat_lt
      rw [if_neg (by simp), if_pos (by omega), bt_ext s a ha, bt_nat s a ha, w32 (by omega) (by omega), contains_one, hsg]
      simp only [Option.bind_some]
      by_cases h1 : one (s[a]'ha) = true
      · rw [if_pos h1, if_pos h1, if_pos (by omega), if_pos (by omega), if_neg (by omega), ext_ext s a 1 (by omega)]
      · rw [if_neg h1, if_neg h1, if_pos rfl]
  unfold ask_sign.f
  by_cases h : a + 1 < s.size
  · rw [if_pos (by omega), if_pos (by omega), if_pos (by omega), ext_ext s a 2 (by omega)]
    by_cases e1 : (s.extract a (a + 2)).toList = ([60, 61] : List UInt8)
    · rw [if_pos e1]; exact hj true (by rw [decide_eq_true h, two, decide_eq_true e1]; rfl)
    · rw [if_neg e1]
      by_cases e2 : (s.extract a (a + 2)).toList = ([62, 61] : List UInt8)
      · rw [if_pos e2]; exact hj true (by rw [decide_eq_true h, two, decide_eq_true e2]; simp)
      · rw [if_neg e2]
        by_cases e3 : (s.extract a (a + 2)).toList = ([61, 61] : List UInt8)
        · rw [if_pos e3]; exact hj true (by rw [decide_eq_true h, two, decide_eq_true e3]; simp)
        · rw [if_neg e3]
          exact hj _ (by rw [decide_eq_true h, two, decide_eq_false e1, decide_eq_false e2, decide_eq_false e3]; exact beq_dec _ _)
  · rw [if_neg (by omega)]
    exact hj false (by rw [decide_eq_false h]; rfl)
theorem lead_pos (p : Nat → Bool) (s : ByteArray) (a : Nat) (ha : a < s.size) : a < lead p s (s.size - a) a ↔ p (s[a]'ha).toNat = true := by
  obtain ⟨d, hd⟩ : ∃ d, s.size - a = d + 1 := ⟨s.size - a - 1, by omega⟩
  rw [hd]
  have hl : lead p s (d + 1) a = if p (s[a]'ha).toNat = true then lead p s d (a + 1) else a := by
    show (if h : a < s.size then _ else _) = _
    rw [dif_pos ha]
  rw [hl]
  by_cases e : p (s[a]'ha).toNat = true
  · rw [if_pos e]
    have := lead_ge p s d (a + 1)
    exact ⟨fun _ => e, fun _ => by omega⟩
  · rw [if_neg e]
    exact ⟨fun h => by omega, fun h => absurd h e⟩
theorem lead_zero (p : Nat → Bool) (s : ByteArray) (a : Nat) (ha : a ≤ s.size) : lead p (s.extract a s.size) (s.extract a s.size).size 0 = lead p s (s.size - a) a - a := by
  have h := lead_extract p s a ha (s.extract a s.size).size 0
  have hsz : (s.extract a s.size).size = s.size - a := by simp
  rw [hsz] at h ⊢
  rw [Nat.add_zero] at h
  omega
/-- what a step comes to: the rest is what is done behind it -/
def stepF (s : ByteArray) (out : List S72) (a : Nat) (go : List S72 → Nat → Option (List S72 × Int × Int)) : Option (List S72 × Int × Int) :=
  if h : a < s.size then
    (if (s[a]'h).toNat = 32 ∨ (s[a]'h).toNat = 10 then go out (a + 1)
    else if a < lead isL s (s.size - a) a then go (out ++ [⟨1, s.extract a (lead isL s (s.size - a) a), 0, (a : Int)⟩]) (lead isL s (s.size - a) a)
    else if a < lead isD s (s.size - a) a then
      (if (valf (s.extract a (lead isD s (s.size - a) a)) (s.extract a (lead isD s (s.size - a) a)).size 0 0).2 = true then
        go (out ++ [⟨2, s.extract a (lead isD s (s.size - a) a), (valf (s.extract a (lead isD s (s.size - a) a)) (s.extract a (lead isD s (s.size - a) a)).size 0 0).1, (a : Int)⟩]) (lead isD s (s.size - a) a)
      else some ([], 3, (a : Int)))
    else if sgn s a = 0 then some ([], 7, (a : Int))
    else go (out ++ [⟨3, s.extract a (a + sgn s a), 0, (a : Int)⟩]) (a + sgn s a))
  else some (out, 0, -1)
theorem sgn_le (s : ByteArray) (a : Nat) (ha : a < s.size) : a + sgn s a ≤ s.size ∧ sgn s a ≤ 2 := by
  unfold sgn
  split
  · rename_i h; omega
  · by_cases h : one (s[a]'ha) = true
    · rw [if_pos h]; omega
    · rw [if_neg h]; omega
theorem ask_step (s : ByteArray) (hs : s.size ≤ 600) (out : List S72) (a : Nat) (ho : out.length ≤ 1000) (k : Nat) (hk : 3000 < k) :
    ask_Lex.l0 (k + 2) s out (a : Int) = stepF s out a fun out' a' => ask_Lex.l0 k s out' (a' : Int) := by
  unfold stepF
  by_cases ha : a < s.size
  · have hsz : (s.extract a s.size).size = s.size - a := by simp
    have hr := (s[a]'ha).toNat_lt
    have hL := lead_pos isL s a ha
    have hD := lead_pos isD s a ha
    have hLge := lead_ge isL s (s.size - a) a
    have hLle := lead_le isL s (s.size - a) a (by omega)
    have hDge := lead_ge isD s (s.size - a) a
    have hDle := lead_le isD s (s.size - a) a (by omega)
    rw [dif_pos ha]
    have hx : s.extract ((a : Int)).toNat s.size = s.extract a s.size := by rw [Int.toNat_natCast]
    have hadd : ∀ n : Nat, n ≤ 1000 → wrap64 ((a : Int) + (n : Int)) = ((a + n : Nat) : Int) := fun n hn => by rw [w64 (by omega) (by omega)]; simp
    have hadd1 : wrap64 ((a : Int) + 1) = ((a + 1 : Nat) : Int) := by rw [w64 (by omega) (by omega)]; simp
    have hj : ∀ b, b = decide ((s[a]'ha).toNat = 32 ∨ (s[a]'ha).toNat = 10) → ask_Lex.j1 (k + 1) s out (a : Int) (s.extract a s.size) ((s[a]'ha).toNat : Int) b 0 (⟨#[]⟩ : ByteArray) 0 (a : Int) = stepF s out a fun out' a' => ask_Lex.l0 k s out' (a' : Int) := fun b hb => by
      unfold stepF
      rw [dif_pos ha]
      simp only [ask_Lex.j1]
      by_cases h0 : (s[a]'ha).toNat = 32 ∨ (s[a]'ha).toNat = 10
      · rw [decide_eq_true h0] at hb
        rw [hb, if_pos rfl, if_pos h0, hadd1]
      · rw [decide_eq_false h0] at hb
        rw [hb, if_neg (by simp), if_neg h0, isLetter_eq]
        simp only [Option.bind_some]
        by_cases h1 : isL (s[a]'ha).toNat = true
        · have hl := hL.2 h1
          rw [if_pos h1, if_pos hl]
          unfold ask_run.f
          rw [if_pos (by omega), if_pos rfl, lead_zero isL s a (by omega)]
          simp only [Option.bind_some]
          have ee : s.extract a (a + (lead isL s (s.size - a) a - a)) = s.extract a (lead isL s (s.size - a) a) := by congr 1; omega
          rw [if_pos (by omega), if_pos (by omega), if_pos (by omega), Int.toNat_natCast, ext_ext s a _ (by omega), ext_size s a _ (by omega), ee, hadd _ (by omega)]
          congr 1
          congr 1
          omega
        · rw [if_neg h1, if_neg (fun h => h1 (hL.1 h)), isDigit_eq]
          simp only [Option.bind_some]
          by_cases h2 : isD (s[a]'ha).toNat = true
          · have hl := hD.2 h2
            rw [if_pos h2, if_pos hl]
            unfold ask_run.f
            rw [if_pos (by omega), if_neg (by decide), if_pos rfl, lead_zero isD s a (by omega)]
            simp only [Option.bind_some]
            have ee : s.extract a (a + (lead isD s (s.size - a) a - a)) = s.extract a (lead isD s (s.size - a) a) := by congr 1; omega
            have es : (s.extract a (lead isD s (s.size - a) a)).size = lead isD s (s.size - a) a - a := by simp; omega
            rw [if_pos (by omega), if_pos (by omega), Int.toNat_natCast, ext_ext s a _ (by omega), ee]
            have ev : ask_value.f (s.extract a (lead isD s (s.size - a) a)) = some (valf (s.extract a (lead isD s (s.size - a) a)) (s.extract a (lead isD s (s.size - a) a)).size 0 0) := by
              unfold ask_value.f
              rw [if_pos ⟨by omega, fun j => digits_ext s a (by omega) j.1 j.2⟩]
            rw [ev]
            simp only [Option.bind_some]
            by_cases h3 : (valf (s.extract a (lead isD s (s.size - a) a)) (s.extract a (lead isD s (s.size - a) a)).size 0 0).2 = true
            · rw [if_pos h3, if_pos h3, if_pos (by omega), es, hadd _ (by omega)]
              congr 1
              congr 1
              omega
            · rw [if_neg h3, if_neg h3]
          · rw [if_neg h2, if_neg (fun h => h2 (hD.1 h)), sign_eq s a ha k (by omega)]
            simp only [Option.bind_some]
            have hg := sgn_le s a ha
            by_cases h3 : sgn s a = 0
            · rw [if_pos h3, if_pos (by rw [ByteArray.toList_eq]), if_pos h3]
            · rw [if_neg h3, if_neg (ext_ne s a _ hg.1 (by omega)), if_neg h3, if_pos (by omega), ext_size s a _ hg.1, hadd _ (by omega)]
    have hj' := hj
    unfold stepF at hj'
    rw [dif_pos ha] at hj'
    simp only [ask_Lex.l0]
    rw [if_pos (by omega), if_pos (by omega), if_pos (by omega), hx, if_pos (by omega), bt_ext s a ha, bt_nat s a ha, w32 (by omega) (by omega)]
    by_cases h0 : (s[a]'ha).toNat = 32
    · rw [if_pos (by omega)]
      exact hj' true (by rw [decide_eq_true (.inl h0)])
    · rw [if_neg (by omega)]
      refine hj' _ ?_
      by_cases h1 : (s[a]'ha).toNat = 10
      · rw [decide_eq_true (.inr h1), h1]; rfl
      · rw [decide_eq_false (by omega)]
        exact beq_eq_false_iff_ne.2 (by omega)
  · rw [dif_neg ha]
    simp only [ask_Lex.l0]
    rw [if_neg (by omega)]
theorem ref_step (s : ByteArray) (hs : s.size ≤ 600) (out : List S72) (a : Nat) (ho : out.length ≤ 1000) (k : Nat) (hk : 3000 < k) :
    udometerref10_Lex.l0 (k + 2) s out (a : Int) = stepF s out a fun out' a' => udometerref10_Lex.l0 k s out' (a' : Int) := by
  unfold stepF
  by_cases ha : a < s.size
  · have hr := (s[a]'ha).toNat_lt
    have hLge := lead_ge isL s (s.size - a) a
    have hLle := lead_le isL s (s.size - a) a (by omega)
    have hDge := lead_ge isD s (s.size - a) a
    have hDle := lead_le isD s (s.size - a) a (by omega)
    rw [dif_pos ha]
    have hadd : ∀ n : Nat, n ≤ 1000 → wrap64 ((a : Int) + (n : Int)) = ((a + n : Nat) : Int) := fun n hn => by rw [w64 (by omega) (by omega)]; simp
    have hadd1 : wrap64 ((a : Int) + 1) = ((a + 1 : Nat) : Int) := by rw [w64 (by omega) (by omega)]; simp
    have hj : ∀ b, b = decide ((s[a]'ha).toNat = 32 ∨ (s[a]'ha).toNat = 10) → udometerref10_Lex.j1 (k + 1) s out (a : Int) b = stepF s out a fun out' a' => udometerref10_Lex.l0 k s out' (a' : Int) := fun b hb => by
      unfold stepF
      rw [dif_pos ha]
      simp only [udometerref10_Lex.j1]
      by_cases h0 : (s[a]'ha).toNat = 32 ∨ (s[a]'ha).toNat = 10
      · rw [decide_eq_true h0] at hb
        rw [hb, if_pos rfl, if_pos h0, hadd1]
      · rw [decide_eq_false h0] at hb
        rw [hb, if_neg (by simp), if_neg h0, next_eq s a ha (by omega) k (by omega)]
        simp only [Option.bind_some]
        by_cases h1 : a < lead isL s (s.size - a) a
        · rw [if_pos h1, if_pos h1]
          have ee : a + (lead isL s (s.size - a) a - a) = lead isL s (s.size - a) a := by omega
          simp only
          rw [if_neg (by omega), hadd _ (by omega), ee, if_pos (by omega), if_pos (by omega), if_pos (by omega), if_neg (by decide), if_pos (by omega), Int.toNat_natCast, Int.toNat_natCast]
        · rw [if_neg h1, if_neg h1]
          by_cases h2 : a < lead isD s (s.size - a) a
          · rw [if_pos h2, if_pos h2]
            have ee : a + (lead isD s (s.size - a) a - a) = lead isD s (s.size - a) a := by omega
            have es : (s.extract a (lead isD s (s.size - a) a)).size = lead isD s (s.size - a) a - a := by simp; omega
            simp only
            rw [if_neg (by omega), hadd _ (by omega), ee, if_pos (by omega), if_pos (by omega), if_pos (by omega), if_pos trivial, Int.toNat_natCast, Int.toNat_natCast]
            unfold udometerref10_amount.f
            obtain ⟨e1, e2⟩ := amount_eq (s.extract a (lead isD s (s.size - a) a)) (by omega) (digits_ext s a (by omega)) (s.extract a (lead isD s (s.size - a) a)).size k 0 0 (by omega) (by omega) (by omega) (by omega)
            rw [show ((0 : Nat) : Int) = 0 from rfl] at e1
            rw [e1]
            simp only [Option.bind_some]
            by_cases h3 : (valf (s.extract a (lead isD s (s.size - a) a)) (s.extract a (lead isD s (s.size - a) a)).size 0 0).2 = true
            · have := e2 h3
              rw [if_pos h3, if_pos h3, if_neg (by omega), if_pos (by omega)]
            · rw [if_neg h3, if_neg h3, if_pos (by omega)]
          · rw [if_neg h2, if_neg h2]
            have hg := sgn_le s a ha
            simp only
            by_cases h3 : sgn s a = 0
            · rw [if_pos (by omega), if_pos h3]
            · rw [if_neg (by omega), if_neg h3, if_neg h3, hadd _ (by omega), if_pos (by omega), if_pos (by omega), if_pos (by omega), if_neg (by decide), if_pos (by omega), Int.toNat_natCast, Int.toNat_natCast]
    have hj' := hj
    unfold stepF at hj'
    rw [dif_pos ha] at hj'
    simp only [udometerref10_Lex.l0]
    rw [if_pos (by omega), if_pos (by omega), bt_nat s a ha]
    by_cases h0 : (s[a]'ha).toNat = 32
    · rw [if_pos (by omega)]
      exact hj' true (by rw [decide_eq_true (.inl h0)])
    · rw [if_neg (by omega)]
      refine hj' _ ?_
      by_cases h1 : (s[a]'ha).toNat = 10
      · rw [decide_eq_true (.inr h1), h1]; rfl
      · rw [decide_eq_false (by omega)]
        exact beq_eq_false_iff_ne.2 (by omega)
  · rw [dif_neg ha]
    simp only [udometerref10_Lex.l0]
    rw [if_neg (by omega)]
theorem both (s : ByteArray) (hs : s.size ≤ 600) : ∀ d a (out : List S72), s.size - a ≤ d → a ≤ s.size → out.length ≤ a →
    ∃ r : List S72 × Int × Int, r.1.length ≤ 600 ∧ ∀ k, 3002 + 2 * d < k → ask_Lex.l0 k s out (a : Int) = some r ∧ udometerref10_Lex.l0 k s out (a : Int) = some r := by
  intro d
  induction d with
  | zero =>
    intro a out hd ha ho
    refine ⟨(out, 0, -1), by show out.length ≤ 600; omega, fun k hk => ?_⟩
    obtain ⟨k, rfl⟩ : ∃ m, k = m + 2 := ⟨k - 2, by omega⟩
    rw [ask_step s hs out a (by omega) k (by omega), ref_step s hs out a (by omega) k (by omega)]
    unfold stepF
    rw [dif_neg (by omega), dif_neg (by omega)]
    exact ⟨rfl, rfl⟩
  | succ d ih =>
    intro a out hd ha ho
    have go : ∀ out' a', out'.length ≤ out.length + 1 → a < a' → a' ≤ s.size →
        ∃ r : List S72 × Int × Int, r.1.length ≤ 600 ∧ ∀ k, 3002 + 2 * d < k → ask_Lex.l0 k s out' (a' : Int) = some r ∧ udometerref10_Lex.l0 k s out' (a' : Int) = some r :=
      fun out' a' h1 h2 h3 => ih a' out' (by omega) h3 (by omega)
    have main : ∃ r : List S72 × Int × Int, r.1.length ≤ 600 ∧ ∀ k, 3002 + 2 * d < k → (stepF s out a fun out' a' => ask_Lex.l0 k s out' (a' : Int)) = some r ∧ (stepF s out a fun out' a' => udometerref10_Lex.l0 k s out' (a' : Int)) = some r := by
      unfold stepF
      by_cases h : a < s.size
      · simp only [dif_pos h]
        by_cases h0 : (s[a]'h).toNat = 32 ∨ (s[a]'h).toNat = 10
        · simp only [if_pos h0]
          exact go out (a + 1) (by omega) (by omega) (by omega)
        · simp only [if_neg h0]
          by_cases h1 : a < lead isL s (s.size - a) a
          · simp only [if_pos h1]
            exact go _ _ (by simp) h1 (lead_le isL s (s.size - a) a (by omega))
          · simp only [if_neg h1]
            by_cases h2 : a < lead isD s (s.size - a) a
            · simp only [if_pos h2]
              split
              · exact go _ _ (by simp) h2 (lead_le isD s (s.size - a) a (by omega))
              · exact ⟨([], 3, (a : Int)), by simp, fun _ _ => ⟨rfl, rfl⟩⟩
            · simp only [if_neg h2]
              by_cases h3 : sgn s a = 0
              · simp only [if_pos h3]
                exact ⟨([], 7, (a : Int)), by simp, fun _ _ => ⟨rfl, rfl⟩⟩
              · simp only [if_neg h3]
                have hg := sgn_le s a h
                exact go _ _ (by simp) (by omega) hg.1
      · simp only [dif_neg h]
        exact ⟨(out, 0, -1), by show out.length ≤ 600; omega, fun _ _ => ⟨rfl, rfl⟩⟩
    obtain ⟨r, hr, hk⟩ := main
    refine ⟨r, hr, fun k hk' => ?_⟩
    obtain ⟨k, rfl⟩ : ∃ m, k = m + 2 := ⟨k - 2, by omega⟩
    rw [ask_step s hs out a (by omega) k (by omega), ref_step s hs out a (by omega) k (by omega)]
    exact hk k (by omega)
theorem same_l0 (l : List S72) (hl : l.length ≤ 1000) : ∀ d k i, l.length - i = d → d < k → udometerref10_SameTokens.l0 k l l (i : Nat) = some true := by
  intro d
  induction d with
  | zero =>
    intro k i hd hk
    obtain ⟨k, rfl⟩ : ∃ m, k = m + 1 := ⟨k - 1, by omega⟩
    simp only [udometerref10_SameTokens.l0]
    rw [if_neg (by omega)]
  | succ d ih =>
    intro k i hd hk
    obtain ⟨k, rfl⟩ : ∃ m, k = m + 1 := ⟨k - 1, by omega⟩
    simp only [udometerref10_SameTokens.l0]
    rw [if_pos (by omega), if_pos (by omega), if_pos (by omega), if_neg (by simp), w64 (by omega) (by omega), show ((i : Nat) : Int) + 1 = ((i + 1 : Nat) : Int) by simp]
    exact ih k (i + 1) (by omega) (by omega)
theorem same_eq (l : List S72) (hl : l.length ≤ 1000) (k : Nat) (hk : 1000 < k) : udometerref10_SameTokens.f k l l = some true := by
  unfold udometerref10_SameTokens.f
  rw [if_pos rfl]
  exact same_l0 l hl l.length k 0 (by omega) (by omega)
theorem AskLexes : udometerlaw10_AskLexes.Pure := by
  intro s _
  refine ⟨10000, ?_⟩
  unfold udometerlaw10_AskLexes.f sanity.f
  by_cases h7 : (s.size : Int) > 700
  · rw [if_pos h7]; rfl
  · rw [if_neg h7]
    have : ∃ r : List S72 × Int × Int, r.1.length ≤ 600 ∧ ask_Lex.f 10000 s = some r ∧ udometerref10_Lex.f 10000 s = some r := by
      unfold ask_Lex.f udometerref10_Lex.f
      by_cases h6 : (s.size : Int) > 600
      · rw [if_pos h6, if_pos h6]; exact ⟨([], 2, -1), by simp, rfl, rfl⟩
      · rw [if_neg h6, if_neg h6]
        obtain ⟨r, hr, hk⟩ := both s (by omega) 600 0 [] (by omega) (by omega) (by simp)
        exact ⟨r, hr, hk 10000 (by omega)⟩
    obtain ⟨r, hr, e1, e2⟩ := this
    rw [e1, e2]
    simp only [Option.bind_some, if_true]
    rw [same_eq r.1 (by omega) 10000 (by omega)]
    simp
end Go.Proofs.YtjhjgkdmacndgaaGreatDoor.Pure
