/- What is proved: what four functions that the print does not take do: ask.run (over isLetter or isDigit), ask.value (over digits), strings.ContainsRune (over the signs, at a byte); and what is asked of the example (Sane). Conditions stand in each theorem. -/
import Derived.Test.YtjhjgkdmacndgaaGreatDoorProg
import Derived.WalkKit
import Derived.ProofKit
import Derived.Laws.RangeAny
import Derived.Laws.Runes
import Derived.Lib.Bytealg
import Derived.WalkMore
import Derived.RegionTactic
import Derived.ChangeAlike
import Derived.Below
import Derived.KernelRfl
import Derived.Deep.QuietTactic
import Derived.BigQuiet
import Derived.Test.YtjhjgkdmacndgaaGreatDoorWords
namespace Go.Lx
open Go.Proofs Go.RowKit
/-- how far the bytes from a place on are of a kind -/
def lead (p : Nat → Bool) (s : ByteArray) : Nat → Nat → Nat
  | 0, pos => pos
  | f + 1, pos => if h : pos < s.size then (if p (s[pos]'h).toNat = true then lead p s f (pos + 1) else pos) else pos
def isL (c : Nat) : Bool := decide (97 ≤ c) && decide (c ≤ 122)
def isD (c : Nat) : Bool := decide (48 ≤ c) && decide (c ≤ 57)
theorem lead_end (p : Nat → Bool) (s : ByteArray) (b pos : Nat) (h : ¬ pos < s.size) : lead p s b pos = pos := by
  cases b with
  | zero => rfl
  | succ b => simp [lead, h]
/-- the value of digits; false if it passes 2^40 -/
def valf (s : ByteArray) : Nat → Nat → Int → Int × Bool
  | 0, _, n => (n, true)
  | f + 1, pos, n => if h : pos < s.size then (if 10 * n + (((s[pos]'h).toNat : Int) - 48) > 1099511627776 then (0, false) else valf s f (pos + 1) (10 * n + (((s[pos]'h).toNat : Int) - 48))) else (n, true)
theorem valf_end (s : ByteArray) (b pos : Nat) (n : Int) (h : ¬ pos < s.size) : valf s b pos n = (n, true) := by
  cases b with
  | zero => rfl
  | succ b => simp [valf, h]
theorem lead_ge (p : Nat → Bool) (s : ByteArray) : ∀ f pos, pos ≤ lead p s f pos := by
  intro f
  induction f with
  | zero => intro pos; exact Nat.le_refl _
  | succ f ih =>
    intro pos
    unfold lead
    split
    · split
      · exact Nat.le_trans (Nat.le_succ _) (ih _)
      · exact Nat.le_refl _
    · exact Nat.le_refl _
theorem lead_le (p : Nat → Bool) (s : ByteArray) : ∀ f pos, pos ≤ s.size → lead p s f pos ≤ s.size := by
  intro f
  induction f with
  | zero => intro pos h; exact h
  | succ f ih =>
    intro pos h
    unfold lead
    split
    · split
      · exact ih _ (by omega)
      · exact h
    · exact h
theorem lead_all (p : Nat → Bool) (s : ByteArray) : ∀ f pos j (h : j < s.size), pos ≤ j → j < lead p s f pos → p (s[j]'h).toNat = true := by
  intro f
  induction f with
  | zero => intro pos j h h1 h2; unfold lead at h2; omega
  | succ f ih =>
    intro pos j h h1 h2
    unfold lead at h2
    split at h2
    · split at h2
      · rename_i hp
        by_cases e : pos = j
        · subst e; exact hp
        · exact ih (pos + 1) j h (by omega) h2
      · omega
    · omega
theorem ext_at (s : ByteArray) (a b i : Nat) (h : i < (s.extract a b).size) (h' : a + i < s.size) : (s.extract a b)[i]'h = s[a + i]'h' := by
  simp [ByteArray.getElem_extract]
theorem lead_extract (p : Nat → Bool) (s : ByteArray) (a : Nat) (ha : a ≤ s.size) : ∀ f i, a + lead p (s.extract a s.size) f i = lead p s f (a + i) := by
  intro f
  induction f with
  | zero => intro i; rfl
  | succ f ih =>
    intro i
    have hsz : (s.extract a s.size).size = s.size - a := by simp
    unfold lead
    by_cases h : a + i < s.size
    · have h2 : i < (s.extract a s.size).size := by omega
      rw [dif_pos h, dif_pos h2, ext_at s a s.size i h2 h]
      split
      · rw [ih (i + 1), Nat.add_assoc]
      · rfl
    · have h2 : ¬ i < (s.extract a s.size).size := by omega
      rw [dif_neg h, dif_neg h2]
set_option maxRecDepth 1000000 in
theorem lite_index (s : ByteArray) (c : Int) (w : World) :
    Calls Tryz.prog 160 #[.string s, .int .u8 c] w fun e w' => e = .returned (.int .i64 (Lib.indexByte s.data.toList c.toNat.toUInt8)) ∧ w' = w := by
  go_enter Tryz.func160, Tryz.ntmps160
  go_wp2
  rw [run_callFunc_extern Tryz.func219 (by kernel_rfl) (by kernel_rfl) (by kernel_rfl) (e := Extern.BytealgIndexByte.indexByte) (by kernel_rfl), Lib.run_indexByteString]
  simp only [Result.andThen]
  rw [Oper.upon_value]
  go_wp2
  go_ret
  exact ⟨rfl, rfl⟩
theorem str_index (s : ByteArray) (c : Int) (w : World) :
    Calls Tryz.prog 100 #[.string s, .int .u8 c] w fun e w' => e = .returned (.int .i64 (Lib.indexByte s.data.toList c.toNat.toUInt8)) ∧ w' = w := by
  go_enter Tryz.func100, Tryz.ntmps100
  go_wp2_with (go_at_call 160; refine (lite_index _ _ _).mono ?_; rintro e w' ⟨rfl, hw⟩; rw [hw])
  go_ret
  exact ⟨rfl, rfl⟩
set_option maxRecDepth 1000000 in
theorem rune_low (s : ByteArray) (r : Int) (w : World) (h0 : 0 ≤ r) (h1 : r < 128) :
    Calls Tryz.prog 57 #[.string s, .int .i32 r] w fun e w' => e = .returned (.int .i64 (Lib.indexByte s.data.toList r.toNat.toUInt8)) ∧ w' = w := by
  have d1 : decide ((0 : Int) ≤ r) = true := by simp; omega
  have d2 : decide (r < 128) = true := by simp; omega
  go_enter Tryz.func57, Tryz.ntmps57
  go_wp2_with (go_at_call 100; refine (str_index _ _ _).mono ?_; rintro e w' ⟨rfl, hw⟩; rw [hw])
  go_ret
  exact ⟨rfl, rfl⟩
theorem indexByte_none : ∀ (l : List UInt8) (c : UInt8), (∀ b ∈ l, b ≠ c) → Lib.indexByte l c = -1
  | [], _, _ => rfl
  | b :: l, c, h => by
    have h1 : (b == c) = false := by simpa using h b (by simp)
    have h2 := indexByte_none l c (fun x hx => h x (by simp [hx]))
    simp [Lib.indexByte, h1, h2]
theorem encode_high (r : Int) (h0 : 128 ≤ r) (h1 : r ≤ 255) : ∃ b0 b1 : UInt8, Utf8.encode r = ⟨#[b0, b1]⟩ ∧ 128 ≤ b1.toNat := by
  have hv : Utf8.valid r = true := by unfold Utf8.valid; simp; omega
  refine ⟨UInt8.ofNat (192 + r.toNat / 64), UInt8.ofNat (128 + r.toNat % 64), ?_, by simp; omega⟩
  unfold Utf8.encode
  simp only [hv, if_true]
  rw [if_neg (by omega), if_pos (by omega)]
theorem IB (s : ByteArray) (c : Int) (w : World) (hs : ∀ b ∈ s.data.toList, b.toNat < 128) (h0 : 128 ≤ c) (h1 : c ≤ 255) :
    Calls Tryz.prog 100 #[.string s, .int .u8 c] w fun e w' => e = .returned (.int .i64 (-1)) ∧ w' = w := by
  have := str_index s c w
  rw [indexByte_none _ _ (fun b hb hbc => by have := hs b hb; rw [hbc] at this; simp at this; omega)] at this
  exact this
set_option maxRecDepth 1000000 in
set_option maxHeartbeats 4000000 in
theorem rune_high (r : Int) (w : World) (h0 : 128 ≤ r) (h1 : r ≤ 255) :
    Calls Tryz.prog 57 #[.string (⟨#[40, 41, 91, 93, 44, 59, 43, 45, 42, 61, 60, 62]⟩ : ByteArray), .int .i32 r] w fun e w' => e = .returned (.int .i64 (-1)) ∧ ∃ n, w' = w.drewN n := by
  have d1 : decide ((0 : Int) ≤ r) = true := by simp; omega
  have d2 : decide (r < 128) = false := by simp; omega
  have d3 : (r == 65533) = false := by simp; omega
  obtain ⟨b0, b1, he, hb⟩ := encode_high r h0 h1
  have hcv : ∀ w, (convert 21 9 (.int .i32 r)).run Tryz.prog w = .ok (.string ⟨#[b0, b1]⟩) w := fun w => by rw [← he]; exact run_convert_int_string w 21 9 .i32 r (by rw [Tryz.underlying21]; rfl) Tryz.underlying9
  have dne : ((((⟨#[40, 41, 91, 93, 44, 59, 43, 45, 42, 61, 60, 62]⟩ : ByteArray)[1]'(by decide)).toNat : Int) != (((⟨#[b0, b1]⟩ : ByteArray)[1]'(by show 1 < 2; decide)).toNat : Int)) = true := by
    show ((41 : Int) != (b1.toNat : Int)) = true
    simp; omega
  have asc0 : ∀ b ∈ ([40, 41, 91, 93, 44, 59, 43, 45, 42, 61, 60, 62] : List UInt8), b.toNat < 128 := by decide
  have asc : ∀ a e, ∀ b ∈ ((⟨#[40, 41, 91, 93, 44, 59, 43, 45, 42, 61, 60, 62]⟩ : ByteArray).extract a e).data.toList, b.toNat < 128 := fun a e b hb => asc0 b (mem_extract hb)
  have hc0 : (128 : Int) ≤ (((⟨#[b0, b1]⟩ : ByteArray)[1]'(by show 1 < 2; decide)).toNat : Int) := by show (128 : Int) ≤ (b1.toNat : Int); omega
  have hc1 : (((⟨#[b0, b1]⟩ : ByteArray)[1]'(by show 1 < 2; decide)).toNat : Int) ≤ 255 := by
    show (b1.toNat : Int) ≤ 255
    have := b1.toNat_lt
    omega
  have w2 : IntKind.i64.wrap 2 = 2 := by decide
  have sz : (⟨#[40, 41, 91, 93, 44, 59, 43, 45, 42, 61, 60, 62]⟩ : ByteArray).size = 12 := rfl
  go_enter Tryz.func57, Tryz.ntmps57
  go_wp2
  go_step3
  go_wp2
  go_loopw [9, 10] (fun i f w' => w' = w ∧ i = .int .i64 1 ∧ f = .int .i64 0) (fun _ _ _ => 0)
  case atStart => exact ⟨rfl, rfl, rfl⟩
  case round =>
    obtain ⟨rfl, rfl, rfl⟩ := hrel
    go_wp2
    go_step3
    go_wp2
    go_region
    go_wp2
    refine wp_region_quiet_lit (by kernel_rfl) (by kernel_rfl) ?_
    repeat (quiet_step (fail))
    refine wpQuiet_step (fun K hK => ?_)
    go_simp
    apply Exists.intro
    refine ⟨fun _ => ?_, hK _ ?_⟩
    go_at_call 100
    exact (IB _ _ _ (asc _ _) hc0 hc1).mono (fun e w' h => ⟨h.1, _, h.2⟩)
    clear hK K
    repeat (quiet_step (fail))
    refine wpQuiet_nil ?_
    rintro _ ⟨nq, rfl⟩
    go_wp2
    simp only [Exit.noGoto, Exit.inBlock]
    go_wp2
    simp only [Exit.noGoto, Exit.inBlock]
    try go_wp2
    go_ret
    exact ⟨rfl, _, rfl⟩
set_option maxRecDepth 1000000 in
theorem run_letters (s : ByteArray) (hs : s.size ≤ 140737488351232) (w : World) :
    Calls Tryz.prog 18 #[.string s, .func (.func 17) #[] #[]] w fun e w' => e = .returned (.int .i64 (lead isL s s.size 0)) ∧ ∃ pos, w' = w.iter s pos := by
  go_enter Tryz.func18, Tryz.ntmps18
  go_wp2
  go_loopw [4] (fun n w' => ∃ pos b : Nat, w' = w.iter s pos ∧ n = .int .i64 0 ∧ lead isL s b pos = lead isL s s.size 0 ∧ s.size ≤ pos + b ∧ pos ≤ s.size) (fun _ w' => s.size - w'.iterPos w.heap.size)
  case atStart => exact ⟨0, s.size, rfl, rfl, rfl, by omega, by omega⟩
  case round =>
    obtain ⟨pos, b, rfl, rfl, hc, hb, hle⟩ := hrel
    by_cases hp : pos < s.size
    · obtain ⟨b, rfl⟩ : ∃ m, b = m + 1 := ⟨b - 1, by omega⟩
      have hnx : ∀ ty, (Instr.next (.pointer (some ⟨w.heap.size, 0, none⟩)) true ty).run Tryz.prog (w.iter s pos) = _ := fun ty => run_next_any w s pos ty hp
      by_cases ha : (s[pos]'hp).toNat < 128
      · rw [decode_ascii s pos hp ha] at hnx
        simp only [lead, hp, dif_pos] at hc
        generalize hcc : (s[pos]'hp).toNat = c at hnx hc ha
        by_cases h1 : 97 ≤ c
        · have d1 : decide ((97 : Int) ≤ c) = true := by simp; omega
          by_cases h2 : c ≤ 122
          · have d2 : decide ((c : Int) ≤ 122) = true := by simp; omega
            rw [if_pos (by simp [isL, h1, h2])] at hc
            go_wp2
            go_roundw
            case rel => exact ⟨pos + 1, b, rfl, rfl, hc, by omega, by omega⟩
            case measure => simp; omega
          · have d2 : decide ((c : Int) ≤ 122) = false := by simp; omega
            rw [if_neg (by simp [isL, h2])] at hc
            replace hc := hc.symm
            go_wp2
            go_ret
            exact ⟨by first | rfl | (rw [hc]; rfl), _, rfl⟩
        · have d1 : decide ((97 : Int) ≤ c) = false := by simp; omega
          rw [if_neg (by simp [isL, h1])] at hc
          replace hc := hc.symm
          go_wp2
          go_ret
          exact ⟨by first | rfl | (rw [hc]; rfl), _, rfl⟩
      · have hh := decode_high s pos hp (by omega)
        have hl := decode_le s pos
        simp only [lead, hp, dif_pos] at hc
        rw [if_neg (by simp [isL]; omega)] at hc
        generalize (Utf8.decode s pos).1 = c at hnx hh hl
        generalize (Utf8.decode s pos).2 = k at hnx hh
        have d1 : decide ((97 : Int) ≤ c) = true := by simp; omega
        have d2 : decide ((c : Int) ≤ 122) = false := by simp; omega
        replace hc := hc.symm
        go_wp2
        go_ret
        exact ⟨by first | rfl | (rw [hc]; rfl), _, rfl⟩
    · have hnx : ∀ ty, (Instr.next (.pointer (some ⟨w.heap.size, 0, none⟩)) true ty).run Tryz.prog (w.iter s pos) = _ := fun ty => run_next_end w s pos ty hp
      go_wp2
      go_ret
      rw [lead_end isL s b pos hp] at hc
      exact ⟨by rw [← hc]; simp; omega, _, rfl⟩
set_option maxRecDepth 1000000 in
theorem run_digits (s : ByteArray) (hs : s.size ≤ 140737488351232) (w : World) :
    Calls Tryz.prog 18 #[.string s, .func (.func 19) #[] #[]] w fun e w' => e = .returned (.int .i64 (lead isD s s.size 0)) ∧ ∃ pos, w' = w.iter s pos := by
  go_enter Tryz.func18, Tryz.ntmps18
  go_wp2
  go_loopw [4] (fun n w' => ∃ pos b : Nat, w' = w.iter s pos ∧ n = .int .i64 0 ∧ lead isD s b pos = lead isD s s.size 0 ∧ s.size ≤ pos + b ∧ pos ≤ s.size) (fun _ w' => s.size - w'.iterPos w.heap.size)
  case atStart => exact ⟨0, s.size, rfl, rfl, rfl, by omega, by omega⟩
  case round =>
    obtain ⟨pos, b, rfl, rfl, hc, hb, hle⟩ := hrel
    by_cases hp : pos < s.size
    · obtain ⟨b, rfl⟩ : ∃ m, b = m + 1 := ⟨b - 1, by omega⟩
      have hnx : ∀ ty, (Instr.next (.pointer (some ⟨w.heap.size, 0, none⟩)) true ty).run Tryz.prog (w.iter s pos) = _ := fun ty => run_next_any w s pos ty hp
      by_cases ha : (s[pos]'hp).toNat < 128
      · rw [decode_ascii s pos hp ha] at hnx
        simp only [lead, hp, dif_pos] at hc
        generalize hcc : (s[pos]'hp).toNat = c at hnx hc ha
        by_cases h1 : 48 ≤ c
        · have d1 : decide ((48 : Int) ≤ c) = true := by simp; omega
          by_cases h2 : c ≤ 57
          · have d2 : decide ((c : Int) ≤ 57) = true := by simp; omega
            rw [if_pos (by simp [isD, h1, h2])] at hc
            go_wp2
            go_roundw
            case rel => exact ⟨pos + 1, b, rfl, rfl, hc, by omega, by omega⟩
            case measure => simp; omega
          · have d2 : decide ((c : Int) ≤ 57) = false := by simp; omega
            rw [if_neg (by simp [isD, h2])] at hc
            replace hc := hc.symm
            go_wp2
            go_ret
            exact ⟨by first | rfl | (rw [hc]; rfl), _, rfl⟩
        · have d1 : decide ((48 : Int) ≤ c) = false := by simp; omega
          rw [if_neg (by simp [isD, h1])] at hc
          replace hc := hc.symm
          go_wp2
          go_ret
          exact ⟨by first | rfl | (rw [hc]; rfl), _, rfl⟩
      · have hh := decode_high s pos hp (by omega)
        have hl := decode_le s pos
        simp only [lead, hp, dif_pos] at hc
        rw [if_neg (by simp [isD]; omega)] at hc
        generalize (Utf8.decode s pos).1 = c at hnx hh hl
        generalize (Utf8.decode s pos).2 = k at hnx hh
        have d1 : decide ((48 : Int) ≤ c) = true := by simp; omega
        have d2 : decide ((c : Int) ≤ 57) = false := by simp; omega
        replace hc := hc.symm
        go_wp2
        go_ret
        exact ⟨by first | rfl | (rw [hc]; rfl), _, rfl⟩
    · have hnx : ∀ ty, (Instr.next (.pointer (some ⟨w.heap.size, 0, none⟩)) true ty).run Tryz.prog (w.iter s pos) = _ := fun ty => run_next_end w s pos ty hp
      go_wp2
      go_ret
      rw [lead_end isD s b pos hp] at hc
      exact ⟨by rw [← hc]; simp; omega, _, rfl⟩
set_option maxRecDepth 1000000 in
theorem value_digits (s : ByteArray) (hs : s.size ≤ 140737488351232) (hd : ∀ (j : Nat) (h : j < s.size), isD (s[j]'h).toNat = true) (w : World) :
    Calls Tryz.prog 20 #[.string s] w fun e w' => e = .returned (.tuple #[.int .i64 (valf s s.size 0 0).1, .bool (valf s s.size 0 0).2]) ∧ ∃ pos, w' = w.iter s pos := by
  go_enter Tryz.func20, Tryz.ntmps20
  go_wp2
  go_loopw [4] (fun n w' => ∃ (pos b : Nat) (a : Int), w' = w.iter s pos ∧ n = .int .i64 a ∧ 0 ≤ a ∧ a ≤ 1099511627776 ∧ valf s b pos a = valf s s.size 0 0 ∧ s.size ≤ pos + b ∧ pos ≤ s.size) (fun _ w' => s.size - w'.iterPos w.heap.size)
  case atStart => exact ⟨0, s.size, 0, rfl, rfl, by omega, by omega, rfl, by omega, by omega⟩
  case round =>
    obtain ⟨pos, b, a, rfl, rfl, ha0, ha1, hc, hb, hle⟩ := hrel
    by_cases hp : pos < s.size
    · obtain ⟨b, rfl⟩ : ∃ m, b = m + 1 := ⟨b - 1, by omega⟩
      have hnx : ∀ ty, (Instr.next (.pointer (some ⟨w.heap.size, 0, none⟩)) true ty).run Tryz.prog (w.iter s pos) = _ := fun ty => run_next_any w s pos ty hp
      have hdd := hd pos hp
      simp only [isD, Bool.and_eq_true, decide_eq_true_eq] at hdd
      rw [decode_ascii s pos hp (by omega)] at hnx
      simp only [valf, hp, dif_pos] at hc
      generalize hcc : (s[pos]'hp).toNat = c at hnx hc hdd
      have e1 : IntKind.i32.wrap ((c : Int) - 48) = (c : Int) - 48 := by rw [IntKind.wrap_i32]; omega
      have e2 : wrap64 (10 * a) = 10 * a := by unfold wrap64; omega
      have e3 : wrap64 (10 * a + ((c : Int) - 48)) = 10 * a + ((c : Int) - 48) := by unfold wrap64; omega
      by_cases h1 : 10 * a + ((c : Int) - 48) > 1099511627776
      · rw [if_pos h1] at hc
        go_wp2
        go_ret2
        exact ⟨by rw [← hc]; rfl, _, rfl⟩
      · rw [if_neg h1] at hc
        go_wp2
        go_roundw
        case rel => exact ⟨pos + 1, b, _, rfl, rfl, by omega, by omega, hc, by omega, by omega⟩
        case measure => simp; omega
    · have hnx : ∀ ty, (Instr.next (.pointer (some ⟨w.heap.size, 0, none⟩)) true ty).run Tryz.prog (w.iter s pos) = _ := fun ty => run_next_end w s pos ty hp
      rw [valf_end s b pos a hp] at hc
      replace hc := hc.symm
      go_wp2
      go_ret2
      exact ⟨by rw [hc]; rfl, _, rfl⟩

theorem iter_below (w : World) (s : ByteArray) (p : Nat) : Below w.heap.size w (w.iter s p) := (Below.refl _ w).alloc (Nat.le_refl _) _
end Go.Lx
namespace Go.Proofs.YtjhjgkdmacndgaaGreatDoor.PLx
open Go.RowKit Go.Lx Go.Proofs.YtjhjgkdmacndgaaGreatDoorW.PrintWords
/-- ask.run, over isLetter (17) or isDigit (19) -/
def ask_run.f (a0 : ByteArray) (a1 : Nat) : Option Int :=
  if a0.size ≤ 140737488351232 then (if a1 = 17 then some (lead isL a0 a0.size 0 : Nat) else if a1 = 19 then some (lead isD a0 a0.size 0 : Nat) else none) else none
theorem ask_run.calls (a0 : ByteArray) (a1 : Nat) (r : Int) (w : World) (h : ask_run.f a0 a1 = some r) :
    Calls Tryz.prog 18 #[.string a0, .func (.func a1) #[] #[]] w fun e w' => e = .returned (.int .i64 r) ∧ Below w.heap.size w w' := by
  unfold ask_run.f at h
  split at h
  · rename_i hs
    split at h
    · rename_i h1; subst h1
      cases h
      refine (run_letters a0 hs w).mono ?_
      rintro e w' ⟨rfl, p, rfl⟩
      exact ⟨rfl, iter_below w a0 p⟩
    · split at h
      · rename_i h1; subst h1
        cases h
        refine (run_digits a0 hs w).mono ?_
        rintro e w' ⟨rfl, p, rfl⟩
        exact ⟨rfl, iter_below w a0 p⟩
      · cases h
  · cases h
/-- ask.value, over digits -/
def ask_value.f (a0 : ByteArray) : Option (Int × Bool) :=
  if a0.size ≤ 140737488351232 ∧ ∀ j : Fin a0.size, isD (a0[j.1]'j.2).toNat = true then some (valf a0 a0.size 0 0) else none
theorem ask_value.calls (a0 : ByteArray) (r1 : Int) (r2 : Bool) (w : World) (h : ask_value.f a0 = some (r1, r2)) :
    Calls Tryz.prog 20 #[.string a0] w fun e w' => e = .returned (.tuple #[.int .i64 r1, .bool r2]) ∧ Below w.heap.size w w' := by
  unfold ask_value.f at h
  split at h
  · rename_i hs
    have h := Option.some.inj h
    refine (value_digits a0 hs.1 (fun j h => hs.2 ⟨j, h⟩) w).mono ?_
    rintro e w' ⟨rfl, p, rfl⟩
    rw [h]
    exact ⟨rfl, iter_below w a0 p⟩
  · cases h
/-- strings.ContainsRune, over the signs, at a byte -/
def strings_ContainsRune.f (a0 : ByteArray) (a1 : Int) : Option Bool :=
  if a0 = (⟨#[40, 41, 91, 93, 44, 59, 43, 45, 42, 61, 60, 62]⟩ : ByteArray) ∧ 0 ≤ a1 ∧ a1 ≤ 255 then some (if a1 < 128 then decide (0 ≤ Lib.indexByte [40, 41, 91, 93, 44, 59, 43, 45, 42, 61, 60, 62] a1.toNat.toUInt8) else false) else none
set_option maxRecDepth 1000000 in
theorem strings_ContainsRune.calls (a0 : ByteArray) (a1 : Int) (r : Bool) (w : World) (h : strings_ContainsRune.f a0 a1 = some r) :
    Calls Tryz.prog 33 #[.string a0, .int .i32 a1] w fun e w' => e = .returned (.bool r) ∧ Drawn0 w w' := by
  unfold strings_ContainsRune.f at h
  split at h
  · rename_i hs
    obtain ⟨rfl, h0, h1⟩ := hs
    have h := Option.some.inj h
    subst h
    by_cases hl : a1 < 128
    · rw [if_pos hl]
      go_enter Tryz.func33, Tryz.ntmps33
      go_wp2_with (go_at_call 57; refine (rune_low _ _ _ h0 hl).mono ?_; rintro e w' ⟨rfl, hw⟩; rw [hw])
      go_ret
      exact ⟨rfl, Drawn0.refl _⟩
    · rw [if_neg hl]
      go_enter Tryz.func33, Tryz.ntmps33
      go_wp2_with (go_at_call 57; refine (rune_high _ _ (by omega) h1).mono ?_; rintro e w' ⟨rfl, nd, rfl⟩)
      go_ret
      exact ⟨rfl, ⟨⟨nd, rfl⟩⟩⟩
  · cases h
/-- the law's example holds, in whatever world that has the globals -/
def Sane : Prop := ∀ w : World, 6 ≤ w.heap.size → Calls Tryz.prog 4 #[] w fun e w' => e = .returned (.bool true) ∧ Below w.heap.size w w'
def sanity.f : Option Bool := some true
theorem sanity.calls (S : Sane) (r : Bool) (w : World) (hw : 6 ≤ w.heap.size) (h : sanity.f = some r) :
    Calls Tryz.prog 4 #[] w fun e w' => e = .returned (.bool r) ∧ Below w.heap.size w w' := by
  obtain rfl := Option.some.inj h
  exact S w hw
end Go.Proofs.YtjhjgkdmacndgaaGreatDoor.PLx
