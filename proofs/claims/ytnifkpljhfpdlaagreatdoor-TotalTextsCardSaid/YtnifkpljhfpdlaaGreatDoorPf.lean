/- What is proved: what functions of the program do (walks, by hand and by programs of this repository). Conditions stand in each theorem. -/
import Derived.Test.YtnifkpljhfpdlaaGreatDoorPe
import Derived.Shelf.Lay
import Derived.Shelf.Strings.Prefix
import Derived.Shelf.Strings.SplitShaped
import Derived.Shelf.Strconv.ErrVarAll
set_option linter.unusedVariables false
set_option linter.unusedSimpArgs false
namespace Go.Proofs
end Go.Proofs
namespace Go.Proofs.Tt.P
open Go.Proofs.Tt.Sh Go.RowKit Go.Shelf Go.Sort Go.Proofs.YtnifkpljhfpdlaaGreatDoorW.PrintWords Go.Proofs.YtnifkpljhfpdlaaGreatDoorW.PrintLast Go.Proofs.YtnifkpljhfpdlaaGreatDoorW.PrintMore
open Go.Tt (Pt)
set_option linter.unusedVariables false
set_option linter.unusedSimpArgs false
theorem var_below {n : String} (hn : ∃ g, Tryz.prog.globalNamed n = some g) {w w' : World} {cs : Array Value} (h : w.var? Tryz.prog n = some cs) (hb : Below w.heap.size w w') : w'.var? Tryz.prog n = some cs := by
  obtain ⟨g, hg⟩ := hn
  unfold World.var? at h ⊢
  rw [hg] at h ⊢
  simp only [Option.bind_some] at h ⊢
  have hlt : g < w.heap.size := by
    rcases Nat.lt_or_ge g w.heap.size with h' | h'
    · exact h'
    · rw [Array.getElem?_eq_none h'] at h; cases h
  rw [hb.block g hlt]
  exact h
theorem gSyn : ∃ g, Tryz.prog.globalNamed "strconv.ErrSyntax" = some g := by
  cases h : Tryz.prog.globalNamed "strconv.ErrSyntax" with
  | some g => exact ⟨g, rfl⟩
  | none => exact absurd (show (Tryz.prog.globalNamed "strconv.ErrSyntax").isSome = true by kernel_rfl) (by rw [h]; decide)
theorem gRan : ∃ g, Tryz.prog.globalNamed "strconv.ErrRange" = some g := by
  cases h : Tryz.prog.globalNamed "strconv.ErrRange" with
  | some g => exact ⟨g, rfl⟩
  | none => exact absurd (show (Tryz.prog.globalNamed "strconv.ErrRange").isSome = true by kernel_rfl) (by rw [h]; decide)
structure Env (w : World) : Prop where
  tab : Tab w
  ml : ∃ m, w.cell? ⟨3, 0, none⟩ = some (.int .i64 m)
  syn : ∃ tp p, w.var? Tryz.prog "strconv.ErrSyntax" = some #[.iface tp p]
  ran : ∃ tp p, w.var? Tryz.prog "strconv.ErrRange" = some #[.iface tp p]
theorem Env.below {w w' : World} (h : Env w) (hb : Below w.heap.size w w') : Env w' := by
  obtain ⟨h1, ⟨m, h2⟩, ⟨a, b, h3⟩, ⟨c, d, h4⟩⟩ := h
  exact ⟨h1.below hb, ⟨m, (hb.cell (p := ⟨3, 0, none⟩) (World.block_lt_of_cell? _ _ h2)).trans h2⟩, ⟨a, b, var_below gSyn h3 hb⟩, ⟨c, d, var_below gRan h4 hb⟩⟩
theorem trim_calls (s : ByteArray) (w : World) (hs : s.size ≤ 1000000) : Calls Tryz.prog 30 #[.string s, .string ⟨#[10]⟩] w fun e w' => e = .returned (.string ⟨(Lib.trimSuffix s.data.toList [10]).toArray⟩) ∧ w' = w :=
  Any.strings_TrimSuffix Tryz.laysTrim s ⟨#[10]⟩ w (by omega)
theorem splitB_size (sep : ByteArray) : ∀ (k : Nat) (s x : ByteArray), x ∈ Lib.splitB sep 0 k s → x.size ≤ s.size
  | 0, s, x, h => by rw [Lib.splitB_zero, List.mem_singleton] at h; subst h; exact Nat.le_refl _
  | k + 1, s, x, h => by
    unfold Lib.splitB at h
    split at h
    · rw [List.mem_singleton] at h; subst h; exact Nat.le_refl _
    · rcases List.mem_cons.1 h with rfl | h
      · simp; omega
      · have := splitB_size sep k _ x h
        simp at this; omega
theorem split_calls (l : List UInt8) (w : World) (hE : Env w) (hs : l.length ≤ 1000000) : Calls Tryz.prog 29 #[.string ⟨l.toArray⟩, .string ⟨#[32]⟩] w fun e w' => ∃ ws : List ByteArray, ws.map (·.data.toList) = Lib.split l [32] ∧ ws.length ≤ l.length + 1 ∧ (∀ x ∈ ws, x.size ≤ l.length) ∧ 0 < ws.length ∧
    e = .returned (.slice (some ⟨w.heap.size, 0, none⟩) ws.length ws.length) ∧ w' = w.alloc (.cells (ws.map Value.string).toArray 9) := by
  obtain ⟨m, hm⟩ := hE.ml
  refine (Any.strings_Split (ρ := Tryz.laysSplit_ren) { Tryz.laysSplit with } info9 ⟨l.toArray⟩ ⟨#[32]⟩ m w (by show l.toArray.size < _; simp; omega) hm (by decide)).mono ?_
  rintro e w' ⟨rfl, rfl⟩
  have hl := Lib.splitB_all ⟨#[32]⟩ (by decide) 0 _ ⟨l.toArray⟩ rfl
  refine ⟨Lib.splitB ⟨#[32]⟩ 0 (Lib.countB ⟨l.toArray⟩ ⟨#[32]⟩) ⟨l.toArray⟩, ?_, ?_, ?_, by omega, by rw [hl], rfl⟩
  · exact Lib.splitB_data ⟨#[32]⟩ 0 _ ⟨l.toArray⟩
  · have := Lib.countB_le ⟨#[32]⟩ (by decide) _ ⟨l.toArray⟩ (Nat.le_refl _)
    have e : (⟨l.toArray⟩ : ByteArray).size = l.length := by show l.toArray.size = _; simp
    omega
  · intro x hx
    have := splitB_size ⟨#[32]⟩ _ ⟨l.toArray⟩ x hx
    have e : (⟨l.toArray⟩ : ByteArray).size = l.length := by show l.toArray.size = _; simp
    omega
theorem atoi_calls (s : ByteArray) (w : World) (hE : Env w) (hs : s.size ≤ 1000000) : Calls Tryz.prog 31 #[.string s] w fun e w' => ∃ v ev, e = .returned (.tuple #[.int .i64 v, ev]) ∧ ((Lib.atoiAll s.data.toList = .ok v ∧ ev = .nilIface) ∨ ((∀ n, Lib.atoiAll s.data.toList ≠ .ok n) ∧ ∃ t N, ev = .iface t (.pointer (some ⟨N, 0, none⟩)))) ∧ Below w.heap.size w w' := by
  rcases h : Lib.atoiAll s.data.toList with v | _ | _
  · refine (Any.strconv_Atoi_ok Tryz.laysAtoi s (by omega) v h w).mono ?_
    rintro e w' ⟨rfl, hw⟩
    refine ⟨v, _, rfl, .inl ⟨rfl, rfl⟩, ?_⟩
    rcases hw with rfl | ⟨t, rfl⟩
    · exact Below.refl _ _
    · exact Lib.bytesWorld_below _ _ _
  · obtain ⟨tp, p, hv⟩ := hE.syn
    refine (Any.strconv_Atoi_syntax_var Tryz.laysAtoi s (by omega) h tp p w hv).mono ?_
    rintro e w' ⟨N, rfl, _, _, hb⟩
    exact ⟨_, _, rfl, .inr ⟨(fun n e => by cases e), _, _, rfl⟩, hb⟩
  · obtain ⟨tp, p, hv⟩ := hE.ran
    refine (Any.strconv_Atoi_range_var Tryz.laysAtoi s (by omega) h tp p w hv).mono ?_
    rintro e w' ⟨N, rfl, _, _, hb⟩
    exact ⟨_, _, rfl, .inr ⟨(fun n e => by cases e), _, _, rfl⟩, hb⟩
end Go.Proofs.Tt.P
namespace Go.Proofs.Tt.P
open Go Go.Proofs.Tt.Sh Go.RowKit Go.Proofs.YtnifkpljhfpdlaaGreatDoorW.PrintWords Go.Proofs.YtnifkpljhfpdlaaGreatDoorW.PrintLast Go.Proofs.YtnifkpljhfpdlaaGreatDoorW.PrintMore
open Go.Tt (Pt Fg printF wordsF textOf spanOk siteW areaW ptW flat numsF pairs figF parseF zeroFg)
set_option linter.unusedVariables false
set_option linter.unusedSimpArgs false
theorem nums_snoc : ∀ (l : List (List UInt8)) (s : List UInt8) (ns : List Int) (v : Int), numsF l = some ns → Lib.atoiAll s = .ok v → numsF (l ++ [s]) = some (ns ++ [v])
  | [], s, ns, v, h, hv => by cases h; simp [numsF, hv]
  | x :: l, s, ns, v, h, hv => by
    rw [List.cons_append]
    simp only [numsF] at h ⊢
    rcases hx : Lib.atoiAll x with n | _ | _
    · rw [hx] at h
      cases hl : numsF l with
      | none => simp [hl] at h
      | some m =>
        simp [hl] at h; subst h
        simp [nums_snoc l s m v hl hv]
    · rw [hx] at h; cases h
    · rw [hx] at h; cases h
theorem nums_bad : ∀ (l : List (List UInt8)) (s : List UInt8), s ∈ l → (∀ n, Lib.atoiAll s ≠ .ok n) → numsF l = none
  | x :: l, s, h, hv => by
    simp only [numsF]
    rcases hx : Lib.atoiAll x with n | _ | _
    · rcases List.mem_cons.1 h with rfl | h
      · exact absurd hx (hv n)
      · simp [nums_bad l s h hv]
    · rfl
    · rfl
theorem trim_len (l p : List UInt8) : (Lib.trimSuffix l p).length ≤ l.length := by
  unfold Lib.trimSuffix
  split
  · simp
  · exact Nat.le_refl _
theorem atoi_ok {s : ByteArray} {w : World} (hE : Env w) (hs : s.size ≤ 1000000) {v : Int} (h : Lib.atoiAll s.data.toList = .ok v) : Calls Tryz.prog 31 #[.string s] w fun e w' => e = .returned (.tuple #[.int .i64 v, .nilIface]) ∧ Below w.heap.size w w' :=
  (atoi_calls s w hE hs).mono fun e w' ⟨v', ev, he, hc, hb⟩ => by
    rcases hc with ⟨h1, rfl⟩ | ⟨h1, _⟩
    · rw [h] at h1; cases h1; exact ⟨he, hb⟩
    · exact absurd h (h1 v)
theorem atoi_bad {s : ByteArray} {w : World} (hE : Env w) (hs : s.size ≤ 1000000) (h : ∀ n, Lib.atoiAll s.data.toList ≠ .ok n) : Calls Tryz.prog 31 #[.string s] w fun e w' => ∃ v t N, e = .returned (.tuple #[.int .i64 v, .iface t (.pointer (some ⟨N, 0, none⟩))]) ∧ Below w.heap.size w w' :=
  (atoi_calls s w hE hs).mono fun e w' ⟨v', ev, he, hc, hb⟩ => by
    rcases hc with ⟨h1, rfl⟩ | ⟨h1, t, N, rfl⟩
    · exact absurd h1 (h _)
    · exact ⟨_, _, _, he, hb⟩
abbrev kI : Kd Int := Kd.int .i64
def f8a_T : Bool × List (List Nat × List Nat) := (true, [([], []), ([0], [0]), ([1], [1]), ([], []), ([3], [3]), ([4], [4]), ([], []), ([6], [6]), ([7], [7]), ([5, 8], [5, 8]), ([2, 9], [2, 9]), ([10, 0, 1, 2, 3, 4, 5, 6, 7, 8, 9, 10], [10])])
def f8a_B : List Nat := [0, 1, 3, 0, 8, 24, 0, 64, 192, 504, 1023, 2047]
theorem f8a_tab : rtab .any (opsOf Tryz.f8 13) = f8a_T := by kernel_rfl
theorem f8a_bits : waitsOk f8a_T.2 f8a_B = true := by kernel_rfl
def f8b_T : Bool × List (List Nat × List Nat) := (true, [([], []), ([0], [0]), ([1], [1]), ([], []), ([3], [3]), ([4], [4]), ([2, 5], [2, 5]), ([6], [6]), ([7, 0, 1, 2, 3, 4, 5, 6, 7], [7])])
def f8b_B : List Nat := [0, 1, 3, 0, 8, 24, 63, 127, 255]
theorem f8b_tab : rtab .any (opsOf Tryz.f8 15) = f8b_T := by kernel_rfl
theorem f8b_bits : waitsOk f8b_T.2 f8b_B = true := by kernel_rfl
def f8c_T : Bool × List (List Nat × List Nat) := (true, [([], []), ([0], [0]), ([], []), ([], []), ([2, 3], [2, 3]), ([4], [4]), ([], []), ([], []), ([7], [7]), ([6, 8], [6, 8]), ([9], [9]), ([5, 10], [5, 10]), ([11], [11]), ([1, 12], [1, 12]), ([0, 1, 2, 3, 4, 5, 6, 7, 8, 9, 10, 11, 12, 13], []), ([14, 13, 13, 0, 1, 2, 3, 4, 5, 6, 7, 8, 9, 10, 11, 12, 13], [13, 14])])
def f8c_B : List Nat := [0, 1, 0, 0, 12, 28, 0, 0, 128, 448, 960, 2044, 4092, 8191, 16383, 32767]
theorem f8c_tab : rtab .any (opsOf Tryz.f8 19) = f8c_T := by kernel_rfl
theorem f8c_bits : waitsOk f8c_T.2 f8c_B = true := by kernel_rfl
theorem pairs_get : ∀ (n : Nat) (l : List Int), l.length ≤ n → ∀ (j : Nat) (p : Pt), (pairs l)[j]? = some p → l[2 * j]? = some p.x ∧ l[2 * j + 1]? = some p.y
  | _, [], _, j, p, h => by simp [pairs] at h
  | _, [a], _, j, p, h => by simp [pairs] at h
  | 0, _ :: _ :: _, h, _, _, _ => by simp at h
  | n + 1, a :: b :: l, hn, j, p, h => by
    rw [pairs] at h
    cases j with
    | zero => simp at h; subst h; exact ⟨rfl, rfl⟩
    | succ j =>
      have := pairs_get n l (by simp at hn; omega) j p (by simpa using h)
      rw [show 2 * (j + 1) = 2 * j + 1 + 1 by omega, show 2 * j + 1 + 1 + 1 = (2 * j + 1) + 1 + 1 by omega]
      simpa using this
theorem pairs_len : ∀ (n : Nat) (l : List Int), l.length ≤ n → (pairs l).length = l.length / 2
  | _, [], _ => rfl
  | _, [a], _ => by simp [pairs]
  | 0, _ :: _ :: _, h => by simp at h
  | n + 1, a :: b :: l, hn => by
    rw [pairs, List.length_cons, pairs_len n l (by simp at hn; omega)]
    simp; omega
theorem info35 : (Tryz.prog.info? 35).map (fun i => (i.zero, i.size, i.bytes)) = some (some (.agg #[.int .i64 0, .int .i64 0]), 2, 16) := by kernel_rfl
theorem kI_cell {W : World} {base g n cap : Nat} {ok : Nat → Prop} {ns : List Int} (h : Kd.R kI 3 W base ok (.slice (some ⟨g, 0, none⟩) n cap) ns) (j : Nat) (v : Int) (hj : ns[j]? = some v) : W.cell? ⟨g, j, none⟩ = some (.int .i64 v) := by
  obtain ⟨hn, _, hC⟩ := Kd.R_reads' h
  have hlt := (List.getElem?_eq_some_iff.1 hj).1
  obtain ⟨ad', cs, e', _, hK, hc0⟩ := Kd.C_get hC 0 (j : Int) (by omega) (by omega)
  cases e'
  have hg : ns.getD ((j : Int)).toNat 0 = v := by rw [List.getD_eq_getElem?_getD, show ((j : Int)).toNat = j by omega, hj]; rfl
  rw [hg] at hK
  obtain rfl : cs = [.int .i64 v] := hK
  have := hc0 0 _ rfl
  rw [show kI.sz = 1 from rfl, Nat.mul_one] at this
  by_cases hj0 : j = 0 <;> simpa [Addr.add, hj0] using this
def CF (wx : World) (g : Nat) (A : Option Addr) (n : Nat) (l : List Pt) : Prop := ∀ W : World, (∀ k, k ≠ g → k < wx.heap.size → W.heap[k]? = wx.heap[k]?) → Kd.C kP W A n l
theorem cf_nil (wx : World) (g : Nat) : CF wx g none 0 [] := fun W _ => (Kd.R_reads' (Kd.R_nil kP 35 W 0 (fun _ => True))).2.2
theorem cf_row {wx : World} {g base n c t : Nat} {A : Option Addr} {l : List Pt} {cs : Array Value} (hR : Kd.R kP 35 wx base (fun _ => True) (.slice A n c) l) (hB : wx.heap[g]? = some (.cells cs t (0, 0))) (ht : 35 ≠ t) : CF wx g A n l := fun W hW => by
  have h := Kd.R_reads' (Kd.R_mono (Kd.R_step (Kd.R_types hR hB (fun q hq => by
    have : q = 35 := by simpa [kP, Kd.iso, Kd.pair, Kd.int, Kd.scalar] using hq
    rw [this]; exact ht)) (fun k hk hlt => hW k hk.2 hlt)) (fun _ _ => trivial) (ok' := fun _ => True))
  rw [h.1]; exact h.2.2
def PaOut (w : World) (s : ByteArray) (en : Ending) (w' : World) : Prop := ∃ (k st lo hi e : Int) (A : Option Addr) (n c : Nat),
  en = .returned (.tuple #[.agg #[.int .i64 k, .int .i64 st, .slice A n c, .int .i64 lo, .int .i64 hi], .int .i64 e]) ∧ Below w.heap.size w w' ∧
  match parseF chkF s.data.toList with
  | none => e = 7 ∧ k = 0 ∧ st = 0 ∧ lo = 0 ∧ hi = 0 ∧ A = none ∧ n = 0 ∧ c = 0
  | some f => e = 0 ∧ f.kind = k ∧ f.site = st ∧ f.lo = lo ∧ f.hi = hi ∧ f.ar.length = n ∧ n ≤ c ∧ n ≤ 100000 ∧ Kd.C kP w' A f.ar.length f.ar
theorem set5 {w : World} {g : Nat} {t : TypeId} {a0 a1 a2 a3 a4 : Value} (B : w.heap[g]? = some (.cells #[a0, a1, a2, a3, a4] t (0, 0))) (b0 b1 b2 b3 b4 : Value) {W : World}
    (hW : (((((w.setCell ⟨g, 0, none⟩ b0).setCell ⟨g, 1, none⟩ b1).setCell ⟨g, 2, none⟩ b2).setCell ⟨g, 3, none⟩ b3).setCell ⟨g, 4, none⟩ b4) = W) :
    W.heap[g]? = some (.cells #[b0, b1, b2, b3, b4] t (0, 0)) ∧ (∀ w0 : World, w0.heap.size ≤ g → Below w0.heap.size w0 w → Below w0.heap.size w0 W) ∧ (∀ g' cs t', g' ≠ g → w.heap[g']? = some (.cells cs t' (0, 0)) → W.heap[g']? = some (.cells cs t' (0, 0))) ∧ (∀ k, k ≠ g → W.heap[k]? = w.heap[k]?) := by
  subst hW
  have c0 := blk_put (cs' := #[b0, a1, a2, a3, a4]) B 0 b0 rfl
  have c1 := blk_put (cs' := #[b0, b1, a2, a3, a4]) c0 1 b1 rfl
  have c2 := blk_put (cs' := #[b0, b1, b2, a3, a4]) c1 2 b2 rfl
  have c3 := blk_put (cs' := #[b0, b1, b2, b3, a4]) c2 3 b3 rfl
  have c4 := blk_put (cs' := #[b0, b1, b2, b3, b4]) c3 4 b4 rfl
  exact ⟨c4, fun w0 h hb => below_set (below_set (below_set (below_set (below_set hb h) h) h) h) h, fun g' cs t' hg ho => blk_far (p := ⟨g, 4, none⟩) (blk_far (p := ⟨g, 3, none⟩) (blk_far (p := ⟨g, 2, none⟩) (blk_far (p := ⟨g, 1, none⟩) (blk_far (p := ⟨g, 0, none⟩) ho hg _) hg _) hg _) hg _) hg _, fun k hk => by rw [Below.heap_setCell _ _ _ _ hk, Below.heap_setCell _ _ _ _ hk, Below.heap_setCell _ _ _ _ hk, Below.heap_setCell _ _ _ _ hk, Below.heap_setCell _ _ _ _ hk]⟩
theorem pa_end {tmps : Array Value} {w0 w1 : World} {s : ByteArray} {g2 : Nat} {k st lo hi e : Int} {A : Option Addr} {n c : Nat} (h2 : tmps[2]? = some (.pointer (some ⟨g2, 0, none⟩))) (h3 : tmps[3]? = some (.int .i64 e))
    (B2 : w1.heap[g2]? = some (.cells #[.int .i64 k, .int .i64 st, .slice A n c, .int .i64 lo, .int .i64 hi] 26 (0, 0))) (hB : Below w0.heap.size w0 w1)
    (hm : match parseF chkF s.data.toList with
      | none => e = 7 ∧ k = 0 ∧ st = 0 ∧ lo = 0 ∧ hi = 0 ∧ A = none ∧ n = 0 ∧ c = 0
      | some f => e = 0 ∧ f.kind = k ∧ f.site = st ∧ f.lo = lo ∧ f.hi = hi ∧ f.ar.length = n ∧ n ≤ c ∧ n ≤ 100000 ∧ Kd.C kP w1 A f.ar.length f.ar) :
    bodyPost Tryz.prog Tryz.f8 (PaOut w0 s) .ret { tmps := tmps, defers := [] } w1 := by
  obtain ⟨z0, z1, z2, z3, z4, _⟩ := cb5 B2
  have hu26 := Tryz.underlying26
  have hu24 := Tryz.underlying24
  refine bodyPost_ret (v := .tuple #[.agg #[.int .i64 k, .int .i64 st, .slice A n c, .int .i64 lo, .int .i64 hi], .int .i64 e]) ?_ rfl ⟨k, st, lo, hi, e, A, n, c, rfl, hB, hm⟩
  simp [results, Tryz.f8, go_sem, h2, h3, z0, z1, z2, z3, z4]
set_option maxHeartbeats 8000000 in
set_option maxRecDepth 100000 in
theorem parse_calls {w : World} {s : ByteArray} (hE : Env w) (hs : s.size ≤ 100000) : Calls Tryz.prog 8 #[.string s] w (PaOut w s) := by
  have hu26 := Tryz.underlying26
  have hu24 := Tryz.underlying24
  have hu22 := Tryz.underlying22
  have hu70 := Tryz.underlying70
  have hu58 := Tryz.underlying58
  go_enter Tryz.func8, Tryz.ntmps8
  go_upto_region 0 with fail
  go_cut [2, 3] from 2 to 3 (fun s2 s3 wc => ∃ g2, s2 = .pointer (some ⟨g2, 0, none⟩) ∧ s3 = .int .i64 0 ∧ wc.heap[g2]? = some (.cells #[.int .i64 0, .int .i64 0, .slice none 0 0, .int .i64 0, .int .i64 0] 26 (0, 0)) ∧ w.heap.size ≤ g2 ∧ Below w.heap.size w wc)
  case first =>
    go_wp2_with fail
    go_meet
    case rel => exact ⟨_, rfl, rfl, blk_new w _, Nat.le_refl _, (Below.refl _ w).alloc (Nat.le_refl _) _⟩
  obtain ⟨g2, rfl, rfl, B2, hg2, HB⟩ := hcut
  replace B2 := ak B2
  replace HB := ak HB
  have hlen : s.data.toList.length = s.size := by simp
  go_upto_region 1 with fail
  go_cut [4] from 4 to 16 (fun s4 wx => ∃ (g4 : Nat) (w0 : ByteArray) (ws : List ByteArray), s4 = .slice (some ⟨g4, 0, none⟩) (ws.length + 1) (ws.length + 1) ∧ wx.heap[g4]? = some (.cells ((w0 :: ws).map Value.string).toArray 9 (0, 0)) ∧ Lib.split (Lib.trimSuffix s.data.toList [10]) [32] = w0.data.toList :: ws.map (·.data.toList) ∧ ws.length ≤ 100000 ∧ (∀ x ∈ ws, x.size ≤ 100000) ∧ Below wc.heap.size wc wx)
  case first =>
    have hT := trim_len s.data.toList [10]
    rw [hlen] at hT
    go_wp2_with (first | (go_at_call 30; (with_reducible refine (trim_calls s _ (by omega)).mono ?_); rintro en w2 ⟨rfl, rfl⟩) | (go_at_call 29; (with_reducible refine (split_calls _ _ (hE.below HB.out) (by omega)).mono ?_); rintro en w2 ⟨ws, hws, hwl, hwx, hw0, rfl, rfl⟩) | fail)
    go_meet
    case rel =>
      cases ws with
      | nil => cases hw0
      | cons w0 ws => exact ⟨_, w0, ws, rfl, blk_new _ _, hws.symm, by simp at hwl; omega, fun x hx => by have := hwx x (List.mem_cons_of_mem _ hx); omega, (Below.refl _ _).alloc (Nat.le_refl _) _⟩
  obtain ⟨g4, w0, ws, rfl, B4, hsp, hwl, hwx, hb2⟩ := hcut
  replace B2 := ak (blk_below B2.out hb2)
  replace B4 := ak B4
  replace HB := ak (below_step HB.out hb2)
  clear hb2
  go_upto_region 3 with fail
  go_cut [18, 19, 20] from 17 to 20 (fun s18 s19 s20 wx => ∃ A5, s18 = .slice A5 ws.length ws.length ∧ s19 = .int .i64 ws.length ∧ s20 = .int .i64 0 ∧ (ws ≠ [] → A5 = some ⟨g4, 1, none⟩) ∧ wx = wc)
  case first =>
    cases ws with
    | nil =>
      go_wp2_with fail
      go_meet
      case rel => exact ⟨_, rfl, rfl, rfl, fun h => absurd rfl h, rfl⟩
    | cons w1 ws =>
      go_wp2_with fail
      go_meet
      case rel => exact ⟨_, rfl, rfl, rfl, fun _ => rfl, rfl⟩
  obtain ⟨A5, rfl, rfl, rfl, hA5, rfl⟩ := hcut
  go_wp2
  go_loopg [5, 20] ws.length (fun kq v5 v20 w' => ∃ (i : Nat) (x : Int) (ns : List Int), v20 = .int .i64 x ∧ Aside0 (x = i ∧ i + kq = ws.length ∧ numsF ((ws.take i).map (·.data.toList)) = some ns ∧ ns.length = i) ∧ Aside0 (Kd.R kI 3 w' w.heap.size (fun _ => True) v5 ns) ∧ Aside0 (w'.heap[g2]? = some (.cells #[.int .i64 0, .int .i64 0, .slice none 0 0, .int .i64 0, .int .i64 0] 26 (0, 0)) ∧ w'.heap[g4]? = some (.cells ((w0 :: ws).map Value.string).toArray 9 (0, 0)) ∧ Below w.heap.size w w'))
  case atStart => exact ⟨0, 0, [], rfl, ⟨rfl, by omega, rfl, rfl⟩, ⟨Kd.R_nil _ _ _ _ _⟩, ⟨B2.out, B4.out, HB.out⟩⟩
  case round =>
    clear B2 B4 HB
    obtain ⟨i, x, ns, rfl, ⟨hx, hi, hn, hnl⟩, ⟨hR⟩, ⟨B2, B4, HB⟩⟩ := hrel
    replace B2 := ak B2
    replace B4 := ak B4
    replace HB := ak HB
    have hEr := ak (hE.below HB.out)
    cases gk with
    | zero =>
      have c1 : decide (x < (ws.length : Int)) = false := decide_eq_false (by omega)
      rw [List.take_of_length_le (by omega)] at hn
      have hpe : parseF chkF s.data.toList = if printF chkF (figF w0.data.toList ns) = some s.data.toList then some (figF w0.data.toList ns) else none := by
        unfold parseF
        rw [hsp]
        simp only [hn]
      replace hpe := ak hpe
      replace hnl := ak (show ns.length ≤ 100000 by omega)
      clear hn hi hx hsp hwx
      obtain ⟨A6, k6, ev⟩ := Kd.R_slice hR
      subst ev
      go_upto_region 11 with fail
      go_cut [10] from 10 to 10 (fun v wx => ∃ g10, v = .pointer (some ⟨g10, 0, none⟩) ∧ wx.heap[g10]? = some (.cells #[.int .i64 0, .int .i64 0, .slice none 0 0, .int .i64 0, .int .i64 0] 26 (0, 0)) ∧ wr.heap.size ≤ g10 ∧ Below wr.heap.size wr wx)
      case first =>
        go_wp2_with fail
        go_meet
        case rel => exact ⟨_, rfl, blk_new wr _, Nat.le_refl _, (Below.refl _ wr).alloc (Nat.le_refl _) _⟩
      obtain ⟨g10, rfl, B10, hg10, hb2⟩ := hcut
      have hne : g10 ≠ g2 := by have := blk_lt B2.out; omega
      have hg10' : w.heap.size ≤ g10 := by have := HB.out.size; omega
      replace B2 := ak (blk_below B2.out hb2)
      replace B4 := ak (blk_below B4.out hb2)
      replace HB := ak (below_step HB.out hb2)
      replace hR := ak (Kd.R_below hR hb2)
      replace B10 := ak B10
      clear hb2 hEr hg10
      go_step
      go_step
      go_cut [11] from 11 to 102 (fun _ wx => ∃ (A : Option Addr) (n c : Nat), wx.heap[g10]? = some (.cells #[.int .i64 (figF w0.data.toList ns).kind, .int .i64 (figF w0.data.toList ns).site, .slice A n c, .int .i64 (figF w0.data.toList ns).lo, .int .i64 (figF w0.data.toList ns).hi] 26 (0, 0)) ∧ n = (figF w0.data.toList ns).ar.length ∧ n ≤ c ∧ n ≤ 100000 ∧ CF wx g2 A (figF w0.data.toList ns).ar.length (figF w0.data.toList ns).ar ∧
        wx.heap[g2]? = some (.cells #[.int .i64 0, .int .i64 0, .slice none 0 0, .int .i64 0, .int .i64 0] 26 (0, 0)) ∧ Below w.heap.size w wx)
      case first =>
        have z40 : wc.cell? ⟨g4, 0, none⟩ = some (.string w0) := (blk_cell B4.out 0).trans rfl
        have zero : figF w0.data.toList ns = zeroFg → ∃ (A : Option Addr) (n c : Nat), wc.heap[g10]? = some (.cells #[.int .i64 (figF w0.data.toList ns).kind, .int .i64 (figF w0.data.toList ns).site, .slice A n c, .int .i64 (figF w0.data.toList ns).lo, .int .i64 (figF w0.data.toList ns).hi] 26 (0, 0)) ∧ n = (figF w0.data.toList ns).ar.length ∧ n ≤ c ∧ n ≤ 100000 ∧ CF wc g2 A (figF w0.data.toList ns).ar.length (figF w0.data.toList ns).ar ∧
        wc.heap[g2]? = some (.cells #[.int .i64 0, .int .i64 0, .slice none 0 0, .int .i64 0, .int .i64 0] 26 (0, 0)) ∧ Below w.heap.size w wc := fun e => by
          rw [e]
          exact ⟨none, 0, 0, B10.out, rfl, by decide, by decide, cf_nil _ _, B2.out, HB.out⟩
        replace zero := ak zero
        have hd : w0.data.toList = w0.toList := (ByteArray.toList_eq w0).symm
        by_cases hs1 : w0.toList = [115, 105, 116, 101]
        · have n2 : ¬ w0.toList = [97, 114, 101, 97] := by rw [hs1]; decide
          by_cases h3 : ns.length = 3
          · have c3 : ((ns.length : Int) == 3) = true := beq_iff_eq.2 (by omega)
            obtain ⟨gn, cap, ev, gnb, gnl, HG⟩ := Kd.R_form hR.out (by omega)
            cases ev
            obtain ⟨v0, v1, v2, e3⟩ : ∃ v0 v1 v2, ns = [v0, v1, v2] := by
              match ns, h3 with
              | [a, b, c], _ => exact ⟨a, b, c, rfl⟩
            have y0 := kI_cell (Kd.R_drew hR.out) 0 v0 (by rw [e3]; rfl)
            have y1 := kI_cell (Kd.R_drew hR.out) 1 v1 (by rw [e3]; rfl)
            have y2 := kI_cell (Kd.R_drew hR.out) 2 v2 (by rw [e3]; rfl)
            have hf : figF w0.data.toList ns = ⟨1, v0, [], v1, v2⟩ := by
              unfold figF
              rw [hd, hs1, if_pos ⟨rfl, h3⟩, e3]
              rfl
            replace e3 := ak e3
            replace hf := ak hf
            clear zero
            go_upto_region 13 with fail
            have hXd := below_drew1 (Below.refl wc.heap.size wc)
            replace B2 := ak (blk_below B2.out hXd)
            replace B10 := ak (blk_below B10.out hXd)
            replace HB := ak (below_step HB.out hXd)
            have l0 : (0 < (ns.length : Int)) = True := eq_true (by omega)
            have l1 : (1 < (ns.length : Int)) = True := eq_true (by omega)
            have l2 : (2 < (ns.length : Int)) = True := eq_true (by omega)
            clear hXd
            refine start_ (n := 12) (S := fun w' => w'.cell? ⟨gn, 0, none⟩ = some (.int .i64 v0) ∧ w'.cell? ⟨gn, 1, none⟩ = some (.int .i64 v1) ∧ w'.cell? ⟨gn, 2, none⟩ = some (.int .i64 v2)) (ds := [11]) #[false, false, false, false, false, false, false, false, false, false, false, false] kr rfl rfl ⟨y0, y1, y2⟩ (fun hHeld => ?_); refine with_tabW f8a_tab f8a_bits (fun HT_ HW_ => ?_)
            clear y0 y1 y2
            generalize wc.drew = wd at B2 B10 HB hHeld ⊢
            refine pS 0 (some 47) ?_
            refine pS 1 (some 48) ?_
            refine pT 2 (some 49) ?_
            refine pS 3 (some 50) ?_
            refine pS 4 (some 51) ?_
            refine pT 5 (some 52) ?_
            refine pS 6 (some 53) ?_
            refine pS 7 (some 54) ?_
            refine pT 8 (some 55) ?_
            refine pS 9 (some 56) ?_
            refine pS 10 (some 57) ?_
            obtain ⟨z100, z101, z102, z103, z104, f100, f101, f102, f103, f104⟩ := cb5 B10.out
            refine last_ (i := 11) (N := none) #[true, true, true, true, true, true, true, true, true, true, true, true] rfl rfl (one_of HT_.out kr) (by decide) (fun K hK => ?_)
            refine skip_ (w1 := ((((wd.setCell ⟨g10, 0, none⟩ (.int .i64 1)).setCell ⟨g10, 1, none⟩ (.int .i64 v0)).setCell ⟨g10, 2, none⟩ (.slice none 0 0)).setCell ⟨g10, 3, none⟩ (.int .i64 v1)).setCell ⟨g10, 4, none⟩ (.int .i64 v2)) (by rfl) rfl (by go_simp; done) ?_
            refine hK.out _ _ ?_
            clear hK K
            refine Go.Proofs.YtnifkpljhfpdlaaGreatDoorW.PrintLast.done_ (done_of HT_.out kr) ?_
            try go_wp2
            go_meet
            case rel =>
              obtain ⟨q0, q1, q2, _⟩ := set5 B10.out (.int .i64 1) (.int .i64 v0) (.slice none 0 0) (.int .i64 v1) (.int .i64 v2) rfl
              rw [hf.out]
              exact ⟨none, 0, 0, q0, rfl, by decide, by decide, cf_nil _ _, q2 _ _ _ (fun e => hne e.symm) B2.out, q1 w hg10' HB.out⟩
          · have c3 : ((ns.length : Int) == 3) = false := beq_eq_false_iff_ne.2 (by omega)
            have hz : figF w0.data.toList ns = zeroFg := by
              unfold figF
              rw [hd, hs1, if_neg (fun h => h3 h.2), if_neg (fun h => absurd h.1 (by decide))]
            replace zero := ak (zero.out hz)
            clear hz
            go_wp2_with fail
            go_meet
            case rel => exact zero.out
        · by_cases hs2 : w0.toList = [97, 114, 101, 97]
          · by_cases h2 : 2 ≤ ns.length
            · have c2 : 2 ≤ (ns.length : Int) := by omega
              by_cases h4 : ns.length % 2 = 0
              · have c4 : ((ns.length : Int) % 2 == 0) = true := beq_iff_eq.2 (by omega)
                obtain ⟨gn, cap, ev, gnb, gnl, HG⟩ := Kd.R_form hR.out (by omega)
                cases ev
                obtain ⟨v0, e0⟩ : ∃ v, ns[0]? = some v := ⟨_, List.getElem?_eq_getElem (by omega)⟩
                obtain ⟨v1, e1⟩ : ∃ v, ns[1]? = some v := ⟨_, List.getElem?_eq_getElem (by omega)⟩
                have y0 := kI_cell (Kd.R_drew hR.out) 0 v0 e0
                have y1 := kI_cell (Kd.R_drew hR.out) 1 v1 e1
                have hf : figF w0.data.toList ns = ⟨2, 0, pairs (ns.drop 2), v0, v1⟩ := by
                  unfold figF
                  rw [hd, if_neg (fun h => hs1 h.1), if_pos ⟨hs2, h2, h4⟩]
                  simp only [List.getD_eq_getElem?_getD, e0, e1, Option.getD_some]
                obtain ⟨cs3, HG⟩ := HG
                have hcs : ∀ j v, ns[j]? = some v → cs3[j]? = some (Value.int .i64 v) := fun j v hj => (blk_cell HG j).symm.trans (kI_cell hR.out j v hj)
                have hpl := pairs_len _ (ns.drop 2) (Nat.le_refl _)
                rw [List.length_drop] at hpl
                replace hf := ak hf
                replace hcs := ak hcs
                have hnl0 := hnl.out
                clear zero
                go_upto_region 15 with fail
                have hXd := below_drew1 (Below.refl wc.heap.size wc)
                replace B2 := ak (blk_below B2.out hXd)
                replace B10 := ak (blk_below B10.out hXd)
                replace HG := ak (blk_below HG hXd)
                replace HB := ak (below_step HB.out hXd)
                have l0 : (0 < (ns.length : Int)) = True := eq_true (by omega)
                have l1 : (1 < (ns.length : Int)) = True := eq_true (by omega)
                have l0n : (0 < ns.length) = True := eq_true (by omega)
                have l1n : (1 < ns.length) = True := eq_true (by omega)
                clear hXd
                refine start_ (n := 9) (S := fun w' => w'.cell? ⟨gn, 0, none⟩ = some (.int .i64 v0) ∧ w'.cell? ⟨gn, 1, none⟩ = some (.int .i64 v1)) (ds := [8]) #[false, false, false, false, false, false, false, false, false] kr rfl rfl ⟨y0, y1⟩ (fun hHeld => ?_); refine with_tabW f8b_tab f8b_bits (fun HT_ HW_ => ?_)
                clear y0 y1
                generalize wc.drew = wd at B2 B10 HG HB hHeld ⊢
                refine pS 0 (some 74) ?_
                refine pS 1 (some 75) ?_
                refine pT 2 (some 76) ?_
                refine pS 3 (some 77) ?_
                refine pS 4 (some 78) ?_
                refine pT 5 (some 79) ?_
                refine pS 6 (some 80) ?_
                refine pS 7 (some 81) ?_
                obtain ⟨z100, z101, z102, z103, z104, f100, f101, f102, f103, f104⟩ := cb5 B10.out
                refine last_ (i := 8) (N := none) #[true, true, true, true, true, true, true, true, true] rfl rfl (one_of HT_.out kr) (by decide) (fun K hK => ?_)
                refine skip_ (w1 := ((((wd.setCell ⟨g10, 0, none⟩ (.int .i64 2)).setCell ⟨g10, 1, none⟩ (.int .i64 0)).setCell ⟨g10, 2, none⟩ (.slice none 0 0)).setCell ⟨g10, 3, none⟩ (.int .i64 v0)).setCell ⟨g10, 4, none⟩ (.int .i64 v1)) (by rfl) rfl (by go_simp; done) ?_
                refine hK.out _ _ ?_
                clear hK K
                refine Go.Proofs.YtnifkpljhfpdlaaGreatDoorW.PrintLast.done_ (done_of HT_.out kr) ?_
                clear HT_ HW_ hHeld z100 z101 z102 z103 z104 f100 f101 f102 f103 f104
                obtain ⟨q0, q1, q2, _⟩ := set5 B10.out (.int .i64 2) (.int .i64 0) (.slice none 0 0) (.int .i64 v0) (.int .i64 v1) rfl
                generalize hwe : ((((wd.setCell ⟨g10, 0, none⟩ (.int .i64 2)).setCell ⟨g10, 1, none⟩ (.int .i64 0)).setCell ⟨g10, 2, none⟩ (.slice none 0 0)).setCell ⟨g10, 3, none⟩ (.int .i64 v0)).setCell ⟨g10, 4, none⟩ (.int .i64 v1) = we at q0 q1 q2 ⊢
                clear hwe
                replace HG := ak (q2 _ _ _ (blk_ne HG.out B10.out (by decide)) HG.out)
                replace B2 := ak (q2 _ _ _ (fun e => hne e.symm) B2.out)
                replace HB := ak (q1 w hg10' HB.out)
                replace q0 := ak q0
                clear q1 q2 B10 B4 hR
                go_wp2
                go_loopg [11] (pairs (ns.drop 2)).length (fun kq v11 w' => ∃ (j : Nat) (x : Int) (v : Value), v11 = .int .i64 x ∧ Aside0 (x = 2 + 2 * (j : Int) ∧ j + kq = (pairs (ns.drop 2)).length) ∧ Aside0 (w'.heap[g10]? = some (.cells #[.int .i64 2, .int .i64 0, v, .int .i64 v0, .int .i64 v1] 26 (0, 0)) ∧ Kd.R kP 35 w' w.heap.size (fun _ => True) v ((pairs (ns.drop 2)).take j)) ∧ Aside0 (w'.heap[gn]? = some (.cells cs3 3 (0, 0)) ∧ w'.heap[g2]? = some (.cells #[.int .i64 0, .int .i64 0, .slice none 0 0, .int .i64 0, .int .i64 0] 26 (0, 0)) ∧ Below w.heap.size w w'))
                case atStart => exact ⟨0, 2, _, rfl, ⟨rfl, by omega⟩, ⟨q0.out, Kd.R_nil _ _ _ _ _⟩, ⟨HG.out, B2.out, HB.out⟩⟩
                case round =>
                  clear q0 HG B2 HB
                  obtain ⟨j, x, v, rfl, ⟨hx, hj⟩, ⟨B10, hRp⟩, ⟨HG, B2, HB⟩⟩ := hrel
                  cases gk with
                  | zero =>
                    have c5 : decide (x < (ns.length : Int)) = false := decide_eq_false (by omega)
                    rw [List.take_of_length_le (by omega)] at hRp
                    obtain ⟨Ap, kp, ev⟩ := Kd.R_slice hRp
                    subst ev
                    clear hx hj
                    go_wp2
                    go_meet
                    case rel =>
                      rw [hf.out]
                      exact ⟨Ap, _, kp, B10, rfl, (Kd.R_reads' hRp).2.1, by omega, cf_row hRp B2 (by decide), B2, HB⟩
                  | succ k1 =>
                    have hlt : j < (pairs (ns.drop 2)).length := by omega
                    have c5 : decide (x < (ns.length : Int)) = true := decide_eq_true (by omega)
                    obtain ⟨p, hp⟩ : ∃ p, (pairs (ns.drop 2))[j]? = some p := ⟨_, List.getElem?_eq_getElem hlt⟩
                    obtain ⟨hp1, hp2⟩ := pairs_get _ (ns.drop 2) (Nat.le_refl _) j p hp
                    rw [List.getElem?_drop] at hp1 hp2
                    have hxw : wrap64 (x + 1) = x + 1 := wrapN (by omega) (by omega)
                    have hxw2 : Aside0 (wrap64 (x + 2) = 2 + 2 * ((j + 1 : Nat) : Int)) := ⟨by rw [wrapN (by omega) (by omega)]; omega⟩
                    have px : (0 ≤ x) = True := eq_true (by omega)
                    have qx : (x < (ns.length : Int)) = True := eq_true (by omega)
                    have px1 : (0 ≤ wrap64 (x + 1)) = True := eq_true (by omega)
                    have qx1 : (wrap64 (x + 1) < (ns.length : Int)) = True := eq_true (by omega)
                    have HGd := blk_below HG (below_drew1 (Below.refl wr.heap.size wr))
                    have yx : ∀ W : World, W.heap[gn]? = some (.cells cs3 3 (0, 0)) → W.cell? ⟨gn, x.toNat, none⟩ = some (.int .i64 p.x) := fun W h => (blk_cell h _).trans (by rw [show x.toNat = 2 + 2 * j by omega]; exact hcs.out _ _ hp1)
                    have yy : ∀ W : World, W.heap[gn]? = some (.cells cs3 3 (0, 0)) → W.cell? ⟨gn, (wrap64 (x + 1)).toNat, none⟩ = some (.int .i64 p.y) := fun W h => (blk_cell h _).trans (by rw [show (wrap64 (x + 1)).toNat = 2 + (2 * j + 1) by omega]; exact hcs.out _ _ hp2)
                    have hal : (pairs (ns.drop 2)).take (j + 1) = (pairs (ns.drop 2)).take j ++ [p] := by rw [List.take_add_one, hp]; rfl
                    have hptl : ((pairs (ns.drop 2)).take j).length = j := by rw [List.length_take]; omega
                    clear hxw hp1 hp2 hp
                    replace hal := ak hal
                    replace hx := ak hx
                    replace hj := ak hj
                    have hcap := ak (show (((pairs (ns.drop 2)).take j).length + 1) * 16 ≤ 140737488355328 by omega)
                    clear hptl
                    generalize (pairs (ns.drop 2)).take j = pts at hRp hal hcap
                    obtain ⟨Ap, kp, ev⟩ := Kd.R_slice hRp
                    subst ev
                    replace yx := ak yx
                    replace yy := ak yy
                    go_upto_region 19 with fail
                    have hXd := below_drew1 (Below.refl wr.heap.size wr)
                    replace B10 := blk_below B10 hXd
                    replace HG := blk_below HG hXd
                    replace B2 := blk_below B2 hXd
                    replace HB := below_step HB hXd
                    replace hRp := Kd.R_below hRp hXd
                    clear hXd HGd
                    refine start_ (n := 16) (S := fun w' => w'.cell? ⟨g10, 2, none⟩ = some (.slice Ap pts.length kp) ∧ w'.cell? ⟨gn, x.toNat, none⟩ = some (.int .i64 p.x) ∧ w'.cell? ⟨gn, (wrap64 (x + 1)).toNat, none⟩ = some (.int .i64 p.y)) (ds := [15]) #[false, false, false, false, false, false, false, false, false, false, false, false, false, false, false, false] kr rfl rfl ⟨(blk_cell B10 2).trans rfl, yx.out _ HG, yy.out _ HG⟩ (fun hHeld => ?_); refine with_tabW f8c_tab f8c_bits (fun HT_ HW_ => ?_)
                    generalize wr.drew = w1 at B2 B10 HG HB hRp hHeld ⊢
                    refine pS 0 (some 88) ?_
                    refine pT 1 (some 89) ?_
                    refine pS 2 (some 90) ?_
                    refine pS 3 (some 91) ?_
                    refine pS 4 (some 92) ?_
                    refine pT 5 (some 93) ?_
                    refine pS 6 (some 94) ?_
                    refine pS 7 (some 95) ?_
                    refine pS 8 (some 96) ?_
                    refine pS 9 (some 97) ?_
                    refine pT 10 (some 98) ?_
                    refine pS 11 (some 99) ?_
                    refine one_ (i := 12) (N := some 100) #[true, true, true, true, true, true, true, true, true, true, true, true, true, false, false, false] rfl rfl (one_of HT_.out kr) (by decide) (fun K hK => ?_)
                    refine value_ (w1 := ?_) (v := ?_) (by rfl) rfl ?_ ?_
                    rotate_left 2
                    · go_simp
                      constructor
                      · rfl
                      · rfl
                    have B10a := blk_alloc B10 (.cells [Value.int .i64 p.x, .int .i64 p.y].toArray 35)
                    have HGa := blk_alloc HG (.cells [Value.int .i64 p.x, .int .i64 p.y].toArray 35)
                    have B2a := blk_alloc B2 (.cells [Value.int .i64 p.x, .int .i64 p.y].toArray 35)
                    refine hK.out _ _ ⟨(blk_cell B10a 2).trans rfl, yx.out _ HGa, yy.out _ HGa⟩ (fun hHeld => ?_)
                    clear hK K
                    refine norm_ (a' := ?_) ?_ ?_
                    rotate_left
                    · show Act.put _ (some 100) _ = _
                      simp only [Act.put, List.setIfInBounds_toArray, List.set_cons_zero, List.set_cons_succ, i64_w, i32_w]
                      rfl
                    refine one_ (i := 13) (N := some 101) #[true, true, true, true, true, true, true, true, true, true, true, true, true, true, false, false] rfl rfl (one_of HT_.out kr) (by decide) (fun K hK => ?_)
                    refine Kd.R_append_step kP (w0 := w) w.heap.size (by rfl) (.tmp 89) (.tmp 100) 22 35 (.agg #[.int .i64 0, .int .i64 0]) 16 rfl Tryz.underlying22 info35 rfl (by decide) (by omega) (.slice Ap pts.length kp) pts p [.int .i64 p.x, .int .i64 p.y] (fun _ => True) (fun _ => False) rfl rfl (kP_mkM _ _ _ _) (fun _ hk => hk.elim) (fun _ _ => trivial) hRp HB HB.size hcap.out ?_
                    intro v3 w3 ho3 hb3 hg3 _
                    have B10b := blk_grown B10 hg3 (Kd.R_ne hRp B10 (by decide))
                    have HGb := blk_grown HG hg3 (Kd.R_ne hRp HG (by decide))
                    have B2b := blk_grown B2 hg3 (Kd.R_ne hRp B2 (by decide))
                    refine hK.out _ _ ⟨(blk_cell B10b 2).trans rfl, yx.out _ HGb, yy.out _ HGb⟩ (fun hHeld => ?_)
                    clear hK K
                    refine norm_ (a' := ?_) ?_ ?_
                    rotate_left
                    · show Act.put _ (some 101) _ = _
                      simp only [Act.put, List.setIfInBounds_toArray, List.set_cons_zero, List.set_cons_succ, i64_w, i32_w]
                      rfl
                    refine pS 14 (some 102) ?_
                    have z4 : w3.cell? ⟨g10, 2, none⟩ = some (.slice Ap pts.length kp) := (blk_cell B10b 2).trans rfl
                    have f4 := blk_frozen B10b 2
                    refine last_ (i := 15) (N := none) #[true, true, true, true, true, true, true, true, true, true, true, true, true, true, true, true] rfl rfl (one_of HT_.out kr) (by decide) (fun K hK => ?_)
                    obtain ⟨A3, k3, e3⟩ := Kd.R_slice ho3
                    generalize (pts ++ [p]).length = L at e3
                    subst e3
                    refine skip_ (w1 := w3.setCell ⟨g10, 2, none⟩ (.slice A3 L k3)) (by rfl) rfl (by go_simp; done) ?_
                    refine hK.out _ _ ?_
                    clear hK K
                    have B10c := blk_put (cs' := #[.int .i64 2, .int .i64 0, .slice A3 L k3, .int .i64 v0, .int .i64 v1]) B10b 2 (.slice A3 L k3) rfl
                    have hRc := Kd.R_set ho3 B10b (by decide) 2 (.slice A3 L k3)
                    have HBc := below_set (j := 2) (v := .slice A3 L k3) hb3 hg10'
                    have HGc := blk_far HGb (p := ⟨g10, 2, none⟩) (blk_ne HGb B10b (by decide)) (.slice A3 L k3)
                    have B2c := blk_far B2b (p := ⟨g10, 2, none⟩) (fun e => hne e.symm) (.slice A3 L k3)
                    refine Go.Proofs.YtnifkpljhfpdlaaGreatDoorW.PrintLast.done_ (done_of HT_.out kr) ?_
                    try go_wp2
                    go_roundg k1
                    case measure => omega
                    case rel => exact ⟨j + 1, wrap64 (x + 2), _, rfl, ⟨hxw2.out, by have := hj.out; omega⟩, ⟨B10c, by rw [hal.out]; exact hRc⟩, ⟨HGc, B2c, HBc⟩⟩
              · have c4 : ((ns.length : Int) % 2 == 0) = false := beq_eq_false_iff_ne.2 (by omega)
                have hz : figF w0.data.toList ns = zeroFg := by
                  unfold figF
                  rw [hd, if_neg (fun h => hs1 h.1), if_neg (fun h => h4 h.2.2)]
                replace zero := ak (zero.out hz)
                clear hz
                go_wp2_with fail
                go_meet
                case rel => exact zero.out
            · have c2 : ¬ 2 ≤ (ns.length : Int) := by omega
              have hz : figF w0.data.toList ns = zeroFg := by
                unfold figF
                rw [hd, if_neg (fun h => hs1 h.1), if_neg (fun h => h2 h.2.1)]
              replace zero := ak (zero.out hz)
              clear hz
              go_wp2_with fail
              go_meet
              case rel => exact zero.out
          · have hz : figF w0.data.toList ns = zeroFg := by
              unfold figF
              rw [hd, if_neg (fun h => hs1 h.1), if_neg (fun h => hs2 h.1)]
            replace zero := ak (zero.out hz)
            clear hz
            go_wp2_with fail
            go_meet
            case rel => exact zero.out
      obtain ⟨A, n, c, B10, hn, hnc, hn1, hCF, B2, HB⟩ := hcut
      generalize figF w0.data.toList ns = f at B10 hn hCF hpe
      subst hn
      have hC := hCF wc (fun _ _ _ => rfl)
      have hCb := blk_cell B10
      go_upto_region 20 with fail
      obtain ⟨z100, z101, z102, z103, z104, f100, f101, f102, f103, f104⟩ := cb5 B10
      clear hCb
      have hpr := print_calls (k := f.kind) (s := f.site) (lo := f.lo) (hi := f.hi) (chk := chkF) hC hnc (hE.below HB).tab (fun W hW => check_calls (Kd.C_below hC hW) (by omega) hnc) (fun h => chkF_ok h)
      go_cut [12, 13] from 12 to 107 (fun s12 s13 wx => ∃ t e, s12 = .string t ∧ s13 = .int .i64 e ∧ PrOut (printF chkF f) t e ∧ Below wc.heap.size wc wx)
      case first =>
        go_wp2_with (first | (go_at_call 7; (with_reducible refine hpr.mono ?_); rintro en w2 ⟨t, e, rfl, hpo, hb2⟩) | fail)
        go_meet
        case rel => exact ⟨t, e, rfl, rfl, hpo, hb2⟩
      obtain ⟨t, e, rfl, rfl, hpo, hb2⟩ := hcut
      clear hpr z100 z101 z102 z103 z104 f100 f101 f102 f103 f104
      replace B10 := blk_below B10 hb2
      replace B2 := blk_below B2 hb2
      replace HB := below_step HB hb2
      replace hCF := fun (W : World) (hW : ∀ k, k ≠ g2 → W.heap[k]? = wc.heap[k]?) => hCF W (fun k hk hlt => (hW k hk).trans (hb2.block k hlt))
      clear hb2 hC
      obtain ⟨z20, z21, z22, z23, z24, f20, f21, f22, f23, f24⟩ := cb5 B2
      obtain ⟨z100, z101, z102, z103, z104, _⟩ := cb5 B10
      have hT := ByteArray.toList_eq t
      have hS := ByteArray.toList_eq s
      by_cases hq : printF chkF f = some s.data.toList
      · rw [hq] at hpo
        obtain ⟨he, ht⟩ := hpo
        have hts : t = s := WideShapes.bytes_inj ht
        subst hts
        subst he
        clear hT hS ht
        go_wp2
        obtain ⟨q0, q1, q2, q3⟩ := set5 B2 (.int .i64 f.kind) (.int .i64 f.site) (.slice A f.ar.length c) (.int .i64 f.lo) (.int .i64 f.hi) rfl
        refine pa_end rfl rfl q0 (q1 w hg2 HB) ?_
        rw [hpe.out, hq, if_pos rfl]
        refine ⟨rfl, rfl, rfl, rfl, rfl, rfl, hnc, hn1, ?_⟩
        exact hCF _ q3
      · have hpn : parseF chkF s.data.toList = none := by rw [hpe.out, if_neg hq]
        have hfin : ∀ (tmps : Array Value) (W : World), tmps[2]? = some (.pointer (some ⟨g2, 0, none⟩)) → tmps[3]? = some (.int .i64 7) → (((((wc.setCell ⟨g2, 0, none⟩ (.int .i64 0)).setCell ⟨g2, 1, none⟩ (.int .i64 0)).setCell ⟨g2, 2, none⟩ (.slice none 0 0)).setCell ⟨g2, 3, none⟩ (.int .i64 0)).setCell ⟨g2, 4, none⟩ (.int .i64 0)) = W → bodyPost Tryz.prog Tryz.f8 (PaOut w s) .ret { tmps := tmps, defers := [] } W := fun tmps W h1 h2 h3 => by
          obtain ⟨q0, q1, _⟩ := set5 B2 _ _ _ _ _ h3
          exact pa_end h1 h2 q0 (q1 w hg2 HB) (by rw [hpn]; exact ⟨rfl, rfl, rfl, rfl, rfl, rfl, rfl, rfl⟩)
        have hne2 : e = 0 → ¬ t.toList = s.toList := fun he h => by
          rw [hT, hS] at h
          cases hx : printF chkF f with
          | none => rw [hx] at hpo; have := hpo.1; omega
          | some y =>
            rw [hx] at hpo
            exact hq (by rw [hx, ← h, hpo.2])
        clear hT hS hpn hpe hpo hq
        rcases Decidable.em (e = 0) with he | he
        · have hn2 := hne2 he
          subst he
          clear hne2
          have hn3 : ¬ t = s := fun h => hn2 (by rw [h])
          have hn4 : (t.toList == s.toList) = false := beq_eq_false_iff_ne.2 hn2
          go_wp2
          exact hfin _ _ rfl rfl rfl
        · have hen : (e == 0) = false := beq_eq_false_iff_ne.2 he
          clear hne2
          go_wp2
          exact hfin _ _ rfl rfl rfl
    | succ k1 =>
      have hlt : i < ws.length := by omega
      have c1 : decide (x < (ws.length : Int)) = true := decide_eq_true (by omega)
      obtain ⟨y, hy⟩ : ∃ y, ws[i]? = some y := ⟨_, List.getElem?_eq_getElem hlt⟩
      have hym := List.mem_of_getElem? hy
      have hyl := hwx y hym
      have hA := hA5 (fun e => by rw [e] at hlt; simp at hlt)
      subst hA
      have z0 : wr.cell? ⟨g4, 1 + x.toNat, none⟩ = some (.string y) := by
        rw [blk_cell B4.out (1 + x.toNat), show x.toNat = i by omega, Nat.add_comm]
        simp [hy]
      have px : (0 ≤ x) = True := eq_true (by omega)
      have qx : (x < (ws.length : Int)) = True := eq_true (by omega)
      have hw : Aside0 (wrap64 (x + 1) = ((i + 1 : Nat) : Int)) := ⟨by rw [hx, wrapN (by omega) (by omega)]; rfl⟩
      have hal := ak (show (ws.take (i + 1)).map (·.data.toList) = (ws.take i).map (·.data.toList) ++ [y.data.toList] by rw [List.take_add_one, hy]; simp)
      have hcap := ak (show (ns.length + 1) * 8 ≤ 140737488355328 by omega)
      replace hx := ak hx
      replace hi := ak hi
      replace hn := ak hn
      replace hnl := ak hnl
      obtain ⟨A6, k6, ev⟩ := Kd.R_slice hR
      subst ev
      by_cases hb : ∃ v, Lib.atoiAll y.data.toList = .ok v
      · obtain ⟨v, hv⟩ := hb
        go_wp2_with (first
          | (go_at_call 31; (with_reducible refine (atoi_ok hEr.out (by omega) hv).mono ?_); rintro en w2 ⟨rfl, hb2⟩; replace B2 := ak (blk_below B2.out hb2); replace B4 := ak (blk_below B4.out hb2); replace HB := ak (below_step HB.out hb2); have hR2 := Kd.R_below hR hb2; clear hb2)
          | ((with_reducible refine gate_builtin (b := .append) (xs := #[.tmp 32, .tmp 34]) rfl ?_); at_builtin; refine Kd.R_append kI (w0 := w) w.heap.size rfl (.tmp 32) (.tmp 34) 58 3 (.int .i64 0) 8 rfl Tryz.underlying58 info3 rfl (by decide) (by omega) (.slice A6 ns.length k6) ns v [.int .i64 v] (fun _ => True) (fun _ => False) rfl rfl rfl (fun _ hk => hk.elim) (fun _ _ => trivial) hR2 HB.out HB.out.size hcap.out ?_; intro v3 w3 ho3 hb3 hg3 _)
          | fail)
        go_roundg k1
        case measure => omega
        case rel => exact ⟨i + 1, wrap64 (x + 1), ns ++ [v], rfl, ⟨hw.out, by have := hi.out; omega, by rw [hal.out]; exact nums_snoc _ _ _ _ hn.out hv, by have := hnl.out; simp; omega⟩, ⟨ho3⟩, ⟨blk_grown B2.out hg3 (Kd.R_ne hR2 B2.out (by decide)), blk_grown B4.out hg3 (Kd.R_ne hR2 B4.out (by decide)), hb3⟩⟩
      · have hbad : ∀ n, Lib.atoiAll y.data.toList ≠ .ok n := fun n h => hb ⟨n, h⟩
        go_wp2_with (first
          | (go_at_call 31; (with_reducible refine (atoi_bad hEr.out (by omega) hbad).mono ?_); rintro en w2 ⟨v, t, N, rfl, hb2⟩; replace B2 := ak (blk_below B2.out hb2); replace HB := ak (below_step HB.out hb2); obtain ⟨z20, z21, z22, z23, z24, f20, f21, f22, f23, f24⟩ := cb5 B2.out; clear hb2)
          | fail)
        obtain ⟨q2, qb, _⟩ := set5 B2.out _ _ _ _ _ rfl
        refine pa_end rfl rfl q2 (qb w hg2 HB.out) ?_
        have : parseF chkF s.data.toList = none := by
          unfold parseF
          rw [hsp]
          have e := nums_bad _ y.data.toList (show y.data.toList ∈ ws.map (fun x => x.data.toList) from List.mem_map.2 ⟨y, hym, rfl⟩) hbad
          simp only [e]
        rw [this]
        exact ⟨rfl, rfl, rfl, rfl, rfl, rfl, rfl, rfl⟩
end Go.Proofs.Tt.P
