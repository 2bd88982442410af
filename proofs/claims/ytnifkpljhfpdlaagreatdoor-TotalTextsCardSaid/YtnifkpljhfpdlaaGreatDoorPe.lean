/- What is proved: what functions of the program do (walks, by hand and by programs of this repository). Conditions stand in each theorem. -/
import Derived.Test.YtnifkpljhfpdlaaGreatDoorPd
import Derived.RangeFuncNested
import Derived.OwnWalkIn
import Derived.TacticsInMore
import Derived.LoopNIn
import Derived.LoopIn
set_option linter.unusedVariables false
set_option linter.unusedSimpArgs false
namespace Go.Proofs.Tt.P
open Go Go.Proofs.Tt.Sh Go.RowKit Go.Proofs.YtnifkpljhfpdlaaGreatDoorW.PrintWords Go.Proofs.YtnifkpljhfpdlaaGreatDoorW.PrintLast Go.Proofs.YtnifkpljhfpdlaaGreatDoorW.PrintMore
open Go.Tt (Pt)
set_option linter.unusedVariables false
set_option linter.unusedSimpArgs false
theorem sides_stops (n : Nat) (hn : 1 ≤ n) (Bn : Nat) {A : Option Addr} {c : Nat} {xs : List Pt} (hl : xs.length ≤ 1000000) (W0 w : World) (hr : Kd.C kP W0 A xs.length xs) (hB0 : Below W0.heap.size W0 w) (hB : w.heap[Bn]? = some (.cells #[.slice A xs.length c] 22 (0, 0))) :
    SeqStopsK Fence.wide n Tryz.prog 87 #[.pointer (some ⟨Bn, 0, none⟩)] (encS xs) (Kp1 W0.heap.size Bn) (fun ys => ys = List.range xs.length) (fun pre => pre <+: List.range xs.length) xs.length w := by
  intro l J Jx W hW hA _ hY h0
  have hBW : W.heap[Bn]? = some (.cells #[.slice A xs.length c] 22 (0, 0)) := blk_below hB hW
  exact sides1_in n hn l Bn hl J Jx (fun s W o h => hA s W _ none h (World.grownBy_alloc W o none) (fun r e => by cases e)) (fun s W h => hA s W _ none h ⟨rfl, rfl, rfl, Nat.le_refl _, fun _ _ _ => rfl⟩ (fun r e => by cases e)) W0 hr hY W
    (hB0.trans (hW.mono hB0.size)) hBW h0
set_option maxHeartbeats 8000000 in
set_option maxRecDepth 100000 in
theorem sides_calls (A : Option Addr) (m c : Nat) (w : World) : Calls Tryz.prog 59 #[.slice A m c] w fun e w' => e = .returned (.func (.func 87) #[] #[.pointer (some ⟨w.heap.size, 0, none⟩)]) ∧ w' = w.alloc (.cells #[.slice A m c] 22) := by
  go_enter Tryz.func59, Tryz.ntmps59
  go_wp2
  go_ret
  exact ⟨rfl, rfl⟩
theorem info133 : (Tryz.prog.info? 133).map (fun i => (i.zero, i.size, i.bytes)) = some (some (.agg #[.int .i64 0, .int .i64 0, .int .i64 0, .int .i64 0]), 4, 32) := by kernel_rfl
theorem kS_openM {w : World} {base : Nat} {ok : Nat → Prop} {x : Sd} {cs : List Value} (h : kS.M w base ok x cs) : cs = [.int .i64 x.a, .int .i64 x.b, .int .i64 x.c, .int .i64 x.d] := by
  obtain ⟨_, _, rfl, ⟨_, _, rfl, rfl, rfl⟩, ⟨_, _, rfl, rfl, rfl⟩⟩ := h
  exact rfl
theorem kS_app {W w1 : World} {base e : Nat} {ok : Nat → Prop} {v1 : Value} {xs : List Sd} {p : Sd} {inner : List Value} (hr : Reps (kS.M W base ok) kS.sz xs inner)
    (hown : w1.ownsRow base e kS.sz v1 (xs.length + 1) (inner ++ [.int .i64 p.a, .int .i64 p.b, .int .i64 p.c, .int .i64 p.d])) : Kd.R kS e w1 base (fun _ => True) v1 (xs ++ [p]) :=
  ⟨fun _ _ => trivial, _, by rw [List.length_append, List.length_singleton]; exact hown, (hr.imp_ (fun _ _ hq => by rw [kS_openM hq]; exact kS_mkM _ _ _ _)).snoc (kS_mkM _ _ _ _) rfl⟩
theorem R_own {α : Type} {d : Kd α} {e base : Nat} {W W' : World} {v : Value} {xs : List α} {row : Option Nat} (h : d.R e W base (fun _ => True) v xs) (hg : W.grownBy W' row) (hr : ∀ r, row = some r → ∃ o : Obj, W.heap[r]? = some o ∧ o.isCells = false) : d.R e W' base (fun _ => True) v xs :=
  Kd.R_mono (Kd.R_grown (Kd.R_bound h) hg (fun k hk e => by
    obtain ⟨_, _, _, q, _, cells, hc⟩ := hk
    obtain ⟨o, ho, hoc⟩ := hr k e.symm
    rw [hc] at ho; cases ho; cases hoc)) (fun _ _ => trivial)
theorem blk_own {W W' : World} {g : Nat} {t : TypeId} {cs : Array Value} {row : Option Nat} (h : W.heap[g]? = some (.cells cs t (0, 0))) (hg : W.grownBy W' row) (hr : ∀ r, row = some r → ∃ o : Obj, W.heap[r]? = some o ∧ o.isCells = false) : W'.heap[g]? = some (.cells cs t (0, 0)) :=
  blk_grown h hg (fun e => by
    obtain ⟨o, ho, hoc⟩ := hr g e.symm
    rw [h] at ho; cases ho; cases hoc)
structure CkI (w : World) (g2 g3 g10 Bn : Nat) (A : Option Addr) (c : Nat) (xs : List Pt) (pre : List Nat) (W : World) : Prop where
  new : allNew clsF [] (pre.map (sideAt xs)) = true
  b2 : W.heap[g2]? = some (.cells #[.int .i64 0] 29 (0, 0))
  b3 : W.heap[g3]? = some (.cells #[.int .i64 0] 3 (0, 0))
  bn : W.heap[Bn]? = some (.cells #[.slice A xs.length c] 22 (0, 0))
  row : ∃ v, W.heap[g10]? = some (.cells #[v] 128 (0, 0)) ∧ Kd.R kS 133 W w.heap.size (fun _ => True) v (pre.map (sideAt xs))
  below : Below w.heap.size w W
structure CkX (w : World) (g2 g3 : Nat) (xs : List Pt) (cd : Code) (pre : List Nat) (W : World) : Prop where
  ret : cd = .ret
  old : allNew clsF [] (pre.map (sideAt xs)) = false
  b2 : W.heap[g2]? = some (.cells #[.int .i64 9] 29 (0, 0))
  b3 : ∃ i, W.heap[g3]? = some (.cells #[.int .i64 i] 3 (0, 0))
  below : Below w.heap.size w W
theorem ckI_own (w : World) (g2 g3 g10 Bn : Nat) (A : Option Addr) (c : Nat) (xs : List Pt) {B : Nat} (hB : w.heap.size ≤ B) : OwnFrom B (CkI w g2 g3 g10 Bn A c xs) := fun pre X Y row h hg hr => by
  have hr' := fun r e => (hr r e).2
  obtain ⟨v, hv, hR⟩ := h.row
  exact ⟨h.new, blk_own h.b2 hg hr', blk_own h.b3 hg hr', blk_own h.bn hg hr', ⟨v, blk_own hv hg hr', R_own hR hg hr'⟩, h.below.grown hg h.below.size (fun k e => Nat.le_trans hB (hr k e).1)⟩
theorem ckX_own (w : World) (g2 g3 : Nat) (xs : List Pt) (cd : Code) {B : Nat} (hB : w.heap.size ≤ B) : OwnFrom B (CkX w g2 g3 xs cd) := fun pre X Y row h hg hr => by
  have hr' := fun r e => (hr r e).2
  obtain ⟨i, hi⟩ := h.b3
  exact ⟨h.ret, h.old, blk_own h.b2 hg hr', ⟨i, blk_own hi hg hr'⟩, h.below.grown hg h.below.size (fun k e => Nat.le_trans hB (hr k e).1)⟩
theorem kp1_t {n₀ Bn : Nat} {A B C : World} (h : Kp1 n₀ Bn A B) (k : Kp1 n₀ Bn B C) : Kp1 n₀ Bn A C := ⟨h.1.trans k.1, fun o ho => k.2 o (h.2 o ho)⟩
theorem kp1_b {n₀ Bn : Nat} {w : World} (hn : n₀ ≤ w.heap.size) (hB : Bn < w.heap.size) (W : World) (l : Nat) (o o' : Obj) (hl : w.heap.size ≤ l) (h : W.heap[l]? = some o) (h1 : o.isCells = false) (h2 : o.isWalk = false) : Kp1 n₀ Bn W (W.putObj l o') :=
  ⟨belowK_b hn W l o o' hl h h1 h2, fun x hx => by rw [World.putObj_heap_other (by omega)]; exact hx⟩
end Go.Proofs.Tt.P
namespace Go.Proofs.Tt.P
open Go Go.Proofs.Tt.Sh Go.RowKit Go.Proofs.YtnifkpljhfpdlaaGreatDoorW.PrintWords Go.Proofs.YtnifkpljhfpdlaaGreatDoorW.PrintLast Go.Proofs.YtnifkpljhfpdlaaGreatDoorW.PrintMore
open Go.Tt (Pt)
set_option linter.unusedVariables false
set_option linter.unusedSimpArgs false
def CkOut (w : World) (xs : List Pt) (en : Ending) (w' : World) : Prop := ∃ e at_, en = .returned (.tuple #[.int .i64 e, .int .i64 at_]) ∧ decide (e = 0) = chkF xs ∧ Below w.heap.size w w'
theorem keepsB {B : Nat} {W W' : World} (h : Below W.heap.size W W') : KeepsFrom B W W' := ⟨h.size, fun k o _ hk _ => blk_below hk h⟩
theorem cells_new (W : World) (t : TypeId) (vs : List Value) : ∀ j u, vs[j]? = some u → (W.alloc (.cells vs.toArray t)).cell? (Addr.add ⟨W.heap.size, 0, none⟩ j) = some u := by
  intro j u hj
  have := (blk_cell (blk_new W (.cells vs.toArray t)) j).trans (by simpa using hj)
  by_cases hj0 : j = 0
  · subst hj0; simpa [Addr.add] using this
  · simpa [Addr.add, hj0] using this
attribute [local go_sem] run_makeMap Oper.semAt_some
theorem ck_end {F : Fence} {n : Nat} {tmps : Array Value} {w0 w1 : World} {xs : List Pt} {g2 g3 : Nat} {e i : Int} (h2 : tmps[2]? = some (.pointer (some ⟨g2, 0, none⟩))) (h3 : tmps[3]? = some (.pointer (some ⟨g3, 0, none⟩)))
    (B2 : w1.heap[g2]? = some (.cells #[.int .i64 e] 29 (0, 0))) (B3 : w1.heap[g3]? = some (.cells #[.int .i64 i] 3 (0, 0))) (hB : Below w0.heap.size w0 w1) (he : decide (e = 0) = chkF xs) :
    bodyPostM F n Tryz.prog Tryz.f27 (CkOut w0 xs) .ret { tmps := tmps, defers := [] } w1 := by
  obtain ⟨z2, f2⟩ := cb1 B2
  obtain ⟨z3, f3⟩ := cb1 B3
  refine ⟨.tuple #[.int .i64 e, .int .i64 i], ?_, e, i, rfl, he, hB⟩
  simp [results, Tryz.f27, go_sem, h2, h3, z2, z3]
theorem ck_endD {F : Fence} {n : Nat} {tmps : Array Value} {w0 w1 : World} {xs : List Pt} {g2 g3 D : Nat} {e i : Int} (h2 : tmps[2]? = some (.pointer (some ⟨g2, 0, none⟩))) (h3 : tmps[3]? = some (.pointer (some ⟨g3, 0, none⟩)))
    (hD : w0.heap.size ≤ D) (hK : w1.heap[D]? = some (.deferred (some []))) (B2 : w1.heap[g2]? = some (.cells #[.int .i64 e] 29 (0, 0))) (B3 : w1.heap[g3]? = some (.cells #[.int .i64 i] 3 (0, 0))) (hB : Below w0.heap.size w0 w1) (he : decide (e = 0) = chkF xs) :
    bodyPostM F n Tryz.prog Tryz.f27 (CkOut w0 xs) .ret { tmps := tmps, defers := [{ target := .collected D, args := #[] }] } w1 := by
  refine ⟨by simp, .inl ⟨_, _, rfl, run_takeDeferred hK, ?_⟩⟩
  have hg := grownBy_putObj' w1 D (.deferred none)
  have hr : ∀ r, some D = some r → ∃ o : Obj, w1.heap[r]? = some o ∧ o.isCells = false := fun r e => by cases e; exact ⟨_, hK, rfl⟩
  exact ck_end (F := F) (n := n) h2 h3 (blk_own B2 hg hr) (blk_own B3 hg hr) (hB.trans (belowK_b (w := w0) (Nat.le_refl _) w1 D _ _ hD hK rfl rfl)) he
theorem ck_set {w : World} {g2 g3 : Nat} {e i e0 i0 : Int} (hne : g2 ≠ g3) (B2 : w.heap[g2]? = some (.cells #[.int .i64 e0] 29 (0, 0))) (B3 : w.heap[g3]? = some (.cells #[.int .i64 i0] 3 (0, 0))) {w0 : World} (h2 : w0.heap.size ≤ g2) (h3 : w0.heap.size ≤ g3) (hB : Below w0.heap.size w0 w) :
    ((w.setCell ⟨g2, 0, none⟩ (.int .i64 e)).setCell ⟨g3, 0, none⟩ (.int .i64 i)).heap[g2]? = some (.cells #[.int .i64 e] 29 (0, 0)) ∧ ((w.setCell ⟨g2, 0, none⟩ (.int .i64 e)).setCell ⟨g3, 0, none⟩ (.int .i64 i)).heap[g3]? = some (.cells #[.int .i64 i] 3 (0, 0)) ∧ Below w0.heap.size w0 ((w.setCell ⟨g2, 0, none⟩ (.int .i64 e)).setCell ⟨g3, 0, none⟩ (.int .i64 i)) := by
  have a2 := blk_put (cs' := #[.int .i64 e]) B2 0 (.int .i64 e) rfl
  have a3 := blk_far B3 (p := ⟨g2, 0, none⟩) (fun h => hne h.symm) (.int .i64 e)
  have b3 := blk_put (cs' := #[.int .i64 i]) a3 0 (.int .i64 i) rfl
  have b2 := blk_far a2 (p := ⟨g3, 0, none⟩) hne (.int .i64 i)
  exact ⟨b2, b3, below_set (below_set hB h2) h3⟩
set_option maxHeartbeats 8000000 in
set_option maxRecDepth 100000 in
theorem check_calls {w : World} {A : Option Addr} {c : Nat} {xs : List Pt} (hr : Kd.C kP w A xs.length xs) (hl : xs.length ≤ 1000000) (hc : xs.length ≤ c) :
    Calls Tryz.prog 27 #[.slice A xs.length c] w (CkOut w xs) := by
  have hu22 := Tryz.underlying22
  refine (callsIn_wide (n := 20)).1 (callsIn_of_wp_marks Tryz.func27 rfl trivial (wpIn_wide.2 ?_) rfl)
  simp only [Tryz.ntmps27, List.size_toArray, List.length_cons, List.length_nil, Nat.reduceAdd, Nat.reduceSub, Array.replicate_succ, Array.replicate_zero, List.push_toArray, List.append_toArray, List.nil_append, List.cons_append]
  go_upto_region 0 with fail
  go_cut [2, 3] from 2 to 3 (fun s2 s3 wc => ∃ g2 g3, s2 = .pointer (some ⟨g2, 0, none⟩) ∧ s3 = .pointer (some ⟨g3, 0, none⟩) ∧ w.heap.size ≤ g2 ∧ w.heap.size ≤ g3 ∧ wc.heap[g2]? = some (.cells #[.int .i64 0] 29 (0, 0)) ∧ wc.heap[g3]? = some (.cells #[.int .i64 0] 3 (0, 0)) ∧ Below w.heap.size w wc)
  case first =>
    go_wp2_with fail
    go_meet
    case rel => exact ⟨_, _, rfl, rfl, Nat.le_refl _, (by simp), blk_alloc (blk_new w _) _, (by simpa using blk_new (w.alloc _) _), ((Below.refl _ w).alloc (Nat.le_refl _) _).alloc (by simp) _⟩
  obtain ⟨g2, g3, rfl, rfl, hg2, hg3, B2, B3, HB⟩ := hcut
  replace B2 := ak B2
  replace B3 := ak B3
  replace HB := ak HB
  go_upto_region 1 with fail
  go_cut [4] from 4 to 14 (fun s wx => ∃ r : Int, s = .int .i64 r ∧ decide (0 ≤ r) = !(xs.all okP) ∧ Below wc.heap.size wc wx)
  case first =>
    go_wp2_with (first | (go_at_call 56; (with_reducible refine (allP_calls (Kd.C_below hr HB.out) hl).mono ?_); rintro en w2 ⟨r, rfl, hra, hb2⟩) | fail)
    go_meet
    case rel => exact ⟨_, rfl, hra, hb2⟩
  obtain ⟨r, rfl, hra, hb2⟩ := hcut
  replace B2 := ak (blk_below B2.out hb2)
  replace B3 := ak (blk_below B3.out hb2)
  replace HB := ak (below_step HB.out hb2)
  clear hb2
  obtain ⟨z2, f2⟩ := cb1 B2.out
  obtain ⟨z3, f3⟩ := cb1 B3.out
  have hne : g2 ≠ g3 := fun e => by subst e; have := B2.out.symm.trans B3.out; simp at this
  cases hA : xs.all okP <;> rw [hA] at hra
  case false =>
    replace hra : decide (0 ≤ r) = true := hra
    go_wp2
    obtain ⟨q2, q3, q4⟩ := ck_set (e := 1) (i := r) hne B2.out B3.out hg2 hg3 HB.out
    exact ck_end rfl rfl q2 q3 q4 (by unfold chkF; rw [hA]; rfl)
  replace hra : decide (0 ≤ r) = false := hra
  go_upto_region 4 with fail
  go_cut [25] from 15 to 25 (fun s wx => s = .bool (!decide (3 ≤ xs.length ∧ xs.length ≤ 16)) ∧ wx = wc)
  case first =>
    rcases Nat.lt_or_ge xs.length 3 with h3 | h3
    · have c1 : decide ((xs.length : Int) < 3) = true := decide_eq_true (by omega)
      go_wp2_with fail
      go_meet
      case rel => exact ⟨by rw [decide_eq_false (by omega)]; rfl, rfl⟩
    · have c1 : decide ((xs.length : Int) < 3) = false := decide_eq_false (by omega)
      go_wp2_with fail
      go_meet
      case rel => refine ⟨?_, rfl⟩; congr 1; rw [← decide_not]; apply decide_eq_decide.2; omega
  obtain ⟨rfl, rfl⟩ := hcut
  cases hL : decide (3 ≤ xs.length ∧ xs.length ≤ 16)
  case false =>
    go_wp2
    obtain ⟨q2, q3, q4⟩ := ck_set (e := 2) (i := -1) hne B2.out B3.out hg2 hg3 HB.out
    exact ck_end rfl rfl q2 q3 q4 (by unfold chkF; rw [hA, hL]; rfl)
  go_upto_region 6 with fail
  go_cut [5] from 5 to 26 (fun s wx => ∃ b, s = .map (some b) ∧ wx.ownsMap (H := Unit) Tryz.prog 35 (plainElem Tryz.prog 3) b 0 (.map []) ∧ w.heap.size ≤ b ∧ Below wc.heap.size wc wx)
  case first =>
    go_wp2_with fail
    go_meet
    case rel => exact ⟨_, rfl, World.ownsMap_made wc _ _ _, HB.out.size, (Below.refl _ wc).alloc (Nat.le_refl _) _⟩
  obtain ⟨b, rfl, M, hb0, hb2⟩ := hcut
  replace B2 := ak (blk_below B2.out hb2)
  replace B3 := ak (blk_below B3.out hb2)
  replace HB := ak (below_step HB.out hb2)
  clear hb2 z2 z3 f2 f3
  have hall : ∀ p ∈ xs, okP p = true := List.all_eq_true.1 hA
  replace hall := ak hall
  have hlen := ak (of_decide_eq_true hL)
  go_wp2
  go_loopg [29] xs.length (fun kq v29 w' => ∃ (i : Nat) (x : Int) (D : DataW Unit), v29 = .int .i64 x ∧ Aside0 (x = i ∧ i + kq = xs.length ∧ allNew dblF [] (xs.take i) = true) ∧ Aside0 (w'.ownsMap Tryz.prog 35 (plainElem Tryz.prog 3) b i D) ∧ Aside0 (∀ p, okP p = true → Maps.has D (kl p) = decide (p ∈ xs.take i)) ∧ Aside0 (w'.heap[g2]? = some (.cells #[.int .i64 0] 29 (0, 0)) ∧ w'.heap[g3]? = some (.cells #[.int .i64 0] 3 (0, 0)) ∧ Below w.heap.size w w'))
  case atStart => exact ⟨0, 0, _, rfl, ⟨rfl, by omega, rfl⟩, ⟨M⟩, ⟨fun p _ => rfl⟩, ⟨B2.out, B3.out, HB.out⟩⟩
  case round =>
    clear B2 B3 HB M
    obtain ⟨i, x, D, rfl, ⟨hx, hi, ha⟩, HM, HH, ⟨B2, B3, HB⟩⟩ := hrel
    replace B2 := ak B2
    replace B3 := ak B3
    replace HB := ak HB
    cases gk with
    | zero =>
      have c1 : decide (x < (xs.length : Int)) = false := decide_eq_false (by omega)
      rw [List.take_of_length_le (by omega)] at ha
      clear hx hi
      go_upto_region 15 with fail
      go_cut [10] from 10 to 10 (fun s wx => ∃ g10, s = .pointer (some ⟨g10, 0, none⟩) ∧ wx.heap[g10]? = some (.cells #[.slice none 0 0] 128 (0, 0)) ∧ wr.heap.size ≤ g10 ∧ Below wr.heap.size wr wx)
      case first =>
        go_wp2_with fail
        go_meet
        case rel => exact ⟨_, rfl, blk_new wr _, Nat.le_refl _, (Below.refl _ wr).alloc (Nat.le_refl _) _⟩
      obtain ⟨g10, rfl, B10, hg10, hb2⟩ := hcut
      have hg10 := Nat.le_trans HB.out.size hg10
      replace B2 := ak (blk_below B2.out hb2)
      replace B3 := ak (blk_below B3.out hb2)
      replace HB := ak (below_step HB.out hb2)
      clear hb2
      go_upto_region 16 with fail
      go_cut [47] from 46 to 47 (fun s wx => ∃ Bn, s = .func (.func 87) #[] #[.pointer (some ⟨Bn, 0, none⟩)] ∧ wx.heap[Bn]? = some (.cells #[.slice A xs.length c] 22 (0, 0)) ∧ Below wc.heap.size wc wx)
      case first =>
        go_wp2_with (first | (go_at_call 59; (with_reducible refine (sides_calls A xs.length c _).mono ?_); rintro en w2 ⟨rfl, rfl⟩) | fail)
        go_meet
        case rel => exact ⟨_, rfl, blk_new wc _, (Below.refl _ wc).alloc (Nat.le_refl _) _⟩
      obtain ⟨Bn, rfl, BN, hb2⟩ := hcut
      replace B2 := ak (blk_below B2.out hb2)
      replace B3 := ak (blk_below B3.out hb2)
      replace B10 := ak (blk_below B10 hb2)
      replace HB := ak (below_step HB.out hb2)
      clear hb2
      go_wp2
      have hBn : Bn < wc.heap.size := blk_lt BN
      have hBw := HB.out.size
      refine (wpIn_wide (n := 20)).1 ?_
      refine wpIn_rangeFunc_ownH (n := 20) rfl (by omega) (gf := 87) (lb := #[.pointer (some ⟨Bn, 0, none⟩)]) rfl trivial (enters_of Tryz.func87 (by kernel_rfl) rfl)
        (sides_stops 19 (by omega) Bn hl w wc hr HB.out BN) kp1_t (kp1_b hBw hBn) (Below.refl _ _) (fun _ => rfl)
        (CkI w g2 g3 g10 Bn A c xs) (CkX w g2 g3 xs) (ckI_own w g2 g3 g10 Bn A c xs hBw) (fun cd => ckX_own w g2 g3 xs cd hBw)
        ⟨rfl, B2.out, B3.out, BN, ⟨_, B10.out, Kd.R_nil _ _ _ _ _⟩, HB.out⟩
        (fun k a' W => ∃ Bx, w.heap.size ≤ Bx ∧ W.heap[Bx]? = some (.cells #[.int .i64 (sideAt xs k).a, .int .i64 (sideAt xs k).b, .int .i64 (sideAt xs k).c, .int .i64 (sideAt xs k).d] 133 (0, 0)) ∧ a' = { tmps := #[.slice A xs.length c, undef, .pointer (some ⟨g2, 0, none⟩), .pointer (some ⟨g3, 0, none⟩), .int .i64 r, .map (some b), u6, u7, u8, u9, .pointer (some ⟨g10, 0, none⟩), .int .i64 k, .pointer (some ⟨Bx, 0, none⟩), u13, u14, u15, u16, u17, u18, u19, u20, u21, u22, u23, u24, u25, u26, .slice A xs.length c, .int .i64 xs.length, .int .i64 x, .bool false, u31, u32, u33, u34, u35, u36, u37, u38, u39, u40, u41, u42, u43, u44, u45, u46, .func (.func 87) #[] #[.pointer (some ⟨Bn, 0, none⟩)], .int .i64 k, .agg #[.int .i64 (sideAt xs k).a, .int .i64 (sideAt xs k).b, .int .i64 (sideAt xs k).c, .int .i64 (sideAt xs k).d], undef, undef, undef, undef, undef, undef, undef, undef], defers := [] })
        (fun k a' _ X Y row hs hg hr => by obtain ⟨Bx, e1, e2, e3⟩ := hs; exact ⟨Bx, e1, blk_own e2 hg (fun r e => (hr r e).2), e3⟩)
        ?assign ?body ?done ?stop
      case assign =>
        rintro l pre k W K hI hK
        rw [show encS xs k = #[.int .i64 k, .agg #[.int .i64 (sideAt xs k).a, .int .i64 (sideAt xs k).b, .int .i64 (sideAt xs k).c, .int .i64 (sideAt xs k).d]] from rfl]
        gi_wp2
        exact hK _ _ ((KeepsOthers.alloc _ _).from _) ⟨(Below.refl _ W).alloc hI.below.size _, fun o ho => blk_alloc ho _⟩ ((ckI_own w g2 g3 g10 Bn A c xs hBw).alloc _ hI) ⟨W.heap.size, hI.below.size, blk_new W _, rfl⟩
      case body =>
        rintro l pre k a' W hl1 ⟨r1, hr1⟩ hI ⟨Bx, hBx, BX, rfl⟩ hlt1
        clear B2 B3 B10 BN HB
        obtain ⟨hnew, B2, B3, BN, ⟨v, B10, hR⟩, HB⟩ := hI
        have hsn : (pre ++ [k]).map (sideAt xs) = pre.map (sideAt xs) ++ [sideAt xs k] := by simp
        have hbl : (pre.map (sideAt xs)).length ≤ 16 := by have := hlen.out; simp; omega
        generalize pre.map (sideAt xs) = bs at hnew hR hsn hbl
        obtain ⟨A1, k1, ev⟩ := Kd.R_slice hR
        subst ev
        obtain ⟨_, hk1, hC⟩ := Kd.R_reads' hR
        obtain ⟨z10, f10⟩ := cb1 B10
        have hcl : ∀ b1, bs.any (clS (sideAt xs k)) = b1 → allNew clsF [] ((pre ++ [k]).map (sideAt xs)) = !b1 := fun b1 e => by
          rw [hsn, allNew_snoc, hnew, ← e]; rfl
        generalize sideAt xs k = s at BX hsn hcl
        have hf60 : Fence.wide.fn 60 := trivial
        cases hAny : bs.any (clS s)
        case true =>
          gi_wp2_with (gi_at_call 60; refine (CallsIn.inRound l (callsIn_wide.2 (anyS_calls s hC (by omega) BX))).mono ?_; rintro e w' ⟨rfl, hb2⟩; rw [hAny]; replace B2 := ak (blk_below B2 hb2); replace B3 := ak (blk_below B3 hb2); obtain ⟨z2, f2⟩ := cb1 B2.out; obtain ⟨z3, f3⟩ := cb1 B3.out)
          obtain ⟨q2, q3, q4⟩ := ck_set (e := 9) (i := (k : Int)) hne B2.out B3.out hg2 hg3 (below_step HB hb2)
          exact ⟨(keepsB hb2).trans (((KeepsOthers.setCell _ _ _).trans (KeepsOthers.setCell _ _ _)).from _), rfl, hcl true hAny, q2, ⟨_, q3⟩, q4⟩
        case false =>
          obtain ⟨i0, hi, hz0, hz1, hz2⟩ : ∃ i, Tryz.prog.info? 133 = some i ∧ i.zero = some (.agg #[.int .i64 0, .int .i64 0, .int .i64 0, .int .i64 0]) ∧ i.size = 4 ∧ i.bytes = 32 := by
            have := info133
            cases h : Tryz.prog.info? 133 with
            | none => rw [h] at this; cases this
            | some i => rw [h] at this; simp at this; exact ⟨i, rfl, this⟩
          gi_wp2_with (first
            | (gi_at_call 60; refine (CallsIn.inRound l (callsIn_wide.2 (anyS_calls s hC (by omega) BX))).mono ?_; rintro e w2 ⟨rfl, hb2⟩; rw [hAny]; clear z10 f10; replace B2 := ak (blk_below B2 hb2); replace B3 := ak (blk_below B3 hb2); replace B10 := ak (blk_below B10 hb2); have BX2 := blk_below BX hb2; have hR2 := ak (Kd.R_below hR hb2); have BN2 := ak (blk_below BN hb2); obtain ⟨z10, f10⟩ := cb1 B10.out; obtain ⟨zx0, zx1, zx2, zx3⟩ := cb4 BX2; obtain ⟨_, inner, hown, hrp⟩ := hR2.out)
            | (gi_at_builtin; refine wpListIn_append_own _ rfl _ _ 128 rfl w.heap.size 133 i0 (.agg #[.int .i64 0, .int .i64 0, .int .i64 0, .int .i64 0]) 4 32 Tryz.underlying128 hi hz0 hz1 hz2 rfl (by decide) _ _ _ rfl (hown.alloc _) ⟨w2.heap.size, 0, none⟩ 1 1 [.int .i64 s.a, .int .i64 s.b, .int .i64 s.c, .int .i64 s.d] rfl rfl (cells_new _ _ _) (by simp [Value.oneCell']) (by unfold maxLen; omega) (by omega) (by have := HB.size; have := hb2.size; simp; omega) ?_; intro v' w3 hown' hgr _; obtain ⟨g', cap', ev⟩ := ownsRow_succ hown'; subst ev; have B10' := blk_grown (blk_alloc B10.out _) hgr (Kd.R_ne hR2.out B10.out (by decide)); clear z10 f10; obtain ⟨z10, f10⟩ := cb1 B10')
            | fail)
          have hgw : (w2.alloc (.cells #[.int .i64 s.a, .int .i64 s.b, .int .i64 s.c, .int .i64 s.d] 133)).grownBy w3 (Value.slice A1 bs.length k1).ownBlock := hgr
          have how : w3.ownsRow w.heap.size 133 kS.sz (.slice (some ⟨g', 0, none⟩) (bs.length + 1) cap') (bs.length + 1) (inner ++ [.int .i64 s.a, .int .i64 s.b, .int .i64 s.c, .int .i64 s.d]) := hown'
          clear hgr hown'
          have hR3 := kS_app hrp how
          have hR4 := Kd.R_set hR3 B10' (by decide) 0 (.slice (some ⟨g', 0, none⟩) (bs.length + 1) cap')
          have C10 := blk_put (cs' := #[.slice (some ⟨g', 0, none⟩) (bs.length + 1) cap']) B10' 0 (.slice (some ⟨g', 0, none⟩) (bs.length + 1) cap') rfl
          have far : ∀ {g t : Nat} {cs : Array Value}, w2.heap[g]? = some (.cells cs t (0, 0)) → 133 ≠ t → t ≠ 128 → (w3.setCell ⟨g10, 0, none⟩ (.slice (some ⟨g', 0, none⟩) (bs.length + 1) cap')).heap[g]? = some (.cells cs t (0, 0)) := by
            intro g t cs h1 h2 h3
            have a2 := blk_grown (blk_alloc h1 _) hgw (Kd.R_ne hR2.out h1 h2)
            exact blk_far a2 (p := ⟨g10, 0, none⟩) (blk_ne a2 B10' h3) _
          have hbl : Below w.heap.size W (w3.setCell ⟨g10, 0, none⟩ (.slice (some ⟨g', 0, none⟩) (bs.length + 1) cap')) := by
            have s2 := hb2.size
            have s1 := HB.size
            have a1 : Below w.heap.size W (w2.alloc (.cells #[.int .i64 s.a, .int .i64 s.b, .int .i64 s.c, .int .i64 s.d] 133)) := (hb2.mono s1).alloc (by omega) _
            exact Below.setCell (a1.grown hgw (by simp; omega) (fun j e => Kd.R_base hR j e)) (p := ⟨g10, 0, none⟩) hg10 _
          refine ⟨?_, ⟨hbl, fun o ho => ?_⟩, ⟨hcl false hAny, far B2.out (by decide) (by decide), far B3.out (by decide) (by decide), far BN2.out (by decide) (by decide), ⟨_, C10, by rw [hsn]; exact hR4⟩, HB.trans hbl⟩⟩
          · refine (keepsB hb2).trans (((KeepsOthers.alloc _ _).trans ((KeepsOthers.of_grownBy hgw (fun j o e ho => ?_)).trans (KeepsOthers.setCell _ _ _))).from _)
            obtain ⟨cells, hcs⟩ := Kd.R_typed hR2.out j e
            rw [blk_alloc hcs _] at ho
            cases ho; rfl
          · rw [BN] at ho; cases ho
            exact far BN2.out (by decide) (by decide)
      case done =>
        rintro D ys W hD rfl hI hKD
        clear B2 B3 B10 BN HB
        obtain ⟨z2, f2⟩ := cb1 hI.b2
        obtain ⟨z3, f3⟩ := cb1 hI.b3
        go_wp2
        obtain ⟨q2, q3, q4⟩ := ck_set (e := 0) (i := -1) hne hI.b2 hI.b3 hg2 hg3 hI.below
        refine ck_endD rfl rfl (Nat.le_trans hBw hD) (((KeepsOthers.setCell _ _ _).trans (KeepsOthers.setCell _ _ _)).same D _ hKD rfl) q2 q3 q4 ?_
        unfold chkF
        rw [hA, hL, ha, hI.new]
        rfl
      case stop =>
        rintro D cd pre W hD hpre hX hKD
        obtain ⟨rfl, hold, C2, ⟨ix, C3⟩, HX⟩ := hX
        gi_wp2
        refine ck_endD rfl rfl (Nat.le_trans hBw hD) hKD C2 C3 HX ?_
        have : allNew clsF [] ((List.range xs.length).map (sideAt xs)) = false := allNew_prefix (List.IsPrefix.map _ hpre) hold
        unfold chkF
        rw [hA, hL, ha, this]
        rfl
    | succ k1 =>
      have hlt : i < xs.length := by omega
      have c1 : decide (x < (xs.length : Int)) = true := decide_eq_true (by omega)
      obtain ⟨p, hp⟩ : ∃ p, xs[i]? = some p := ⟨_, List.getElem?_eq_getElem hlt⟩
      have hok := hall.out p (List.mem_of_getElem? hp)
      obtain ⟨ad, e, h0, h1⟩ := at_P (Kd.C_below hr HB.out) i hlt p hp
      cases e
      have hxi : x.toNat = i := by omega
      have px : (0 ≤ x) = True := eq_true (by omega)
      have qx : (x < (xs.length : Int)) = True := eq_true (by omega)
      have hw : Aside0 (wrap64 (x + 1) = ((i + 1 : Nat) : Int)) := ⟨by rw [hx, wrapN (by omega) (by omega)]; rfl⟩
      have hwf : (Lit.int .i64 x).wf = true := by rw [hx]; exact wf60 (by have := hlen.out; omega)
      have him : i < maxLen := by have := hlen.out; unfold maxLen; omega
      rw [← hxi] at h0 h1
      replace hxi := ak hxi
      replace hx := ak hx
      replace hi := ak hi
      have hal := ak (show xs.take (i + 1) = xs.take i ++ [p] by rw [List.take_add_one, hp]; rfl)
      replace hp := ak hp
      replace ha := ak ha
      have hha := HH.out p hok
      have hBd := ak ((Below.refl wr.heap.size wr).alloc (Nat.le_refl _) (.cells #[.int .i64 p.x, .int .i64 p.y] 35))
      have hM1 := HM.out.alloc (.cells #[.int .i64 p.x, .int .i64 p.y] 35)
      obtain ⟨z2, f2⟩ := cb1 (blk_below B2.out hBd.out)
      obtain ⟨z3, f3⟩ := cb1 (blk_below B3.out hBd.out)
      have hP2 : (wr.alloc (.cells #[.int .i64 p.x, .int .i64 p.y] 35)).heap[wr.heap.size]? = some (.cells #[.int .i64 p.x, .int .i64 p.y] 35 (0, 0)) := blk_new wr _
      obtain ⟨z71, z72, _, _⟩ := cb2 hP2
      have hd35 := ak hP2
      clear hP2
      cases hd : decide (p ∈ xs.take i) <;> rw [hd] at hha
      case true =>
        go_wp2_with (first | (at_lookup; refine wpList_lookup_own_ok_int _ rfl _ _ 126 rfl 35 3 .i64 lawP Tryz.underlying126 Tryz.underlying3 (zero3 _) b i D rfl hM1 _ (kl p) rfl (kl_key hok) ?_; intro c0 hat hwc; rw [hha]) | fail)
        obtain ⟨q2, q3, q4⟩ := ck_set (e := 6) (i := x) hne (blk_below B2.out hBd.out) (blk_below B3.out hBd.out) hg2 hg3 (below_step HB.out hBd.out)
        refine ck_end rfl rfl q2 q3 q4 ?_
        have : allNew dblF [] xs = false := allNew_prefix (List.take_prefix (i + 1) xs) (by rw [hal.out, allNew_snoc, ha.out]; simpa [dblF] using hd)
        unfold chkF
        rw [hA, hL, this]
        rfl
      case false =>
        go_wp2_with (first | (at_lookup; refine wpList_lookup_own_ok_int _ rfl _ _ 126 rfl 35 3 .i64 lawP Tryz.underlying126 Tryz.underlying3 (zero3 _) b i D rfl hM1 _ (kl p) rfl (kl_key hok) ?_; intro c0 hat hwc; rw [hha]) | (at_mapUpdate; refine wpList_mapUpdate_own _ rfl _ _ _ 126 rfl 35 3 lawP Tryz.underlying126 _ b i D rfl hM1 him _ _ (kl p) rfl rfl (kl_key hok) _ [] (plainElem_int Tryz.underlying3 hwf) ?_; intro w1 hown1 hg1) | fail)
        go_roundg k1
        case measure => omega
        case rel =>
          have nb : ∀ {g : Nat} {cs : Array Value} {t : TypeId}, wr.heap[g]? = some (.cells cs t (0, 0)) → some g ≠ some b := by
            intro g cs t h e
            cases e
            obtain ⟨es, clock, hb, _⟩ := HM.out
            rw [hb] at h; cases h
          refine ⟨i + 1, wrap64 (x + 1), _, rfl, ⟨hw.out, by have := hi.out; omega, by rw [hal.out, allNew_snoc, ha.out]; simpa [dblF] using hd⟩, ⟨hown1⟩, ⟨fun q hq => ?_⟩, ⟨blk_grown (blk_below B2.out hBd.out) hg1 (nb B2.out), blk_grown (blk_below B3.out hBd.out) hg1 (nb B3.out), ?_⟩⟩
          · rw [hal.out]
            by_cases e : kl q = kl p
            · rw [e, Maps.has_put_same hM1.isMap (lawP.key (kl_key hok))]
              have := kl_inj hq hok e
              simp [this]
            · rw [Maps.has_put_other e, HH.out q hq]
              have : q ≠ p := fun h => e (by rw [h])
              simp [this]
          · exact (below_step HB.out hBd.out).grown hg1 (below_step HB.out hBd.out).size (fun k e => by cases e; exact hb0)
end Go.Proofs.Tt.P
