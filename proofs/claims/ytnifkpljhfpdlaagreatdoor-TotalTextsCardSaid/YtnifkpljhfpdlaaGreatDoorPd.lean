/- What is proved: what functions of the program do (walks, by hand and by programs of this repository). Conditions stand in each theorem. -/
import Derived.Test.YtnifkpljhfpdlaaGreatDoorPc
import Derived.Maps.OwnSet
import Derived.DeepKeys4
import Derived.RangeFuncNested
import Derived.OwnWalkIn
import Derived.TacticsInMore
import Derived.LoopNIn
import Derived.LoopIn
import Derived.Stop.RegionWithIn
set_option linter.unusedVariables false
set_option linter.unusedSimpArgs false
namespace Go.Proofs.Tt.P
open Go.Tt (Pt)
def allNew {α : Type} (f : List α → α → Bool) : List α → List α → Bool
  | _, [] => true
  | acc, x :: L => !f acc x && allNew f (acc ++ [x]) L
theorem allNew_app {α : Type} (f : List α → α → Bool) : ∀ (L M acc : List α), allNew f acc (L ++ M) = (allNew f acc L && allNew f (acc ++ L) M)
  | [], M, acc => by simp [allNew]
  | x :: L, M, acc => by
    rw [List.cons_append, allNew, allNew, allNew_app f L M, List.append_assoc, List.singleton_append, Bool.and_assoc]
theorem allNew_snoc {α : Type} (f : List α → α → Bool) (L acc : List α) (x : α) : allNew f acc (L ++ [x]) = (allNew f acc L && !f (acc ++ L) x) := by
  rw [allNew_app]; simp [allNew]
theorem allNew_prefix {α : Type} {f : List α → α → Bool} {L M acc : List α} (h : L <+: M) (e : allNew f acc L = false) : allNew f acc M = false := by
  obtain ⟨t, rfl⟩ := h
  rw [allNew_app, e]; rfl
def sideAt (xs : List Pt) (k : Nat) : Sd := ⟨(xs.getD k zP).x, (xs.getD k zP).y, (xs.getD ((k + 1) % xs.length) zP).x, (xs.getD ((k + 1) % xs.length) zP).y⟩
def encS (xs : List Pt) (k : Nat) : Array Value := #[.int .i64 k, .agg #[.int .i64 (sideAt xs k).a, .int .i64 (sideAt xs k).b, .int .i64 (sideAt xs k).c, .int .i64 (sideAt xs k).d]]
def dblF (acc : List Pt) (p : Pt) : Bool := decide (p ∈ acc)
def clsF (acc : List Sd) (s : Sd) : Bool := acc.any (clS s)
def chkF (xs : List Pt) : Bool := xs.all okP && (decide (3 ≤ xs.length ∧ xs.length ≤ 16) && (allNew dblF [] xs && allNew clsF [] ((List.range xs.length).map (sideAt xs))))
theorem chkF_ok {xs : List Pt} (h : chkF xs = true) : xs.length ≤ 16 ∧ ∀ p ∈ xs, okP p = true := by
  unfold chkF at h
  simp only [Bool.and_eq_true, decide_eq_true_eq, List.all_eq_true] at h
  exact ⟨h.2.1.2, h.1⟩
end Go.Proofs.Tt.P
namespace Go.Proofs.Tt.P
open Go Go.Proofs Go.Tt
theorem cells35 : Tryz.prog.cellsOf 35 = 2 := by kernel_rfl
theorem cells3 : Tryz.prog.cellsOf 3 = 1 := by kernel_rfl
theorem kt35 : Tryz.prog.keyType 35 = true := by kernel_rfl
theorem row35 : (35 : TypeId) < Tryz.prog.types.size := of_decide_eq_true (by kernel_rfl)
theorem laidOut0 : laidOutB Tryz.prog = true := by kernel_rfl
theorem wide35 : (match Tryz.prog.underlying 35 with | some (.array _ _) | some (.struct _) => true | _ => false) = true := by rw [Tryz.underlying35]
theorem ktA : Tryz.prog.keyTypeAt 2 35 = true := by kernel_rfl
set_option maxRecDepth 100000 in
theorem lawP : Maps.Keyed Tryz.prog 35 := Maps.Keyed.of_law (deep_law_laid laidOut0 (m := 2) (by omega) row35 ktA wide35)
theorem lits35 (n : Nat) (a b : Int) (ha : (Lit.int .i64 a).wf = true) (hb : (Lit.int .i64 b).wf = true) : Tryz.prog.keyLits (n + 2) 35 [.int .i64 a, .int .i64 b] = some [.int .i64 a, .int .i64 b] := by
  have e1 : Tryz.prog.keyLits (n + 1) 3 [.int .i64 a] = some [.int .i64 a] := by unfold Program.keyLits; simp [Tryz.underlying3, ha]
  have e2 : Tryz.prog.keyLits (n + 1) 3 [.int .i64 b] = some [.int .i64 b] := by unfold Program.keyLits; simp [Tryz.underlying3, hb]
  unfold Program.keyLits
  simp [Tryz.underlying35, cells35, cells3, e1, e2]
theorem key_some (p : Pt) (ha : (Lit.int .i64 p.x).wf = true) (hb : (Lit.int .i64 p.y).wf = true) : Go.keyOf Tryz.prog 35 (.agg #[.int .i64 p.x, .int .i64 p.y]) = some (.string (keyBytes [.int .i64 p.x, .int .i64 p.y])) := by
  have h : Tryz.prog.keyLits (Tryz.prog.types.size + 1) 35 [.int .i64 p.x, .int .i64 p.y] = some [.int .i64 p.x, .int .i64 p.y] := by
    obtain ⟨n, hn⟩ : ∃ n, Tryz.prog.types.size + 1 = n + 2 := ⟨Tryz.prog.types.size - 1, by have : 35 < Tryz.prog.types.size := row35; omega⟩
    rw [hn]
    exact lits35 n _ _ ha hb
  unfold Go.keyOf
  rw [Tryz.underlying35]
  simp only [kt35]
  rw [show (Value.agg #[.int .i64 p.x, .int .i64 p.y]).cells.toList = [.int .i64 p.x, .int .i64 p.y] from rfl, h]
  simp [Value.formed, Tryz.underlying35, cells35]
def kl (p : Pt) : Lit := .string (keyBytes [.int .i64 p.x, .int .i64 p.y])
theorem wf60 {n : Int} (h : 0 ≤ n ∧ n ≤ 60) : (Lit.int .i64 n).wf = true := by
  simp [Lit.wf, IntKind.min, IntKind.max, IntKind.signed, IntKind.bits]
  omega
theorem kl_key {p : Pt} (h : okP p = true) : Go.keyOf Tryz.prog 35 (.agg #[.int .i64 p.x, .int .i64 p.y]) = some (kl p) := by
  have := of_decide_eq_true h
  exact key_some p (wf60 (by omega)) (wf60 (by omega))
theorem kl_inj {p q : Pt} (h : okP p = true) (h' : okP q = true) (e : kl p = kl q) : p = q := by
  have := lawP.inj (kl_key h) (e ▸ kl_key h')
  simp at this
  cases p; cases q; simp_all
theorem zero3 (w : World) : (zeroValue 3).run Tryz.prog w = .ok (.int .i64 0) w := by kernel_rfl
end Go.Proofs.Tt.P
namespace Go.Proofs.Tt.P
open Go Go.Proofs.Tt.Sh Go.RowKit Go.Proofs.YtnifkpljhfpdlaaGreatDoorW.PrintWords Go.Proofs.YtnifkpljhfpdlaaGreatDoorW.PrintLast Go.Proofs.YtnifkpljhfpdlaaGreatDoorW.PrintMore
open Go.Tt (Pt)
set_option linter.unusedVariables false
set_option linter.unusedSimpArgs false
def Kp1 (n₀ Bn : Nat) (W W' : World) : Prop := Below n₀ W W' ∧ ∀ o, W.heap[Bn]? = some o → W'.heap[Bn]? = some o
theorem range_pre {k n : Nat} (h : k < n) : List.range (k + 1) <+: List.range n := by
  obtain ⟨m, rfl⟩ : ∃ m, n = (k + 1) + m := ⟨n - (k + 1), by omega⟩
  rw [show k + 1 + m = (k + 1) + m from rfl, List.range_add (n := k + 1)]
  exact List.prefix_append _ _
set_option maxHeartbeats 8000000 in
set_option maxRecDepth 100000 in
theorem sides1_in (n : Nat) (hn : 1 ≤ n) (l Bn : Nat) {A : Option Addr} {c : Nat} {xs : List Pt} (hl : xs.length ≤ 1000000) (J Jx : List Nat → World → Prop)
    (hJa : ∀ s W o, J s W → J s (W.alloc o)) (hJd : ∀ s W, J s W → J s W.drew) (W0 : World) (hr : Kd.C kP W0 A xs.length xs)
    (hY : ∀ pre x W, J pre W → pre.length < xs.length → YieldAt Fence.wide (n - 1) Tryz.prog l (encS xs x) W fun e W' =>
      (e = .returned (.bool true) ∧ J (pre ++ [x]) W' ∧ Kp1 W0.heap.size Bn W W') ∨ (e = .returned (.bool false) ∧ Jx (pre ++ [x]) W'))
    (W : World) (hW0 : Below W0.heap.size W0 W) (hB : W.heap[Bn]? = some (.cells #[.slice A xs.length c] 22 (0, 0))) (h0 : J [] W) :
    CallsIn Fence.wide n Tryz.prog 87 #[.func (.yield l) #[] #[], .pointer (some ⟨Bn, 0, none⟩)] W fun e W' => (∃ v, e = .returned v) ∧
      ((∃ ys, ys = List.range xs.length ∧ J ys W') ∨ (∃ pre, pre <+: List.range xs.length ∧ Jx pre W')) := by
  have hu35 := Tryz.underlying35
  have hu22 := Tryz.underlying22
  have hu133 := Tryz.underlying133
  have cB : W.cell? ⟨Bn, 0, none⟩ = some (.slice A xs.length c) := (blk_cell hB 0).trans rfl
  refine callsIn_of_wp Tryz.func87 rfl trivial ?_ rfl
  simp only [Tryz.ntmps87, List.size_toArray, List.length_cons, List.length_nil, Nat.reduceAdd, Nat.reduceSub, Array.replicate_succ, Array.replicate_zero, List.push_toArray, List.append_toArray, List.nil_append, List.cons_append]
  gi_wp2
  gi_loopw [7] (fun p wr => ∃ k : Nat, p = .int .i64 k ∧ Aside0 (k ≤ xs.length ∧ J (List.range k) wr ∧ Below W0.heap.size W0 wr ∧ wr.heap[Bn]? = some (.cells #[.slice A xs.length c] 22 (0, 0))))
    (fun p wr => match p with | .int _ x => ((xs.length : Int) - x).toNat | _ => 0)
  case atStart => exact ⟨0, rfl, ⟨by omega, h0, hW0, hB⟩⟩
  case round =>
    clear cB
    obtain ⟨k, rfl, ⟨hk, hJ, hW1, hB1⟩⟩ := hrel
    rcases Nat.lt_or_ge k xs.length with hlt | hge
    · have c1 : decide ((k : Int) < (xs.length : Int)) = true := decide_eq_true (by omega)
      obtain ⟨p, hp⟩ : ∃ p, xs[k]? = some p := ⟨_, List.getElem?_eq_getElem hlt⟩
      have hq0 : (k + 1) % xs.length < xs.length := Nat.mod_lt _ (by omega)
      obtain ⟨q, hq⟩ : ∃ q, xs[(k + 1) % xs.length]? = some q := ⟨_, List.getElem?_eq_getElem hq0⟩
      have hC := Kd.C_below hr hW1
      obtain ⟨ad, e, h0, h1⟩ := at_P hC k hlt p hp
      cases e
      have px : (0 ≤ (k : Int)) = True := eq_true (by omega)
      have qx : ((k : Int) < (xs.length : Int)) = True := eq_true (by omega)
      have hBk := (blk_cell hB1 0).trans rfl
      gi_wp2
      have hBd := (Below.refl wr.heap.size wr).alloc (Nat.le_refl _) (.cells #[.int .i64 p.x, .int .i64 p.y] 35)
      have hBd2 : Below wr.heap.size wr (wr.alloc (.cells #[.int .i64 p.x, .int .i64 p.y] 35)).drew := below_drew hBd
      have hB2 := blk_below hB1 hBd2
      have hP2 : (wr.alloc (.cells #[.int .i64 p.x, .int .i64 p.y] 35)).drew.heap[wr.heap.size]? = some (.cells #[.int .i64 p.x, .int .i64 p.y] 35 (0, 0)) := blk_new wr _
      have z0 : (wr.alloc (.cells #[.int .i64 p.x, .int .i64 p.y] 35)).drew.cell? ⟨Bn, 0, none⟩ = some (.slice (some ad) xs.length c) := (blk_cell hB2 0).trans rfl
      obtain ⟨z1, z2, _, _⟩ := cb2 hP2
      have em : (IntKind.i64.wrap ((k : Int) + 1)).tmod (xs.length : Int) = (((k + 1) % xs.length : Nat) : Int) := by
        have : IntKind.i64.wrap ((k : Int) + 1) = ((k + 1 : Nat) : Int) := by
          have := wrapN (n := (k : Int) + 1) (by omega) (by omega)
          rw [i64_w]; rw [this]; rfl
        rw [this, Int.ofNat_tmod]
      obtain ⟨ad2, e2, h3, h4⟩ := at_P (Kd.C_below hC hBd2) ((k + 1) % xs.length) hq0 q hq
      cases e2
      generalize hM : (IntKind.i64.wrap ((k : Int) + 1)).tmod (xs.length : Int) = M at em
      have eM : (k + 1) % xs.length = M.toNat := by omega
      rw [eM] at h3 h4
      have pM : (0 ≤ M) = True := eq_true (by omega)
      have qM : (M < (xs.length : Int)) = True := eq_true (by omega)
      have hne : xs ≠ [] := by rintro rfl; simp at hlt
      have hbn : Aside0 ((wr.alloc (.cells #[.int .i64 p.x, .int .i64 p.y] 35)).drew.heap[Bn]? = some (.cells #[.slice (some ad) xs.length c] 22 (0, 0))) := ⟨hB2⟩
      have hbw : Aside0 (Below W0.heap.size W0 (wr.alloc (.cells #[.int .i64 p.x, .int .i64 p.y] 35)).drew) := ⟨below_step hW1 hBd2⟩
      have hJ2 := hJd _ _ (hJa _ _ (.cells #[.int .i64 p.x, .int .i64 p.y] 35) hJ)
      have hyy := hY _ k _ hJ2 (by rw [List.length_range]; exact hlt)
      have es : encS xs k = #[.int .i64 k, .agg #[.int .i64 p.x, .int .i64 p.y, .int .i64 q.x, .int .i64 q.y]] := by
        unfold encS sideAt
        simp only [List.getD_eq_getElem?_getD, hp, hq, Option.getD_some]
      rw [es] at hyy
      obtain ⟨fn, tmps, assign, body, hy, hR⟩ := hyy
      have hw : Aside0 (IntKind.i64.wrap ((k : Int) + 1) = ((k + 1 : Nat) : Int)) := ⟨by
        have := wrapN (n := (k : Int) + 1) (by omega) (by omega)
        rw [i64_w]; rw [this]; rfl⟩
      clear hJ2 es hq hp hq0 hC h0 h1 hBd hBd2 hP2 hB2 em eM
      subst hM
      replace hR := hR.mono (R' := fun e W' => ∃ b, e = .returned (.bool b) ∧ Aside0 ((b = true → J (List.range (k + 1)) W' ∧ Kp1 W0.heap.size Bn (wr.alloc (.cells #[.int .i64 p.x, .int .i64 p.y] 35)).drew W') ∧ (b = false → Jx (List.range (k + 1)) W'))) (by
        rintro e W' (⟨rfl, h1, h2⟩ | ⟨rfl, h1⟩)
        · exact ⟨true, rfl, ⟨fun _ => ⟨by rw [List.range_succ]; exact h1, h2⟩, fun h => by cases h⟩⟩
        · exact ⟨false, rfl, ⟨fun h => (by cases h), fun _ => by rw [List.range_succ]; exact h1⟩⟩)
      gi_region_with (refine hR.mono ?_; rintro e W3 ⟨b, rfl, hb⟩)
      all_goals cases b
      all_goals gi_wp2
      all_goals first
        | (refine bodyPost_ret (results_none rfl _ _ _) rfl ?_
           exact ⟨⟨_, rfl⟩, .inr ⟨List.range (k + 1), range_pre hlt, hb.out.2 (by trivial)⟩⟩)
        | (go_roundw
           case rel => exact ⟨k + 1, (by first | rfl | exact congrArg _ hw.out), ⟨hlt, (hb.out.1 (by trivial)).1, hbw.out.trans (hb.out.1 (by trivial)).2.1, (hb.out.1 (by trivial)).2.2 _ hbn.out⟩⟩
           case measure => first | omega | (simp only [hw.out]; omega) | (simp; omega))
    · have c1 : decide ((k : Int) < (xs.length : Int)) = false := decide_eq_false (by omega)
      gi_wp2
      go_end0
      exact ⟨⟨_, rfl⟩, .inl ⟨_, by rw [show xs.length = k by omega], hJ⟩⟩
end Go.Proofs.Tt.P
