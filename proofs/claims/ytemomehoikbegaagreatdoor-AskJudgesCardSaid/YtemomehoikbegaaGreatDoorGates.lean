/- What is proved: the two judges of the law (one of the package, one of its reference) answer alike at each way of counting from 0 to 6 and every two whole numbers, by the kernel over the abstract machine with signs told apart. No condition. -/
import Derived.Test.YtemomehoikbegaaGreatDoorFacts

namespace Go.Ab
open Go.Proofs Go.RowKit
noncomputable def envJ : Env := ⟨Tryz.prog, ctxOf Tryz.prog, stubOf ix⟩
theorem stubJ : StubOk envJ := stubOk_of (stub_says libFacts)
/-- names of the globals alone -/
def rho0 : Names := fun g => if g < 6 then some ⟨g, 0, 0, 0⟩ else none
theorem globals6 : Tryz.prog.globals.size = 6 := by kernel_rfl
theorem start_ok {E : Env} (hP : E.P = Tryz.prog) {w : World} (hw : 6 ≤ w.heap.size) : HR E rho0 (h0 6) w ∧ GlobR E rho0 := by
  have hinv : ∀ b n, rho0 b = some n → b < 6 ∧ n = ⟨b, 0, 0, 0⟩ := by
    intro b n h
    unfold rho0 at h
    split at h
    · cases h; exact ⟨by assumption, rfl⟩
    · cases h
  refine ⟨⟨fun b x hx => (by simp [h0, T.get] at hx), fun b cs an es rw hx => (by simp [h0, T.get] at hx), fun b n hb => ?_, fun b n x _ hx => (by simp [h0, T.get] at hx), fun b c m n x y _ _ _ hx => (by simp [h0, T.get] at hx), Nat.le_refl _, fun b hb => by cases hb⟩, fun g hg => ?_⟩
  · obtain ⟨h1, rfl⟩ := hinv b n hb
    exact ⟨h1, by show b < w.heap.size; omega⟩
  · rw [hP, globals6] at hg
    exact ⟨⟨g, 0, 0, 0⟩, by unfold rho0; rw [if_pos hg], rfl, rfl⟩
/-- a call that names no memory -/
theorem calls_of {E : Env} (hP : E.P = Tryz.prog) (g : GoodC E) (hst : StubOk E) {n d f : Nat} {args args' : List Value} {v : Value} {u : Mode?} {h' : H} (hs : E.stub f args (h0 6) = none) (e : call E n d f args (h0 6) = some (.ret v, u, h'))
    (hwr : h'.wr = []) (ha : ∀ ρ, VRs ρ args args') {w : World} (hw : 6 ≤ w.heap.size) {v1 : Value} (hv : ∀ ρ v', VR ρ v v' → v' = v1) :
    Calls Tryz.prog f args'.toArray w fun e w' => e = .returned v1 ∧ Below w.heap.size w w' := by
  obtain ⟨r, hg⟩ := start_ok hP hw
  have := (call_ok g hst hs e r hg (ha _)).2
  rw [hP] at this
  refine this.mono ?_
  rintro en w' ⟨ρ', v', rfl, _, ev, hvr⟩
  rw [hv _ _ hvr]
  refine ⟨rfl, ev.out.1, ev.out.2.2, ev.out.2.1, ev.size, ?_⟩
  refine (ev.same (fun b => b < w.heap.size) (fun b n hb hor => ?_) (fun b hb => hb)).2
  rw [hwr] at hor
  rcases hor with hor | hor
  · have := (r.dom b n hb).1
    have h6 : (h0 6).base = 6 := rfl
    have h7 : (h0 6).next = 6 := rfl
    omega
  · cases hor
def retI : Option (Ab.End × Mode? × H) → Option Int
  | some (.ret (.int .i64 n), _, h) => match h.wr with
    | [] => some n
    | _ => none
  | _ => none
def sameI : Option Int → Option Int → Bool
  | some a, some b => eqI a b
  | _, _ => false
theorem retI_ok {o : Option (Ab.End × Mode? × H)} {r : Int} (h : retI o = some r) : ∃ u h', o = some (.ret (.int .i64 r), u, h') ∧ h'.wr = [] := by
  unfold retI at h
  split at h
  · split at h
    · rename_i hw; cases h; exact ⟨_, _, rfl, hw⟩
    · cases h
  · cases h
noncomputable def runJ (f : Nat) (op lo hi : Int) : Option Int := retI (call envJ 8 6 f [zi op, za [zi lo, zi hi]] (h0 6))
theorem js000 : sameI (runJ 8 0 (Int.ofNat 0) (Int.ofNat 0)) (runJ 6 0 (Int.ofNat 0) (Int.ofNat 0)) = true := by kernel_rfl
theorem js001 (b : Nat) : sameI (runJ 8 0 (Int.ofNat 0) (Int.ofNat (Nat.succ b))) (runJ 6 0 (Int.ofNat 0) (Int.ofNat (Nat.succ b))) = true := by kernel_rfl
theorem js002 (b : Nat) : sameI (runJ 8 0 (Int.ofNat 0) (Int.negSucc b)) (runJ 6 0 (Int.ofNat 0) (Int.negSucc b)) = true := by kernel_rfl
theorem js010 (a : Nat) : sameI (runJ 8 0 (Int.ofNat (Nat.succ a)) (Int.ofNat 0)) (runJ 6 0 (Int.ofNat (Nat.succ a)) (Int.ofNat 0)) = true := by kernel_rfl
theorem js011 (a b : Nat) : sameI (runJ 8 0 (Int.ofNat (Nat.succ a)) (Int.ofNat (Nat.succ b))) (runJ 6 0 (Int.ofNat (Nat.succ a)) (Int.ofNat (Nat.succ b))) = true := by kernel_rfl
theorem js012 (a b : Nat) : sameI (runJ 8 0 (Int.ofNat (Nat.succ a)) (Int.negSucc b)) (runJ 6 0 (Int.ofNat (Nat.succ a)) (Int.negSucc b)) = true := by kernel_rfl
theorem js020 (a : Nat) : sameI (runJ 8 0 (Int.negSucc a) (Int.ofNat 0)) (runJ 6 0 (Int.negSucc a) (Int.ofNat 0)) = true := by kernel_rfl
theorem js021 (a b : Nat) : sameI (runJ 8 0 (Int.negSucc a) (Int.ofNat (Nat.succ b))) (runJ 6 0 (Int.negSucc a) (Int.ofNat (Nat.succ b))) = true := by kernel_rfl
theorem js022 (a b : Nat) : sameI (runJ 8 0 (Int.negSucc a) (Int.negSucc b)) (runJ 6 0 (Int.negSucc a) (Int.negSucc b)) = true := by kernel_rfl
theorem js100 : sameI (runJ 8 1 (Int.ofNat 0) (Int.ofNat 0)) (runJ 6 1 (Int.ofNat 0) (Int.ofNat 0)) = true := by kernel_rfl
theorem js101 (b : Nat) : sameI (runJ 8 1 (Int.ofNat 0) (Int.ofNat (Nat.succ b))) (runJ 6 1 (Int.ofNat 0) (Int.ofNat (Nat.succ b))) = true := by kernel_rfl
theorem js102 (b : Nat) : sameI (runJ 8 1 (Int.ofNat 0) (Int.negSucc b)) (runJ 6 1 (Int.ofNat 0) (Int.negSucc b)) = true := by kernel_rfl
theorem js110 (a : Nat) : sameI (runJ 8 1 (Int.ofNat (Nat.succ a)) (Int.ofNat 0)) (runJ 6 1 (Int.ofNat (Nat.succ a)) (Int.ofNat 0)) = true := by kernel_rfl
theorem js111 (a b : Nat) : sameI (runJ 8 1 (Int.ofNat (Nat.succ a)) (Int.ofNat (Nat.succ b))) (runJ 6 1 (Int.ofNat (Nat.succ a)) (Int.ofNat (Nat.succ b))) = true := by kernel_rfl
theorem js112 (a b : Nat) : sameI (runJ 8 1 (Int.ofNat (Nat.succ a)) (Int.negSucc b)) (runJ 6 1 (Int.ofNat (Nat.succ a)) (Int.negSucc b)) = true := by kernel_rfl
theorem js120 (a : Nat) : sameI (runJ 8 1 (Int.negSucc a) (Int.ofNat 0)) (runJ 6 1 (Int.negSucc a) (Int.ofNat 0)) = true := by kernel_rfl
theorem js121 (a b : Nat) : sameI (runJ 8 1 (Int.negSucc a) (Int.ofNat (Nat.succ b))) (runJ 6 1 (Int.negSucc a) (Int.ofNat (Nat.succ b))) = true := by kernel_rfl
theorem js122 (a b : Nat) : sameI (runJ 8 1 (Int.negSucc a) (Int.negSucc b)) (runJ 6 1 (Int.negSucc a) (Int.negSucc b)) = true := by kernel_rfl
theorem js200 : sameI (runJ 8 2 (Int.ofNat 0) (Int.ofNat 0)) (runJ 6 2 (Int.ofNat 0) (Int.ofNat 0)) = true := by kernel_rfl
theorem js201 (b : Nat) : sameI (runJ 8 2 (Int.ofNat 0) (Int.ofNat (Nat.succ b))) (runJ 6 2 (Int.ofNat 0) (Int.ofNat (Nat.succ b))) = true := by kernel_rfl
theorem js202 (b : Nat) : sameI (runJ 8 2 (Int.ofNat 0) (Int.negSucc b)) (runJ 6 2 (Int.ofNat 0) (Int.negSucc b)) = true := by kernel_rfl
theorem js210 (a : Nat) : sameI (runJ 8 2 (Int.ofNat (Nat.succ a)) (Int.ofNat 0)) (runJ 6 2 (Int.ofNat (Nat.succ a)) (Int.ofNat 0)) = true := by kernel_rfl
theorem js211 (a b : Nat) : sameI (runJ 8 2 (Int.ofNat (Nat.succ a)) (Int.ofNat (Nat.succ b))) (runJ 6 2 (Int.ofNat (Nat.succ a)) (Int.ofNat (Nat.succ b))) = true := by kernel_rfl
theorem js212 (a b : Nat) : sameI (runJ 8 2 (Int.ofNat (Nat.succ a)) (Int.negSucc b)) (runJ 6 2 (Int.ofNat (Nat.succ a)) (Int.negSucc b)) = true := by kernel_rfl
theorem js220 (a : Nat) : sameI (runJ 8 2 (Int.negSucc a) (Int.ofNat 0)) (runJ 6 2 (Int.negSucc a) (Int.ofNat 0)) = true := by kernel_rfl
theorem js221 (a b : Nat) : sameI (runJ 8 2 (Int.negSucc a) (Int.ofNat (Nat.succ b))) (runJ 6 2 (Int.negSucc a) (Int.ofNat (Nat.succ b))) = true := by kernel_rfl
theorem js222 (a b : Nat) : sameI (runJ 8 2 (Int.negSucc a) (Int.negSucc b)) (runJ 6 2 (Int.negSucc a) (Int.negSucc b)) = true := by kernel_rfl
theorem js300 : sameI (runJ 8 3 (Int.ofNat 0) (Int.ofNat 0)) (runJ 6 3 (Int.ofNat 0) (Int.ofNat 0)) = true := by kernel_rfl
theorem js301 (b : Nat) : sameI (runJ 8 3 (Int.ofNat 0) (Int.ofNat (Nat.succ b))) (runJ 6 3 (Int.ofNat 0) (Int.ofNat (Nat.succ b))) = true := by kernel_rfl
theorem js302 (b : Nat) : sameI (runJ 8 3 (Int.ofNat 0) (Int.negSucc b)) (runJ 6 3 (Int.ofNat 0) (Int.negSucc b)) = true := by kernel_rfl
theorem js310 (a : Nat) : sameI (runJ 8 3 (Int.ofNat (Nat.succ a)) (Int.ofNat 0)) (runJ 6 3 (Int.ofNat (Nat.succ a)) (Int.ofNat 0)) = true := by kernel_rfl
theorem js311 (a b : Nat) : sameI (runJ 8 3 (Int.ofNat (Nat.succ a)) (Int.ofNat (Nat.succ b))) (runJ 6 3 (Int.ofNat (Nat.succ a)) (Int.ofNat (Nat.succ b))) = true := by kernel_rfl
theorem js312 (a b : Nat) : sameI (runJ 8 3 (Int.ofNat (Nat.succ a)) (Int.negSucc b)) (runJ 6 3 (Int.ofNat (Nat.succ a)) (Int.negSucc b)) = true := by kernel_rfl
theorem js320 (a : Nat) : sameI (runJ 8 3 (Int.negSucc a) (Int.ofNat 0)) (runJ 6 3 (Int.negSucc a) (Int.ofNat 0)) = true := by kernel_rfl
theorem js321 (a b : Nat) : sameI (runJ 8 3 (Int.negSucc a) (Int.ofNat (Nat.succ b))) (runJ 6 3 (Int.negSucc a) (Int.ofNat (Nat.succ b))) = true := by kernel_rfl
theorem js322 (a b : Nat) : sameI (runJ 8 3 (Int.negSucc a) (Int.negSucc b)) (runJ 6 3 (Int.negSucc a) (Int.negSucc b)) = true := by kernel_rfl
theorem js400 : sameI (runJ 8 4 (Int.ofNat 0) (Int.ofNat 0)) (runJ 6 4 (Int.ofNat 0) (Int.ofNat 0)) = true := by kernel_rfl
theorem js401 (b : Nat) : sameI (runJ 8 4 (Int.ofNat 0) (Int.ofNat (Nat.succ b))) (runJ 6 4 (Int.ofNat 0) (Int.ofNat (Nat.succ b))) = true := by kernel_rfl
theorem js402 (b : Nat) : sameI (runJ 8 4 (Int.ofNat 0) (Int.negSucc b)) (runJ 6 4 (Int.ofNat 0) (Int.negSucc b)) = true := by kernel_rfl
theorem js410 (a : Nat) : sameI (runJ 8 4 (Int.ofNat (Nat.succ a)) (Int.ofNat 0)) (runJ 6 4 (Int.ofNat (Nat.succ a)) (Int.ofNat 0)) = true := by kernel_rfl
theorem js411 (a b : Nat) : sameI (runJ 8 4 (Int.ofNat (Nat.succ a)) (Int.ofNat (Nat.succ b))) (runJ 6 4 (Int.ofNat (Nat.succ a)) (Int.ofNat (Nat.succ b))) = true := by kernel_rfl
theorem js412 (a b : Nat) : sameI (runJ 8 4 (Int.ofNat (Nat.succ a)) (Int.negSucc b)) (runJ 6 4 (Int.ofNat (Nat.succ a)) (Int.negSucc b)) = true := by kernel_rfl
theorem js420 (a : Nat) : sameI (runJ 8 4 (Int.negSucc a) (Int.ofNat 0)) (runJ 6 4 (Int.negSucc a) (Int.ofNat 0)) = true := by kernel_rfl
theorem js421 (a b : Nat) : sameI (runJ 8 4 (Int.negSucc a) (Int.ofNat (Nat.succ b))) (runJ 6 4 (Int.negSucc a) (Int.ofNat (Nat.succ b))) = true := by kernel_rfl
theorem js422 (a b : Nat) : sameI (runJ 8 4 (Int.negSucc a) (Int.negSucc b)) (runJ 6 4 (Int.negSucc a) (Int.negSucc b)) = true := by kernel_rfl
theorem js500 : sameI (runJ 8 5 (Int.ofNat 0) (Int.ofNat 0)) (runJ 6 5 (Int.ofNat 0) (Int.ofNat 0)) = true := by kernel_rfl
theorem js501 (b : Nat) : sameI (runJ 8 5 (Int.ofNat 0) (Int.ofNat (Nat.succ b))) (runJ 6 5 (Int.ofNat 0) (Int.ofNat (Nat.succ b))) = true := by kernel_rfl
theorem js502 (b : Nat) : sameI (runJ 8 5 (Int.ofNat 0) (Int.negSucc b)) (runJ 6 5 (Int.ofNat 0) (Int.negSucc b)) = true := by kernel_rfl
theorem js510 (a : Nat) : sameI (runJ 8 5 (Int.ofNat (Nat.succ a)) (Int.ofNat 0)) (runJ 6 5 (Int.ofNat (Nat.succ a)) (Int.ofNat 0)) = true := by kernel_rfl
theorem js511 (a b : Nat) : sameI (runJ 8 5 (Int.ofNat (Nat.succ a)) (Int.ofNat (Nat.succ b))) (runJ 6 5 (Int.ofNat (Nat.succ a)) (Int.ofNat (Nat.succ b))) = true := by kernel_rfl
theorem js512 (a b : Nat) : sameI (runJ 8 5 (Int.ofNat (Nat.succ a)) (Int.negSucc b)) (runJ 6 5 (Int.ofNat (Nat.succ a)) (Int.negSucc b)) = true := by kernel_rfl
theorem js520 (a : Nat) : sameI (runJ 8 5 (Int.negSucc a) (Int.ofNat 0)) (runJ 6 5 (Int.negSucc a) (Int.ofNat 0)) = true := by kernel_rfl
theorem js521 (a b : Nat) : sameI (runJ 8 5 (Int.negSucc a) (Int.ofNat (Nat.succ b))) (runJ 6 5 (Int.negSucc a) (Int.ofNat (Nat.succ b))) = true := by kernel_rfl
theorem js522 (a b : Nat) : sameI (runJ 8 5 (Int.negSucc a) (Int.negSucc b)) (runJ 6 5 (Int.negSucc a) (Int.negSucc b)) = true := by kernel_rfl
theorem js600 : sameI (runJ 8 6 (Int.ofNat 0) (Int.ofNat 0)) (runJ 6 6 (Int.ofNat 0) (Int.ofNat 0)) = true := by kernel_rfl
theorem js601 (b : Nat) : sameI (runJ 8 6 (Int.ofNat 0) (Int.ofNat (Nat.succ b))) (runJ 6 6 (Int.ofNat 0) (Int.ofNat (Nat.succ b))) = true := by kernel_rfl
theorem js602 (b : Nat) : sameI (runJ 8 6 (Int.ofNat 0) (Int.negSucc b)) (runJ 6 6 (Int.ofNat 0) (Int.negSucc b)) = true := by kernel_rfl
theorem js610 (a : Nat) : sameI (runJ 8 6 (Int.ofNat (Nat.succ a)) (Int.ofNat 0)) (runJ 6 6 (Int.ofNat (Nat.succ a)) (Int.ofNat 0)) = true := by kernel_rfl
theorem js611 (a b : Nat) : sameI (runJ 8 6 (Int.ofNat (Nat.succ a)) (Int.ofNat (Nat.succ b))) (runJ 6 6 (Int.ofNat (Nat.succ a)) (Int.ofNat (Nat.succ b))) = true := by kernel_rfl
theorem js612 (a b : Nat) : sameI (runJ 8 6 (Int.ofNat (Nat.succ a)) (Int.negSucc b)) (runJ 6 6 (Int.ofNat (Nat.succ a)) (Int.negSucc b)) = true := by kernel_rfl
theorem js620 (a : Nat) : sameI (runJ 8 6 (Int.negSucc a) (Int.ofNat 0)) (runJ 6 6 (Int.negSucc a) (Int.ofNat 0)) = true := by kernel_rfl
theorem js621 (a b : Nat) : sameI (runJ 8 6 (Int.negSucc a) (Int.ofNat (Nat.succ b))) (runJ 6 6 (Int.negSucc a) (Int.ofNat (Nat.succ b))) = true := by kernel_rfl
theorem js622 (a b : Nat) : sameI (runJ 8 6 (Int.negSucc a) (Int.negSucc b)) (runJ 6 6 (Int.negSucc a) (Int.negSucc b)) = true := by kernel_rfl
theorem js0 : ∀ lo hi : Int, sameI (runJ 8 0 lo hi) (runJ 6 0 lo hi) = true
  | Int.ofNat 0, Int.ofNat 0 => js000
  | Int.ofNat 0, Int.ofNat (Nat.succ b) => js001 b
  | Int.ofNat 0, Int.negSucc b => js002 b
  | Int.ofNat (Nat.succ a), Int.ofNat 0 => js010 a
  | Int.ofNat (Nat.succ a), Int.ofNat (Nat.succ b) => js011 a b
  | Int.ofNat (Nat.succ a), Int.negSucc b => js012 a b
  | Int.negSucc a, Int.ofNat 0 => js020 a
  | Int.negSucc a, Int.ofNat (Nat.succ b) => js021 a b
  | Int.negSucc a, Int.negSucc b => js022 a b
theorem js1 : ∀ lo hi : Int, sameI (runJ 8 1 lo hi) (runJ 6 1 lo hi) = true
  | Int.ofNat 0, Int.ofNat 0 => js100
  | Int.ofNat 0, Int.ofNat (Nat.succ b) => js101 b
  | Int.ofNat 0, Int.negSucc b => js102 b
  | Int.ofNat (Nat.succ a), Int.ofNat 0 => js110 a
  | Int.ofNat (Nat.succ a), Int.ofNat (Nat.succ b) => js111 a b
  | Int.ofNat (Nat.succ a), Int.negSucc b => js112 a b
  | Int.negSucc a, Int.ofNat 0 => js120 a
  | Int.negSucc a, Int.ofNat (Nat.succ b) => js121 a b
  | Int.negSucc a, Int.negSucc b => js122 a b
theorem js2 : ∀ lo hi : Int, sameI (runJ 8 2 lo hi) (runJ 6 2 lo hi) = true
  | Int.ofNat 0, Int.ofNat 0 => js200
  | Int.ofNat 0, Int.ofNat (Nat.succ b) => js201 b
  | Int.ofNat 0, Int.negSucc b => js202 b
  | Int.ofNat (Nat.succ a), Int.ofNat 0 => js210 a
  | Int.ofNat (Nat.succ a), Int.ofNat (Nat.succ b) => js211 a b
  | Int.ofNat (Nat.succ a), Int.negSucc b => js212 a b
  | Int.negSucc a, Int.ofNat 0 => js220 a
  | Int.negSucc a, Int.ofNat (Nat.succ b) => js221 a b
  | Int.negSucc a, Int.negSucc b => js222 a b
theorem js3 : ∀ lo hi : Int, sameI (runJ 8 3 lo hi) (runJ 6 3 lo hi) = true
  | Int.ofNat 0, Int.ofNat 0 => js300
  | Int.ofNat 0, Int.ofNat (Nat.succ b) => js301 b
  | Int.ofNat 0, Int.negSucc b => js302 b
  | Int.ofNat (Nat.succ a), Int.ofNat 0 => js310 a
  | Int.ofNat (Nat.succ a), Int.ofNat (Nat.succ b) => js311 a b
  | Int.ofNat (Nat.succ a), Int.negSucc b => js312 a b
  | Int.negSucc a, Int.ofNat 0 => js320 a
  | Int.negSucc a, Int.ofNat (Nat.succ b) => js321 a b
  | Int.negSucc a, Int.negSucc b => js322 a b
theorem js4 : ∀ lo hi : Int, sameI (runJ 8 4 lo hi) (runJ 6 4 lo hi) = true
  | Int.ofNat 0, Int.ofNat 0 => js400
  | Int.ofNat 0, Int.ofNat (Nat.succ b) => js401 b
  | Int.ofNat 0, Int.negSucc b => js402 b
  | Int.ofNat (Nat.succ a), Int.ofNat 0 => js410 a
  | Int.ofNat (Nat.succ a), Int.ofNat (Nat.succ b) => js411 a b
  | Int.ofNat (Nat.succ a), Int.negSucc b => js412 a b
  | Int.negSucc a, Int.ofNat 0 => js420 a
  | Int.negSucc a, Int.ofNat (Nat.succ b) => js421 a b
  | Int.negSucc a, Int.negSucc b => js422 a b
theorem js5 : ∀ lo hi : Int, sameI (runJ 8 5 lo hi) (runJ 6 5 lo hi) = true
  | Int.ofNat 0, Int.ofNat 0 => js500
  | Int.ofNat 0, Int.ofNat (Nat.succ b) => js501 b
  | Int.ofNat 0, Int.negSucc b => js502 b
  | Int.ofNat (Nat.succ a), Int.ofNat 0 => js510 a
  | Int.ofNat (Nat.succ a), Int.ofNat (Nat.succ b) => js511 a b
  | Int.ofNat (Nat.succ a), Int.negSucc b => js512 a b
  | Int.negSucc a, Int.ofNat 0 => js520 a
  | Int.negSucc a, Int.ofNat (Nat.succ b) => js521 a b
  | Int.negSucc a, Int.negSucc b => js522 a b
theorem js6 : ∀ lo hi : Int, sameI (runJ 8 6 lo hi) (runJ 6 6 lo hi) = true
  | Int.ofNat 0, Int.ofNat 0 => js600
  | Int.ofNat 0, Int.ofNat (Nat.succ b) => js601 b
  | Int.ofNat 0, Int.negSucc b => js602 b
  | Int.ofNat (Nat.succ a), Int.ofNat 0 => js610 a
  | Int.ofNat (Nat.succ a), Int.ofNat (Nat.succ b) => js611 a b
  | Int.ofNat (Nat.succ a), Int.negSucc b => js612 a b
  | Int.negSucc a, Int.ofNat 0 => js620 a
  | Int.negSucc a, Int.ofNat (Nat.succ b) => js621 a b
  | Int.negSucc a, Int.negSucc b => js622 a b
theorem judges_same (op lo hi : Int) (h1 : 0 ≤ op) (h2 : op ≤ 6) : sameI (runJ 8 op lo hi) (runJ 6 op lo hi) = true := by
  have h : op = 0 ∨ op = 1 ∨ op = 2 ∨ op = 3 ∨ op = 4 ∨ op = 5 ∨ op = 6 := by omega
  rcases h with rfl | rfl | rfl | rfl | rfl | rfl | rfl
  · exact js0 lo hi
  · exact js1 lo hi
  · exact js2 lo hi
  · exact js3 lo hi
  · exact js4 lo hi
  · exact js5 lo hi
  · exact js6 lo hi
theorem judges (op lo hi : Int) (h1 : 0 ≤ op) (h2 : op ≤ 6) : ∃ r : Int, ∀ f, f = 8 ∨ f = 6 → ∀ w : World, 6 ≤ w.heap.size →
    Calls Tryz.prog f #[.int .i64 op, .agg #[.int .i64 lo, .int .i64 hi]] w fun e w' => e = .returned (.int .i64 r) ∧ Below w.heap.size w w' := by
  have h := judges_same op lo hi h1 h2
  unfold sameI at h
  split at h
  · rename_i a b ha hb
    rw [eqI_eq, beq_iff_eq] at h
    subst h
    refine ⟨a, fun f hf w hw => ?_⟩
    have key : ∀ f, runJ f op lo hi = some a → envJ.stub f [zi op, za [zi lo, zi hi]] (h0 6) = none → Calls Tryz.prog f #[.int .i64 op, .agg #[.int .i64 lo, .int .i64 hi]] w fun e w' => e = .returned (.int .i64 a) ∧ Below w.heap.size w w' := by
      intro f hr hs
      obtain ⟨u, h', e, hwr⟩ := retI_ok hr
      have hvr : ∀ ρ, VRs ρ [zi op, za [zi lo, zi hi]] [.int .i64 op, .agg #[.int .i64 lo, .int .i64 hi]] := fun ρ => by
        refine .cons _ _ _ _ (.int _ _) (.cons _ _ _ _ (.agg _ _ (.cons _ _ _ _ (.int _ _) (.cons _ _ _ _ (.int _ _) .nil)) ?_) .nil)
        intro v hv
        simp at hv
        rcases hv with rfl | rfl <;> rfl
      exact calls_of (E := envJ) rfl (goodC _) stubJ hs e hwr hvr hw (fun ρ v' hv => by cases hv; rfl)
    rcases hf with rfl | rfl
    · exact key 8 ha rfl
    · exact key 6 hb rfl
  · cases h
end Go.Ab
