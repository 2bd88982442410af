/- What is proved: a part of the soundness of the abstract machine (a run of it stands for the run of the model, whatever the tape). Conditions stand in each theorem. -/
import Derived.Test.YtnifkpljhfpdlaaGreatDoorSd
import Derived.Laws.AppendOwn
set_option linter.unusedVariables false
set_option linter.unusedSimpArgs false
namespace Go.Ab
inductive AppSrc (P : Program) (w : World) (u : Nat) (i : TypeInfo) (x' : Value) (n : Nat) (new' : List Value) : Prop
  | plain (d : TypeDesc) (hu : P.underlying u = some d) (hd : ∀ k, d ≠ .int k) (hl : ∀ w, (Builtin.lenOf x').run P w = .ok n w)
      (hf : ∀ w2 : World, w2.heap = w.heap → (Builtin.firstCells i.size n x').run P w2 = .ok new'.toArray w2)
  | zeros (k kk : IntKind) (hu : P.underlying u = some (.int k)) (hx : x' = .int kk (Int.ofNat n)) (hn : n ≤ 1048576) (hb : i.bytes ≤ 65536) (z : Value) (hz : i.zero = some z)
      (hnew : new' = (Builtin.zeroCells z.cells n).toList) (hpos : n * i.size ≠ 0)
theorem isInt_false {d : TypeDesc} (h : ∀ k, d ≠ .int k) : (match d with | .int _ => true | _ => false) = false := by
  cases d <;> first | rfl | exact absurd rfl (h _)
theorem run_app_in {P : Program} {w w' : World} {t u el ty : Nat} {i : TypeInfo} {ts : Array Nat} {x' : Value} {n len cap : Nat} {a : Addr} {new' : List Value}
    (h0 : ts[0]? = some t) (h1 : ts[1]? = some u) (ht : P.underlying t = some (.slice el)) (hi : P.info? el = some i) (hs : AppSrc P w u i x' n new')
    (hcap : len + n ≤ cap) (hst : (storeCells (a.add (len * i.size)) new').run P w = .ok () w') :
    (Builtin.append_ ts ty #[.slice (some a) len cap, x']).run P w = .ok (.slice (some a) (len + n) cap) w' := by
  have hargs : (#[.slice (some a) len cap, x'] : Array Value)[0]? = some (.slice (some a) len cap) ∧ (#[.slice (some a) len cap, x'] : Array Value)[1]? = some x' := ⟨rfl, rfl⟩
  cases hs with
  | plain d hu hd hl hf =>
    have hi0 := isInt_false hd
    unfold Builtin.append_
    simp only [h0, h1, hargs.1, hargs.2, Sem.run_bind, run_und ht, Result.andThen_ok, run_size hi, run_und hu, Sem.run_pure, hi0, Bool.false_eq_true, if_false, hl, Bool.not_false, if_true, if_pos hcap, hf w rfl, hst]
  | zeros k kk hu hx hn hb z hz hnew hpos =>
    subst hx; subst hnew
    have hw : IntKind.wrap .i64 (Int.ofNat n) = (n : Int) := fits64_ok (n := (n : Int)) (ble_iff.2 (by omega))
    have hbytes : n * i.bytes ≤ 1048576 * 65536 := Nat.mul_le_mul hn hb
    have hc : ¬ ((n : Int) * (i.bytes : Int) > 2 ^ 48) := by
      have : ((n * i.bytes : Nat) : Int) = (n : Int) * (i.bytes : Int) := by simp
      omega
    unfold Builtin.append_
    simp only [h0, h1, hargs.1, hargs.2, Sem.run_bind, run_und ht, Result.andThen_ok, run_size hi, run_und hu, Sem.run_pure, if_true, asInt, asIntOf, pure_bind, hw, run_info hi, Int.toNat_natCast]
    rw [if_neg (by omega)]
    simp only [Sem.run_bind, run_info hi, Result.andThen_ok]
    rw [if_neg hc]
    simp only [Sem.run_pure, Result.andThen_ok, Bool.not_true, Bool.false_eq_true, if_false, if_pos hcap, if_neg hpos, Sem.run_bind, run_zero hi hz, hst]
theorem next_small {need cap : Nat} (h : cap < need) : Builtin.nextslicecap need cap ≤ 4 * need + 4096 := by
  unfold Builtin.nextslicecap
  split
  · omega
  · split
    · omega
    · have : ∀ r c, Builtin.growBy need r c ≤ max (need + (need + 768)) (c + c) ∨ True := fun _ _ => .inr trivial
      have key : ∀ r c, c ≤ 2 * need + 768 → Builtin.growBy need r c ≤ 4 * need + 4096 := by
        intro r
        induction r with
        | zero => intro c hc; simp only [Builtin.growBy]; omega
        | succ r ih =>
          intro c hc
          simp only [Builtin.growBy]
          split
          · omega
          · exact ih _ (by omega)
      exact key _ _ (by omega)
theorem run_app_grow {P : Program} {w : World} {t u el ty : Nat} {i : TypeInfo} {z : Value} {ts : Array Nat} {x' : Value} {n len cap : Nat} {base : Option Addr} {old new' : List Value}
    (h0 : ts[0]? = some t) (h1 : ts[1]? = some u) (ht : P.underlying t = some (.slice el)) (hi : P.info? el = some i) (hz : i.zero = some z) (hs : AppSrc P w u i x' n new')
    (hcap : ¬ len + n ≤ cap) (hsmall : len + n ≤ 536870912) (hb : i.bytes ≤ 65536)
    (hold : ∀ w2 : World, w2.heap = w.heap → (Builtin.firstCells i.size len (.slice base len cap)).run P w2 = .ok old.toArray w2) :
    ∃ newCap w2, len + n ≤ newCap ∧ (w2.heap = w.heap ∧ Outer w w2) ∧
      (Builtin.append_ ts ty #[.slice base len cap, x']).run P w = .ok (.slice (some ⟨w.heap.size, 0, none⟩) (len + n) newCap)
        (wpush w2 (.cells (old.toArray ++ new'.toArray ++ Builtin.zeroCells z.cells (newCap - (len + n))) el (0, 0))) := by
  have hargs : (#[.slice base len cap, x'] : Array Value)[0]? = some (.slice base len cap) ∧ (#[.slice base len cap, x'] : Array Value)[1]? = some x' := ⟨rfl, rfl⟩
  have hfit : ¬ (Builtin.nextslicecap (len + n) cap * i.bytes > 2 ^ 48) := by
    have h1 := next_small (need := len + n) (cap := cap) (by omega)
    have h2 : Builtin.nextslicecap (len + n) cap * i.bytes ≤ (4 * 536870912 + 4096) * 65536 := Nat.mul_le_mul (by omega) hb
    omega
  have h63 : ∀ q : Prop, ¬ (((len + n : Nat) : Int) > IntKind.i64.max ∧ q) := by
    intro q h
    have := h.1
    simp [IntKind.max, IntKind.bits, IntKind.signed] at this
    omega
  let w2 : World := { w with drawn := w.drawn + 1 }
  let nc := (Question.appendCap (len + n) cap el).cut (w.tape w.drawn (.appendCap (len + n) cap el))
  have hnc : len + n ≤ nc := by show len + n ≤ len + n + _; omega
  have hch : (choose (.appendCap (len + n) cap el)).run P w = .ok nc w2 := by
    simp [choose, Sem.run, Question.forced]; exact ⟨rfl, rfl⟩
  have hask : ∀ b, (askRoom b).run P w2 = .ok () w2 := by
    intro b; unfold askRoom; split
    · simp [mark, Sem.run]
    · rfl
  refine ⟨nc, w2, hnc, ⟨rfl, rfl, rfl, rfl⟩, ?_⟩
  cases hs with
  | plain d hu hd hl hf =>
    have hi0 := isInt_false hd
    unfold Builtin.append_
    simp only [h0, h1, hargs.1, hargs.2, Sem.run_bind, run_und ht, Result.andThen_ok, run_size hi, run_und hu, Sem.run_pure, hi0, Bool.false_eq_true, if_false, hl, Bool.not_false, if_true, if_neg hcap, run_info hi]
    rw [if_neg (h63 _)]
    simp only [Sem.run_bind, Sem.run_pure, run_info hi, Result.andThen_ok]
    rw [if_neg hfit]
    simp only [Sem.run_bind, Sem.run_pure, hch, Result.andThen_ok, run_info hi, hask, hold w2 rfl, hf w2 rfl, run_zero hi hz, newRow, newObj]
    rfl
  | zeros k kk hu hx hn hb' z' hz' hnew hpos =>
    rw [hz] at hz'; cases hz'
    subst hx; subst hnew
    have hw : IntKind.wrap .i64 (Int.ofNat n) = (n : Int) := fits64_ok (n := (n : Int)) (ble_iff.2 (by omega))
    have hbytes : n * i.bytes ≤ 1048576 * 65536 := Nat.mul_le_mul hn hb
    have hc : ¬ ((n : Int) * (i.bytes : Int) > 2 ^ 48) := by
      have : ((n * i.bytes : Nat) : Int) = (n : Int) * (i.bytes : Int) := by simp
      omega
    unfold Builtin.append_
    simp only [h0, h1, hargs.1, hargs.2, Sem.run_bind, run_und ht, Result.andThen_ok, run_size hi, run_und hu, Sem.run_pure, if_true, asInt, asIntOf, pure_bind, hw, run_info hi, Int.toNat_natCast]
    rw [if_neg (by omega)]
    simp only [Sem.run_bind, run_info hi, Result.andThen_ok]
    rw [if_neg hc]
    simp only [Sem.run_pure, Result.andThen_ok, Bool.not_true, Bool.false_eq_true, if_false, if_neg hcap, Sem.run_bind, run_info hi]
    rw [if_neg (h63 _)]
    simp only [Sem.run_bind, Sem.run_pure, run_info hi, Result.andThen_ok]
    rw [if_neg hfit]
    simp only [Sem.run_bind, Sem.run_pure, hch, Result.andThen_ok, run_info hi, hask, hold w2 rfl, if_neg hpos, run_zero hi hz, newRow, newObj]
    rfl
theorem run_first {P : Program} {w : World} {b o k : Nat} {l : List Value} (hl : l.length = k) (h : ∀ j v, l[j]? = some v → cell w b (o + j) = some v) :
    (loadCells ⟨b, o, none⟩ k).run P w = .ok l.toArray w := by rw [← hl]; exact run_loadCells' P w b o l h
theorem run_app_nil {P : Program} {w : World} {t u el ty : Nat} {i : TypeInfo} {ts : Array Nat} {x' : Value} {len cap : Nat} {base : Option Addr}
    (h0 : ts[0]? = some t) (h1 : ts[1]? = some u) (ht : P.underlying t = some (.slice el)) (hi : P.info? el = some i)
    (hs : (∃ d, P.underlying u = some d ∧ (∀ k, d ≠ .int k) ∧ (Builtin.lenOf x').run P w = .ok 0 w ∧ (Builtin.firstCells i.size 0 x').run P w = .ok #[] w) ∨ ∃ k kk, P.underlying u = some (.int k) ∧ x' = .int kk 0)
    (hcap : len ≤ cap) :
    (Builtin.append_ ts ty #[.slice base len cap, x']).run P w = .ok (.slice base len cap) w := by
  have hargs : (#[.slice base len cap, x'] : Array Value)[0]? = some (.slice base len cap) ∧ (#[.slice base len cap, x'] : Array Value)[1]? = some x' := ⟨rfl, rfl⟩
  have hcap' : len + 0 ≤ cap := hcap
  rcases hs with ⟨d, hu, hd, hl, hf⟩ | ⟨k, kk, hu, hx⟩
  · have hi0 := isInt_false hd
    unfold Builtin.append_
    simp only [h0, h1, hargs.1, hargs.2, Sem.run_bind, run_und ht, Result.andThen_ok, run_size hi, run_und hu, Sem.run_pure, hi0, Bool.false_eq_true, if_false, hl, Bool.not_false, if_true, if_pos hcap', hf]
    cases base <;> rfl
  · subst hx
    have hw : IntKind.wrap .i64 (0 : Int) = ((0 : Nat) : Int) := fits64_ok (n := ((0 : Nat) : Int)) (ble_iff.2 (by omega))
    unfold Builtin.append_
    simp only [h0, h1, hargs.1, hargs.2, Sem.run_bind, run_und ht, Result.andThen_ok, run_size hi, run_und hu, Sem.run_pure, if_true, asInt, asIntOf, pure_bind, hw, run_info hi, Int.toNat_natCast]
    rw [if_neg (by omega)]
    simp only [Sem.run_bind, run_info hi, Result.andThen_ok]
    rw [if_neg (by simp)]
    simp only [Sem.run_pure, Result.andThen_ok, Bool.not_true, Bool.false_eq_true, if_false, if_pos hcap', Nat.zero_mul, if_true, Sem.run_bind]
    cases base <;> rfl
theorem takeN_all : ∀ (l : List Value), takeN l.length l = some l
  | [] => rfl
  | v :: l => by simp only [List.length_cons, takeN]; rw [takeN_all l]
theorem appendTo_ok {E : Env} {ρ : Names} {h h' : H} {w : World} (r : HR E ρ h w) {t u el ty : Nat} {i : TypeInfo} {z : Value} {ts : Array Nat} {s' x' v : Value} {base : Option Addr} {n len cap : Nat} {new new' : List Value}
    (h0 : ts[0]? = some t) (h1 : ts[1]? = some u) (ht : E.P.underlying t = some (.slice el)) (hi : E.P.info? el = some i) (hz : i.zero = some z) (hzs : z.cells.size = i.size) (hb : i.bytes ≤ 65536)
    (hsrc : n ≠ 0 → 1 ≤ i.size → AppSrc E.P w u i x' n new') (hsrc0 : n = 0 → (∃ d, E.P.underlying u = some d ∧ (∀ k, d ≠ .int k) ∧ (Builtin.lenOf x').run E.P w = .ok 0 w ∧ (Builtin.firstCells i.size 0 x').run E.P w = .ok #[] w) ∨ ∃ k kk, E.P.underlying u = some (.int k) ∧ x' = .int kk 0)
    (hv : VR ρ (.slice base len cap) s') (hnew : VRs ρ new new') (hno : ∀ v, v ∈ new → notAgg v = true) (hnl : new.length = n * i.size)
    (e : appendTo base len cap i.size n new h = some (.val v h')) :
    ∃ ρ' w' v', (Builtin.append_ ts ty #[s', x']).run E.P w = .ok v' w' ∧ HR E ρ' h' w' ∧ Ev ρ h w ρ' h' w' ∧ VR ρ' v v' := by
  unfold appendTo at e
  split at e
  · -- nothing is appended
    cases e
    have key : ∀ base' len' cap', s' = .slice base' len' cap' → len' ≤ cap' → (Builtin.append_ ts ty #[s', x']).run E.P w = .ok s' w := by
      intro base' len' cap' hs' hle; subst hs'; exact run_app_nil h0 h1 ht hi (hsrc0 rfl) hle
    refine ⟨ρ, w, s', ?_, r, Ev.refl _ _ _, hv⟩
    cases hv with
    | sliceN => exact key _ _ _ rfl (Nat.le_refl _)
    | slice _ _ _ _ cap' a' nm hnm hcapok haddr => exact key _ _ _ rfl hcapok.1
  · rename_i n0
    have hn0 : n ≠ 0 := n0
    split at e
    · cases e
    · rename_i hcond
      simp only [Bool.and_eq_true] at hcond
      have hsmall : len + n ≤ 536870912 := ble_iff.1 hcond.1
      have hsz : 1 ≤ i.size := ble_iff.1 hcond.2
      have hs := hsrc hn0 hsz
      have hn1 : 1 ≤ n := by omega
      have grow : ∀ (base' : Option Addr) (cap' : Nat) (old old' : List Value), s' = .slice base' len cap' → ¬ len + n ≤ cap' → VRs ρ old old' → (∀ v, v ∈ old → notAgg v = true) → old.length = len * i.size →
          (∀ w2 : World, w2.heap = w.heap → (Builtin.firstCells i.size len (.slice base' len cap')).run E.P w2 = .ok old'.toArray w2) →
          ∀ (hh : H), HR E ρ hh w → Ev ρ h w ρ hh w → ∀ (an : List Nat), (∀ a, a ∈ an → a < hh.next) →
          ∃ ρ' w' v', (Builtin.append_ ts ty #[s', x']).run E.P w = .ok v' w' ∧ HR E ρ' (hh.alloc (.cells (old ++ new) an i.size true)) w' ∧ Ev ρ h w ρ' (hh.alloc (.cells (old ++ new) an i.size true)) w' ∧
            VR ρ' (.slice (some (addr hh.next 0)) (len + n) capU) v' := by
        intro base' cap' old old' hs' hcap hold hon hol hrd hh rr ev an han
        subst hs'
        obtain ⟨nc, w2, k1, ⟨k2, k2o⟩, k3⟩ := run_app_grow (ty := ty) h0 h1 ht hi hz hs hcap hsmall hb hrd
        have rr2 := rr.world k2
        have hzc := size_zeroCells z.cells (nc - (len + n))
        have hlo := hold.length
        have hln := hnew.length
        obtain ⟨p1, p2⟩ := rr2.alloc (.cells (old ++ new) an i.size true) (.cells (old'.toArray ++ new'.toArray ++ Builtin.zeroCells z.cells (nc - (len + n))) el (0, 0))
          (old'.toArray ++ new'.toArray ++ Builtin.zeroCells z.cells (nc - (len + n))).size i.size (fun cs an' es rw he => by cases he; exact han) (by
            refine ⟨fun j x hx => ?_, ⟨rfl, fun _ => rfl⟩, fun _ => ⟨fun j _ hj => ?_, ?_⟩⟩
            · have hall : VRs ρ (old ++ new) (old' ++ new') := hold.append hnew
              obtain ⟨x', q1, q2⟩ := hall.get hx
              have hj := (List.getElem?_eq_some_iff.1 q1).1
              refine ⟨?_, x', ?_, q2.mono (Names.le_add _ rr2.none_next)⟩
              · rcases List.mem_append.1 (List.mem_of_getElem? hx) with hm | hm
                · exact hon _ hm
                · exact hno _ hm
              · rw [cell_def, wpush_new]
                simp only [Nat.zero_add]
                rw [Array.getElem?_append_left (by simp at hj ⊢; exact hj)]
                have : (old'.toArray ++ new'.toArray) = (old' ++ new').toArray := by simp
                rw [this]; simpa using q1
            · rw [cell_def, wpush_new]
              refine ⟨by simp at hj ⊢; omega, ?_⟩
              unfold World.frozen?; rw [wpush_new]; simp
            · simp; omega)
        refine ⟨_, _, _, k3, p1, ev.trans ((Ev.world k2 k2o).trans p2 rr.base) r.base, ?_⟩
        rw [show w.heap.size = w2.heap.size from by rw [k2]]
        refine .slice _ _ _ _ _ _ _ (Names.add_same _ _ _) ⟨k1, ?_⟩ (.inl rfl)
        rw [if_neg (by rw [capU_big]; simp)]
        refine ⟨rfl, ?_⟩
        simp only [Array.size_append, List.size_toArray, hzc, hzs, Nat.zero_add]
        rw [← hlo, ← hln, hol, hnl, ← Nat.add_mul, ← Nat.add_mul]
        congr 1; omega
      split at e
      · -- nil
        split at e
        · rename_i hc
          simp only [Bool.and_eq_true] at hc
          have hl0 := beq_iff.1 hc.1
          have hc0 := beq_iff.1 hc.2
          subst hl0; subst hc0
          cases e
          cases hv
          obtain ⟨ρ', w', v', q1, q2, q3, q4⟩ := grow none 0 [] [] rfl (by omega) .nil (fun _ h => by cases h) (by simp) (fun w2 _ => by simp [Builtin.firstCells]) h r (Ev.refl _ _ _) [] (fun _ h => by cases h)
          refine ⟨ρ', w', v', q1, q2, q3, ?_⟩
          simpa using q4
        · cases e
      · rename_i b o
        cases hv with
        | slice _ _ _ _ cap' a' nm hnm hcapok haddr =>
          obtain ⟨hlc, hcapok⟩ := hcapok
          split at e
          · rename_i hk
            rw [if_pos hk] at hcapok
            subst hcapok
            split at e
            · -- in place, there is room
              rename_i hroom
              have hroom : len + n ≤ cap' := ble_iff.1 hroom
              have ha : a' = ⟨nm.cb, nm.co + o, none⟩ := by
                rcases haddr with h | h
                · exact h
                · omega
              subst ha
              split at e
              · rename_i h2 hw
                cases e
                obtain ⟨p1, p2, p3⟩ := r.write hnm hw hnew hno
                have hst := run_storeCells' E.P nm.cb (nm.co + (o + len * i.size)) new' 0 w (hnew.noAgg hno) (fun j hj => by simpa using p3 j hj)
                have hin := run_app_in (w' := _) (ty := ty) (len := len) (cap := cap') (a := ⟨nm.cb, nm.co + o, none⟩) h0 h1 ht hi hs hroom (by
                  rw [addr_add, Nat.add_assoc]; exact hst)
                refine ⟨ρ, _, _, hin, p1, p2, ?_⟩
                refine .slice _ _ _ _ _ _ _ hnm ⟨hroom, ?_⟩ (.inl rfl)
                rw [if_pos hk]
              · cases e
            · -- another array
              rename_i hroom
              have hroom : ¬ len + n ≤ cap' := fun h => by have hroom' : (len + n).ble cap' = false := hroom; rw [ble_iff.2 h] at hroom'; cases hroom'
              split at e
              · rename_i old hold
                cases e
                obtain ⟨old', g1, g2, g3, g4⟩ := read_ok r hnm hold
                obtain ⟨ρ', w', v', q1, q2, q3, q4⟩ := grow (some a') cap' old old' rfl hroom g2 g3 (by rw [g2.length]; exact g1) (fun w2 hw2 => by
                  by_cases hl0 : len = 0
                  · have : old' = [] := List.length_eq_zero_iff.1 (by rw [g1, hl0]; exact Nat.zero_mul _)
                    subst this
                    subst hl0
                    simp only [Builtin.firstCells, Nat.zero_mul]
                    rfl
                  · have ha : a' = ⟨nm.cb, nm.co + o, none⟩ := by
                      rcases haddr with h | h
                      · exact h
                      · omega
                    subst ha
                    simp only [Builtin.firstCells]
                    exact run_first g1 (fun j v hj => (cell_heap (b := nm.cb) (by rw [hw2]) _).trans (g4 j v hj))) h r (Ev.refl _ _ _) [] (fun _ h => by cases h)
                exact ⟨ρ', w', v', q1, q2, q3, q4⟩
              · cases e
          · rename_i hk
            have hk : ¬ knownCap cap = true := by rw [hk]; simp
            rw [if_neg hk] at hcapok
            obtain ⟨hcU, hce⟩ := hcapok
            subst hcU
            split at e
            · rename_i cs an es rw hblk
              obtain ⟨hB1, hes, hB2⟩ := r.blk b nm _ hnm hblk
              split at e
              · cases e
              · rename_i hm
                simp only [Bool.and_eq_true] at hm
                have hes2 : es = i.size := beq_iff.1 hm.1
                have hrw := hm.2
                subst hes2
                subst hrw
                obtain ⟨hB3, hB4⟩ := hB2 rfl
                rw [hes.1] at hce
                have hln := hnew.length
                simp only [] at e
                split at e
                · -- at the end of the row
                  rename_i he
                  have he : o + len * i.size = cs.length := beq_iff.1 he
                  cases e
                  by_cases hroom : len + n ≤ cap'
                  · have ha : a' = ⟨nm.cb, nm.co + o, none⟩ := by
                      rcases haddr with h | h
                      · exact h
                      · omega
                    subst ha
                    have hmul : (len + n) * i.size ≤ cap' * i.size := Nat.mul_le_mul_right _ hroom
                    have hmul2 : (len + n) * i.size = len * i.size + n * i.size := Nat.add_mul _ _ _
                    obtain ⟨p1, p2, p3⟩ := r.grow (o := o) hnm hblk (by omega) hnew hno (by omega) (by omega)
                    have hst := run_storeCells' E.P nm.cb (nm.co + cs.length) new' 0 w (hnew.noAgg hno) (fun j hj => by simpa using p3 j hj)
                    have hin := run_app_in (ty := ty) (len := len) (cap := cap') (a := ⟨nm.cb, nm.co + o, none⟩) h0 h1 ht hi hs hroom (by
                      rw [addr_add, Nat.add_assoc, he]; exact hst)
                    refine ⟨_, _, _, hin, p1, p2, ?_⟩
                    have := VR.slice (ρ := Names.add ρ h.next ⟨nm.cb, nm.co + o, nm.ce, nm.es⟩) h.next 0 (len + n) capU cap' ⟨nm.cb, nm.co + o, none⟩ ⟨nm.cb, nm.co + o, nm.ce, nm.es⟩ (Names.add_same _ _ _) ⟨hroom, by
                      rw [if_neg (by rw [capU_big]; simp)]
                      exact ⟨rfl, by show nm.co + o + 0 + cap' * nm.es = nm.ce; rw [hes.1]; omega⟩⟩ (.inl rfl)
                    exact this
                  · obtain ⟨t1, t2⟩ := r.toRo hblk
                    have hdl : (dropN o cs).length = len * i.size := by rw [dropN_eq, List.length_drop]; omega
                    have hread : h.read b o (len * i.size) = some (dropN o cs) := by
                      unfold H.read
                      simp only [hblk]
                      rw [← hdl]; exact takeN_all _
                    obtain ⟨old', g1, g2, g3, g4⟩ := read_ok r hnm hread
                    obtain ⟨ρ', w', v', q1, q2, q3, q4⟩ := grow (some a') cap' _ old' rfl hroom g2 g3 hdl (fun w2 hw2 => by
                      by_cases hl0 : len = 0
                      · have : old' = [] := List.length_eq_zero_iff.1 (by rw [g1, hl0]; exact Nat.zero_mul _)
                        subst this
                        subst hl0
                        simp only [Builtin.firstCells, Nat.zero_mul]
                        rfl
                      · have ha : a' = ⟨nm.cb, nm.co + o, none⟩ := by
                          rcases haddr with h | h
                          · exact h
                          · omega
                        subst ha
                        simp only [Builtin.firstCells]
                        exact run_first g1 (fun j v hj => (cell_heap (b := nm.cb) (by rw [hw2]) _).trans (g4 j v hj))) _ t1 t2 (b :: an) (by
                          intro a ha
                          have hbn := r.live b _ hblk
                          show a < h.next
                          rcases List.mem_cons.1 ha with rfl | ha
                          · exact hbn
                          · exact Nat.lt_trans (r.anc b _ _ _ _ hblk a ha) hbn)
                    exact ⟨ρ', w', v', q1, q2, q3, q4⟩
                · split at e
                  · rename_i he
                    have he : o + len * i.size + new.length ≤ cs.length := ble_iff.1 he
                    have hroom : len + n ≤ cap' := by
                      have hmul2 : (len + n) * i.size = len * i.size + n * i.size := Nat.add_mul _ _ _
                      exact Nat.le_of_mul_le_mul_right (c := i.size) (by omega) (by omega)
                    have ha : a' = ⟨nm.cb, nm.co + o, none⟩ := by
                      rcases haddr with h | h
                      · exact h
                      · omega
                    subst ha
                    split at e
                    · rename_i h2 hw
                      cases e
                      obtain ⟨p1, p2, p3⟩ := r.write hnm hw hnew hno
                      have hst := run_storeCells' E.P nm.cb (nm.co + (o + len * i.size)) new' 0 w (hnew.noAgg hno) (fun j hj => by simpa using p3 j hj)
                      have hin := run_app_in (ty := ty) (len := len) (cap := cap') (a := ⟨nm.cb, nm.co + o, none⟩) h0 h1 ht hi hs hroom (by
                        rw [addr_add, Nat.add_assoc]; exact hst)
                      refine ⟨ρ, _, _, hin, p1, p2, ?_⟩
                      refine .slice _ _ _ _ _ _ _ hnm ⟨hroom, ?_⟩ (.inl rfl)
                      rw [if_neg hk]
                      exact ⟨rfl, by rw [hes.1]; exact hce⟩
                    · cases e
                  · cases e
            · cases e
      · cases e
end Go.Ab
namespace Go.Ab
theorem bytes_VRs (ρ : Names) : ∀ (l : List UInt8), VRs ρ (l.map byteV) (l.map byteV)
  | [] => .nil
  | b :: l => .cons _ _ _ _ (.int _ _) (bytes_VRs ρ l)
theorem bytes_no (l : List UInt8) : ∀ v, v ∈ l.map byteV → notAgg v = true := by
  intro v hv
  obtain ⟨b, _, rfl⟩ := List.mem_map.1 hv
  rfl
theorem firstOf_ok {E : Env} {ρ : Names} {h : H} {w : World} (r : HR E ρ h w) {x x' : Value} {n m sz : Nat} {new : List Value} (hx : VR ρ x x') (hl : lenV x = some m) (hnm : n ≤ m) (hs : ∀ s, x = .string s → n = m)
    (e : firstOf x n sz h = some new) :
    ∃ new', VRs ρ new new' ∧ (∀ v, v ∈ new → notAgg v = true) ∧ (∀ w : World, (Builtin.lenOf x').run E.P w = .ok m w) ∧
      (∀ w2 : World, w2.heap = w.heap → (Builtin.firstCells sz n x').run E.P w2 = .ok new'.toArray w2) ∧ new.length = n * sz := by
  cases hx <;> first | (simp [lenV] at hl; done) | skip
  · rename_i s
    simp only [lenV, Option.some.injEq] at hl
    have hn : n = m := hs s rfl
    subst hn; subst hl
    simp only [firstOf] at e
    split at e
    · rename_i hsz
      have hsz := beq_iff.1 hsz
      subst hsz
      cases e
      refine ⟨_, bytes_VRs ρ _, bytes_no _, fun w => ?_, fun w2 _ => ?_, by simp⟩
      · rw [len_ba]; rfl
      · have : s.extract 0 s.data.toList.length = s := by
          rw [extract_ba, len_ba]
          have : extr s.data.toList 0 s.size = s.data.toList := by
            unfold extr
            rw [← len_ba]
            show List.take s.data.toList.length (List.drop 0 s.data.toList) = _
            rw [List.drop_zero, List.take_length]
          rw [this]
        unfold Builtin.firstCells
        simp only [this, Sem.run_pure]
        congr 1
        apply Array.toList_inj.1
        simp [byteV]
    · cases e
  · simp only [lenV, Option.some.injEq] at hl
    subst hl
    simp only [firstOf, Option.some.injEq] at e
    subst e
    have : n = 0 := by omega
    subst this
    exact ⟨[], .nil, (fun v h => by cases h), fun w => rfl, fun w2 _ => rfl, by simp⟩
  · rename_i b o l c c' a' nm hnm' hc ha
    simp only [lenV, Option.some.injEq] at hl
    subst hl
    simp only [firstOf] at e
    obtain ⟨new', g1, g2, g3, g4⟩ := read_ok r hnm' e
    refine ⟨new', g2, g3, fun w => rfl, fun w2 hw2 => ?_, by rw [g2.length]; exact g1⟩
    simp only [Builtin.firstCells]
    by_cases hl0 : n = 0
    · have : new' = [] := List.length_eq_zero_iff.1 (by rw [g1, hl0]; exact Nat.zero_mul _)
      subst this
      subst hl0
      simp only [Nat.zero_mul]
      rfl
    · have ha : a' = ⟨nm.cb, nm.co + o, none⟩ := by
        rcases ha with h | h
        · exact h
        · have := hc.1; omega
      subst ha
      exact run_first g1 (fun j v hj => (cell_heap (b := nm.cb) (by rw [hw2]) _).trans (g4 j v hj))
theorem aAppend_ok {E : Env} (g : Good E) {ρ : Names} {h h' : H} {w : World} (r : HR E ρ h w) {ts : Array Nat} {ty : Nat} {s x s' x' v : Value} (hs : VR ρ s s') (hx : VR ρ x x')
    (e : aAppend E.Γ ts.toList s x h = some (.val v h')) :
    ∃ ρ' w' v', (Builtin.append_ ts ty #[s', x']).run E.P w = .ok v' w' ∧ HR E ρ' h' w' ∧ Ev ρ h w ρ' h' w' ∧ VR ρ' v v' := by
  unfold aAppend at e
  split at e
  · rename_i t u l base len cap hts
    have h0 : ts[0]? = some t := by rw [← Array.getElem?_toList, hts]; rfl
    have h1 : ts[1]? = some u := by rw [← Array.getElem?_toList, hts]; rfl
    split at e
    · rename_i el d ht hu
      have ht := descT_ok g ht
      have hu := descT_ok g hu
      split at e
      · cases e
      · rename_i ti hti
        split at e
        · rename_i z hb hz
          have hb := ble_iff.1 hb
          obtain ⟨hi, _⟩ := tiG_ok g hti
          split at e
          · rename_i hcond
            simp only [Bool.and_eq_true] at hcond
            have c4 := beq_iff.1 hcond.1
            have hzz : VRs ρ (cellsL z) z.cells.toList := (closed_VR ρ 20 z (g.zero _ _ _ hti hz)).cells
            have hno := (closed_VR ρ 20 z (g.zero _ _ _ hti hz)).cellsNo hcond.2
            have hzs : z.cells.size = ti.info.size := by rw [← Array.length_toList, ← hzz.length]; exact c4
            split at e
            · rename_i k hd0
              split at e
              · rename_i kk n
                split at e
                · rename_i hn
                  have hn := ble_iff.1 hn
                  cases hx
                  refine appendTo_ok r (new' := repL z.cells.toList n) h0 h1 ht hi hz hzs hb ?_ ?_ hs (repL_VRs hzz n) (fun x hx => hno x (repL_mem _ _ x hx)) (by rw [repL_len, c4]; rfl) e
                  · intro hn0 hsz
                    refine .zeros k kk hu rfl hn hb z hz ?_ (Nat.mul_ne_zero hn0 (by omega))
                    unfold Builtin.zeroCells
                    exact (zeros_eq _ _ _ rfl).symm
                  · intro hn0
                    subst hn0
                    exact .inr ⟨k, kk, hu, rfl⟩
                · cases e
              · cases e
            · rename_i hd
              have hd : ∀ k, d ≠ .int k := fun k hk => hd k hk
              split at e
              · cases e
              · rename_i n hlen
                split at e
                · cases e
                · rename_i new hnew
                  obtain ⟨new', f1, f2, f3, f4, f5⟩ := firstOf_ok r hx hlen (Nat.le_refl _) (fun _ _ => rfl) hnew
                  refine appendTo_ok r h0 h1 ht hi hz hzs hb (fun hn0 _ => .plain d hu hd (f3) (fun w2 hw2 => f4 w2 hw2)) ?_ hs f1 f2 f5 e
                  intro hn0
                  subst hn0
                  have : new' = [] := List.length_eq_zero_iff.1 (by rw [← f1.length, f5]; exact Nat.zero_mul _)
                  subst this
                  exact .inl ⟨d, hu, hd, f3 w, f4 w rfl⟩
          · cases e
        · cases e
    · cases e
  · cases e
end Go.Ab
namespace Go.Ab
def EvR (Q : Operand → Prop) (ρ : Names) (tm : T Value) (evc : Operand → Value) : Prop := ∀ x, Q x → VR ρ (ev tm x) (evc x)
def okL (Q : Operand → Prop) (l : List Operand) : Prop := ∀ x, x ∈ l → Q x
theorem evs_VRs {Q : Operand → Prop} {ρ : Names} {tm : T Value} {evc : Operand → Value} (he : EvR Q ρ tm evc) : ∀ {l : List Operand}, okL Q l → VRs ρ (evs tm l) (l.map evc)
  | [], _ => .nil
  | x :: l, h => .cons _ _ _ _ (he x (h x (List.mem_cons_self ..))) (evs_VRs he fun y hy => h y (List.mem_cons_of_mem _ hy))
theorem evP_PR {Q : Operand → Prop} {ρ : Names} {tm : T Value} {evc : Operand → Value} (he : EvR Q ρ tm evc) : ∀ {l : List (Nat × Operand)}, okL Q (l.map (·.2)) → PR ρ (evP tm l) (l.map fun (i, x) => (i, evc x))
  | [], _ => .nil
  | (i, x) :: l, h => .cons _ _ _ _ _ (he x (h x (List.mem_cons_self ..))) (evP_PR he fun y hy => h y (List.mem_cons_of_mem _ hy))
section
variable {E : Env} {ρ : Names} {h : H} {w : World} {x x' v : Value}
theorem aConv_ok (g : Good E) {s d : Nat} (hx : VR ρ x x') (e : aConv E.Γ s d x = some v) : (convert s d x').run E.P w = .ok v w ∧ VR ρ v v := by
  unfold aConv at e
  split at e
  · rename_i h1 h2
    cases e
    cases hx
    refine ⟨?_, .int _ _⟩
    unfold convert
    simp only [Sem.run_bind, run_und (descT_ok g h1), run_und (descT_ok g h2), Result.andThen_ok, Conv.intToInt, wrapQ_eq, Sem.run_pure]
  · rename_i h1 h2
    cases e
    cases hx
    refine ⟨?_, .string _⟩
    unfold convert
    simp only [Sem.run_bind, run_und (descT_ok g h1), run_und (descT_ok g h2), Result.andThen_ok, Sem.run_pure]
  · cases e
theorem aAssert_ok (g : Good E) {xt t : Nat} {ok : Bool} (hx : VR ρ x x') (e : aAssert E.Γ x t ok = some v) : ∃ v', (Instr.typeAssert x' xt t ok).run E.P w = .ok v' w ∧ VR ρ v v' := by
  have hz : ∀ z, zeroT E.Γ t = some z → (do pure (.tuple #[← zeroValue t, .bool false]) : Sem Value).run E.P w = .ok (.tuple #[z, .bool false]) w ∧ VR ρ (.tuple #[z, .bool false]) (.tuple #[z, .bool false]) := by
    intro z hz
    obtain ⟨⟨i, hi, hiz⟩, hc⟩ := zeroT_ok g hz
    refine ⟨by simp only [Sem.run_bind, run_zero hi hiz, Result.andThen_ok, Sem.run_pure], tuple_VR false (closed_VR ρ 20 z hc)⟩
  unfold aAssert at e
  split at e
  · cases e
  · rename_i d s v0 hni hd
    have hu := descT_ok g hd
    cases hx with
    | iface _ _ v' hv =>
      split at e
      · rename_i hb
        have hb := beq_iff.1 hb
        cases e
        refine ⟨.tuple #[v', .bool true], ?_, tuple_VR true hv⟩
        unfold Instr.typeAssert
        simp only [Sem.run_bind, run_und hu, Result.andThen_ok]
        cases d with
        | interface ms => exact absurd rfl (hni ms)
        | _ => simp only [if_pos hb]; rfl
      · rename_i hb
        have hb := beq_iff.1 hb
        cases e
        refine ⟨v', ?_, hv⟩
        unfold Instr.typeAssert
        simp only [Sem.run_bind, run_und hu, Result.andThen_ok]
        cases d with
        | interface ms => exact absurd rfl (hni ms)
        | _ => simp only [if_pos hb]; rfl
      · rename_i hb
        split at e
        · rename_i z hz'
          cases e
          obtain ⟨k1, k2⟩ := hz z hz'
          refine ⟨_, ?_, k2⟩
          unfold Instr.typeAssert
          simp only [Sem.run_bind, run_und hu, Result.andThen_ok]
          have hne : ¬ s = t := fun h => by rw [beq_iff.2 h] at hb; cases hb
          cases d with
          | interface ms => exact absurd rfl (hni ms)
          | _ => simp only [if_neg hne]; exact k1
        · cases e
      · cases e
  · rename_i d hni hd
    have hu := descT_ok g hd
    split at e
    · split at e
      · rename_i z hz'
        cases e
        cases hx
        obtain ⟨k1, k2⟩ := hz z hz'
        refine ⟨_, ?_, k2⟩
        unfold Instr.typeAssert
        simp only [Sem.run_bind, run_und hu, Result.andThen_ok]
        cases d with
        | interface ms => exact absurd rfl (hni ms)
        | _ => exact k1
      · cases e
    · cases e
  · cases e
theorem aNilCheck_ok (hx : VR ρ x x') (e : aNilCheck x = some v) {o : Oper} {y : Operand} {evc : Operand → Value} (ho : o.op = .nilCheck y) (hy : evc y = x') :
    (execOp evc o).run E.P w = .ok (.value x') w ∧ VR ρ v x' := by
  unfold aNilCheck at e
  unfold execOp
  split at e
  · cases e
    cases hx with
    | ptr b k n hn => rw [ho]; simp only [hy]; exact ⟨rfl, .ptr _ _ _ hn⟩
  · cases e
    cases hx with
    | func f as bs as' bs' hf ha hb => rw [ho]; simp only [hy]; exact ⟨rfl, .func _ _ _ _ _ hf ha hb⟩
  · cases e
    cases hx with
    | iface t v v' hv => rw [ho]; simp only [hy]; exact ⟨rfl, .iface _ _ _ hv⟩
  · cases e
theorem run_newObj {P : Program} (o : Obj) (w : World) : (newObj o).run P w = .ok w.heap.size (wpush w o) := rfl
theorem newVar_ok (r : HR E ρ h w) (t : Nat) {cs : List Value} {arr : Array Value} (hv : VRs ρ cs arr.toList) (hn : ∀ v, v ∈ cs → notAgg v = true) :
    ∃ ρ' w', (newRow t arr).run E.P w = .ok ⟨w.heap.size, 0, none⟩ w' ∧ HR E ρ' (h.new cs 0) w' ∧ Ev ρ h w ρ' (h.new cs 0) w' ∧ VR ρ' (ptr h.next 0) (.pointer (some ⟨w.heap.size, 0, none⟩)) := by
  have hl := hv.length
  have hl : cs.length = arr.size := by rw [hl, Array.length_toList]
  obtain ⟨k1, k2⟩ := r.newRow cs arr t 0 (by rw [List.take_of_length_le (by rw [Array.length_toList, hl]; exact Nat.le_refl _)]; exact hv) (by omega) hn
  refine ⟨_, _, rfl, k1, k2, ?_⟩
  exact VR.ptr (ρ := Names.add ρ h.next ⟨w.heap.size, 0, arr.size, 0⟩) h.next 0 ⟨w.heap.size, 0, arr.size, 0⟩ (Names.add_same _ _ _)
theorem allocObj_ok (r : HR E ρ h w) (x : Blk) (o : Obj) (hx : isRow x = false) (hb : ∀ ρ' w' (n : Nm), w'.heap[n.cb]? = some o → n.co = 0 → BR ρ' E w' n x) :
    HR E (Names.add ρ h.next ⟨w.heap.size, 0, 0, 0⟩) (h.alloc x) (wpush w o) ∧ Ev ρ h w (Names.add ρ h.next ⟨w.heap.size, 0, 0, 0⟩) (h.alloc x) (wpush w o) :=
  r.alloc x o 0 0 (fun cs an es rw he => by subst he; simp [isRow] at hx) (hb _ _ _ (wpush_new _ _) rfl)
theorem aLen_ok (g : Good E) (r : HR E ρ h w) {t ty : Nat} {ts : Array Nat} (ht : ts[0]? = some t) (hx : VR ρ x x') (e : aLen E.Γ t x h = some v) :
    (Builtin.len_ ts ty #[x']).run E.P w = .ok v w ∧ VR ρ v v := by
  have h0 : (#[x'] : Array Value)[0]? = some x' := rfl
  unfold aLen at e
  unfold Builtin.len_
  split at e
  · rename_i hd
    cases e; cases hx
    simp only [ht, h0, Sem.run_bind, run_und (descT_ok g hd), Result.andThen_ok, len_ba]
    exact ⟨rfl, .int _ _⟩
  · rename_i hd
    cases e
    cases hx <;> simp only [ht, h0, Sem.run_bind, run_und (descT_ok g hd), Result.andThen_ok] <;> exact ⟨rfl, .int _ _⟩
  · rename_i hd
    cases e; cases hx
    simp only [ht, h0, Sem.run_bind, run_und (descT_ok g hd), Result.andThen_ok]
    exact ⟨rfl, .int _ _⟩
  · rename_i hd
    cases hx with
    | map m n hn =>
      split at e
      · rename_i es hb
        cases e
        obtain ⟨l, c, h1, h2, _⟩ := map_inv r hn hb
        simp only [ht, h0, Sem.run_bind, run_und (descT_ok g hd), Result.andThen_ok, run_getObjM h1]
        rw [h2.length, Array.length_toList]
        exact ⟨rfl, .int _ _⟩
      · cases e
  · rename_i hd
    cases e
    simp only [ht, h0, Sem.run_bind, run_und (descT_ok g hd), Result.andThen_ok]
    exact ⟨rfl, .int _ _⟩
  · cases e
theorem aCap_ok (g : Good E) {t ty : Nat} {ts : Array Nat} (ht : ts[0]? = some t) (hx : VR ρ x x') (e : aCap E.Γ t x = some v) :
    (Builtin.cap_ ts ty #[x']).run E.P w = .ok v w ∧ VR ρ v v := by
  have h0 : (#[x'] : Array Value)[0]? = some x' := rfl
  unfold aCap at e
  unfold Builtin.cap_
  split at e
  · rename_i hd
    cases e
    cases hx
    simp only [ht, h0, Sem.run_bind, run_und (descT_ok g hd), Result.andThen_ok]
    exact ⟨rfl, .int _ _⟩
  · cases e
theorem aClear_ok (g : Good E) (r : HR E ρ h w) {h' : H} {t ty : Nat} {ts : Array Nat} (ht : ts[0]? = some t) (hx : VR ρ x x') (e : aClear E.Γ t x h = some (.val v h')) :
    ∃ w' v', (Builtin.clear_ ts ty #[x']).run E.P w = .ok v' w' ∧ VR ρ v v' ∧ HR E ρ h' w' ∧ Ev ρ h w ρ h' w' := by
  have h0 : (#[x'] : Array Value)[0]? = some x' := rfl
  unfold aClear at e
  unfold Builtin.clear_
  split at e
  · rename_i hd
    cases e; cases hx
    refine ⟨w, .tuple #[], ?_, .tuple _ _ .nil, r, Ev.refl _ _ _⟩
    simp only [ht, h0, Sem.run_bind, run_und (descT_ok g hd), Result.andThen_ok]
    rfl
  · rename_i el b o n c hd
    cases hx with
    | slice _ _ _ _ c' a' nm hn hc ha =>
      split at e
      · cases e
        refine ⟨w, .tuple #[], ?_, .tuple _ _ .nil, r, Ev.refl _ _ _⟩
        simp only [ht, h0, Sem.run_bind, run_und (descT_ok g hd), Result.andThen_ok]
        rfl
      · rename_i k
        split at e
        · rename_i z hz
          split at e
          · rename_i htup
            split at e
            · rename_i h1 hw
              cases e
              obtain ⟨⟨i, hi, hiz⟩, hcl⟩ := zeroT_ok g hz
              have hv := closed_VR ρ 20 z hcl
              have hvs : VRs ρ (repL (cellsL z) (k + 1)) (repL z.cells.toList (k + 1)) := repL_VRs hv.cells (k + 1)
              have hno : ∀ y, y ∈ repL (cellsL z) (k + 1) → notAgg y = true := fun y hy => hv.cellsNo htup y (repL_mem _ _ y hy)
              obtain ⟨k1, k2, k3⟩ := r.write hn hw hvs hno
              have ha' : a' = ⟨nm.cb, nm.co + o, none⟩ := ha.resolve_right (by have := hc.1; omega)
              subst ha'
              refine ⟨_, .tuple #[], ?_, .tuple _ _ .nil, k1, k2⟩
              have hst := run_storeCells' E.P nm.cb (nm.co + o) (repL z.cells.toList (k + 1)) 0 w (hvs.noAgg hno) (fun j hj => by simpa using k3 j hj)
              have hzc : (Builtin.zeroCells z.cells (k + 1)).toList = repL z.cells.toList (k + 1) := by unfold Builtin.zeroCells; exact zeros_eq _ _ _ rfl
              simp only [ht, h0, Sem.run_bind, run_und (descT_ok g hd), Result.andThen_ok, run_zero hi hiz, hzc]
              rw [show (storeCells ⟨nm.cb, nm.co + o, none⟩ (repL z.cells.toList (k + 1))).run E.P w = .ok () (setCells w nm.cb (nm.co + o) (repL z.cells.toList (k + 1))) by simpa using hst]
              rfl
            · cases e
          · cases e
        · cases e
  · cases e
end
end Go.Ab
namespace Go.Ab
def OpRes (E : Env) (ρ : Names) (h : H) (w : World) (o : Oper) (evc : Operand → Value) (v : Value) (h' : H) : Prop :=
  ∃ ρ' w' nx v', (execOp evc o).run E.P w = .ok nx w' ∧ (nx = .value v' ∨ (nx = .skip ∧ v' = undef)) ∧ HR E ρ' h' w' ∧ Ev ρ h w ρ' h' w' ∧ VR ρ' v v'
section
variable {E : Env} {ρ : Names} {h h' : H} {w : World} {o : Oper} {evc : Operand → Value} {v : Value}
theorem OpRes.of_pure (r : HR E ρ h w) {s : Sem Value} {v' : Value} (hs : execOp evc o = (do pure (.value (← s)))) (hr : s.run E.P w = .ok v' w) (hv : VR ρ v v') : OpRes E ρ h w o evc v h :=
  ⟨ρ, w, .value v', v', by rw [hs, Sem.run_bind, hr]; rfl, .inl rfl, r, Ev.refl _ _ _, hv⟩
theorem OpRes.of_val {s : Sem Value} (hs : execOp evc o = (do pure (.value (← s)))) (hx : ∃ ρ' w' v', s.run E.P w = .ok v' w' ∧ HR E ρ' h' w' ∧ Ev ρ h w ρ' h' w' ∧ VR ρ' v v') : OpRes E ρ h w o evc v h' := by
  obtain ⟨ρ', w', v', hr, h1, h2, h3⟩ := hx
  exact ⟨ρ', w', .value v', v', by rw [hs, Sem.run_bind, hr]; rfl, .inl rfl, h1, h2, h3⟩
theorem OpRes.of_unit {s : Sem Unit} (hs : execOp evc o = (do s; pure .skip)) (hx : ∃ w', s.run E.P w = .ok () w' ∧ HR E ρ h' w' ∧ Ev ρ h w ρ h' w') : OpRes E ρ h w o evc undef h' := by
  obtain ⟨w', hr, h1, h2⟩ := hx
  exact ⟨ρ, w', .skip, undef, by rw [hs, Sem.run_bind, hr]; rfl, .inr ⟨rfl, rfl⟩, h1, h2, .tuple _ _ .nil⟩
theorem vEr_some {o : Option Value} (e : vEr h o = some (.val v h')) : o = some v ∧ h' = h := by
  cases o with
  | none => cases e
  | some x => cases e; exact ⟨rfl, rfl⟩
theorem evO_OR2 {Q : Operand → Prop} {tm : T Value} (he : EvR Q ρ tm evc) {x : Option Operand} (hk : ∀ y, x = some y → Q y) : OR2 ρ (evO tm x) (x.map evc) := by
  cases x with
  | none => trivial
  | some y => exact (he y (hk y rfl))
theorem aPlain_ok (g : Good E) (r : HR E ρ h w) {Q : Operand → Prop} {tm : T Value} (he : EvR Q ρ tm evc) {op : Op} (ho : o.op = op) (hk : okL Q (opsOf op)) (e : aPlain E tm op h = some (.val v h')) :
    OpRes E ρ h w o evc v h' := by
  unfold aPlain at e
  split at e
  · have hx := he _ (hk _ (List.mem_cons_self ..))
    cases e
    exact ⟨ρ, w, _, _, by simp only [execOp, ho]; rfl, .inl rfl, r, Ev.refl _ _ _, hx⟩
  · have hx := he _ (hk _ (List.mem_cons_self ..))
    cases e
    exact ⟨ρ, w, _, _, by simp only [execOp, ho]; rfl, .inl rfl, r, Ev.refl _ _ _, hx⟩
  · rename_i c a b
    have hx := he _ (hk _ (List.mem_cons_self ..))
    have hy := he _ (hk _ (List.mem_cons_of_mem _ (List.mem_cons_self ..)))
    have hz := he _ (hk _ (List.mem_cons_of_mem _ (List.mem_cons_of_mem _ (List.mem_cons_self ..))))
    split at e
    · rename_i hb
      cases e
      rw [hb] at hx
      generalize hcc : evc c = cc at hx
      cases hx
      exact ⟨ρ, w, _, _, by simp only [execOp, ho, hcc]; rfl, .inl rfl, r, Ev.refl _ _ _, hy⟩
    · rename_i hb
      cases e
      rw [hb] at hx
      generalize hcc : evc c = cc at hx
      cases hx
      exact ⟨ρ, w, _, _, by simp only [execOp, ho, hcc]; rfl, .inl rfl, r, Ev.refl _ _ _, hz⟩
    · cases e
  · rename_i el
    split at e
    · rename_i z hz
      split at e
      · rename_i hn
        cases e
        obtain ⟨⟨i, hi, hiz⟩, hc⟩ := zeroT_ok g hz
        obtain ⟨h1, h2⟩ := zero_no g hz hn ρ
        obtain ⟨ρ', w', k1, k2, k3, k4⟩ := newVar_ok r el h1 h2
        refine OpRes.of_val (by first | (simp only [execOp, ho]; done) | (simp only [execOp, ho]; rfl)) ⟨ρ', w', _, ?_, k2, k3, k4⟩
        unfold Instr.alloc
        simp only [Sem.run_bind, run_zero hi hiz, Result.andThen_ok, newVar, k1, Sem.run_pure]
      · cases e
    · cases e
  · rename_i el x
    have hx := he _ (hk _ (List.mem_cons_self ..))
    split at e
    · rename_i hn
      cases e
      have h1 := hx.cells
      have h2 := hx.cellsNo hn
      obtain ⟨ρ', w', k1, k2, k3, k4⟩ := newVar_ok r el h1 h2
      refine OpRes.of_val (by first | (simp only [execOp, ho]; done) | (simp only [execOp, ho]; rfl)) ⟨ρ', w', _, ?_, k2, k3, k4⟩
      unfold Instr.box
      simp only [newVar, Sem.run_bind, k1, Result.andThen_ok, Sem.run_pure]
    · cases e
  · rename_i t ps
    obtain ⟨e2, rfl⟩ := vEr_some e
    obtain ⟨v', k1, k2⟩ := aBuild_ok (w := w) (ps' := ps.map fun (i, x) => (i, evc x)) g (by rw [Array.toList_map]; exact evP_PR he hk) e2
    exact OpRes.of_pure r (by first | (simp only [execOp, ho]; done) | (simp only [execOp, ho]; rfl)) k1 k2
  · rename_i t n ps
    obtain ⟨ρ', w', v', k1, k2, k3, k4⟩ := aBuildSlice_ok g r (ps' := ps.map fun (i, x) => (i, evc x)) (by rw [Array.toList_map]; exact evP_PR he hk) e
    exact OpRes.of_val (by first | (simp only [execOp, ho]; done) | (simp only [execOp, ho]; rfl)) ⟨ρ', w', v', k1, k2, k3, k4⟩
  · have hx := he _ (hk _ (List.mem_cons_self ..))
    obtain ⟨rfl, v', k1, k2⟩ := aLoad_ok g r hx e
    exact OpRes.of_pure r (by first | (simp only [execOp, ho]; done) | (simp only [execOp, ho]; rfl)) k1 k2
  · have hx := he _ (hk _ (List.mem_cons_self ..))
    have hy := he _ (hk _ (List.mem_cons_of_mem _ (List.mem_cons_self ..)))
    obtain ⟨rfl, w', k1, k2, k3⟩ := aStore_ok g r hx hy e
    exact OpRes.of_unit (by first | (simp only [execOp, ho]; done) | (simp only [execOp, ho]; rfl)) ⟨w', k1, k2, k3⟩
  · have hx := he _ (hk _ (List.mem_cons_self ..))
    obtain ⟨e2, rfl⟩ := vEr_some e
    obtain ⟨k1, k2⟩ := aNilCheck_ok (E := E) (w := w) hx e2 ho rfl
    exact ⟨ρ, w, _, _, k1, .inl rfl, r, Ev.refl _ _ _, k2⟩
  · have hx := he _ (hk _ (List.mem_cons_self ..))
    have hy := he _ (hk _ (List.mem_cons_of_mem _ (List.mem_cons_self ..)))
    obtain ⟨e2, rfl⟩ := vEr_some e
    obtain ⟨v', k1, k2⟩ := aBin_ok (w := w) g hx hy e2
    exact OpRes.of_pure r (by first | (simp only [execOp, ho]; done) | (simp only [execOp, ho]; rfl)) k1 k2
  · have hx := he _ (hk _ (List.mem_cons_self ..))
    obtain ⟨e2, rfl⟩ := vEr_some e
    obtain ⟨k1, k2⟩ := aUn_ok (P := E.P) (w := w) hx e2
    exact OpRes.of_pure r (by first | (simp only [execOp, ho]; done) | (simp only [execOp, ho]; rfl)) k1 k2
  · have hx := he _ (hk _ (List.mem_cons_self ..))
    obtain ⟨e2, rfl⟩ := vEr_some e
    obtain ⟨k1, k2⟩ := aConv_ok (w := w) g hx e2
    exact OpRes.of_pure r (by first | (simp only [execOp, ho]; done) | (simp only [execOp, ho]; rfl)) k1 k2
  · have hx := he _ (hk _ (List.mem_cons_self ..))
    split at e
    · cases e
    · rename_i d hni hd
      cases e
      refine OpRes.of_pure r (by first | (simp only [execOp, ho]; done) | (simp only [execOp, ho]; rfl)) ?_ (.iface _ _ _ hx)
      unfold Instr.makeInterface
      simp only [Sem.run_bind, run_und (descT_ok g hd), Result.andThen_ok]
      cases d with
      | interface ms => exact absurd rfl (hni ms)
      | _ => rfl
    · cases e
  · rename_i fn a b
    split at e
    · cases e
    · rename_i hy
      cases e
      have ha : VRs ρ (evs tm a.toList) (a.toList.map evc) := evs_VRs he fun y hy => hk y (List.mem_append_left _ hy)
      have hb : VRs ρ (evs tm b.toList) (b.toList.map evc) := evs_VRs he fun y hy => hk y (List.mem_append_right _ hy)
      refine OpRes.of_pure r (s := Instr.makeFunc fn (a.map evc) (b.map evc)) (by first | (simp only [execOp, ho]; done) | (simp only [execOp, ho]; rfl)) rfl (.func _ _ _ _ _ (fun l hl => by rw [hl] at hy; cases hy) (by rw [Array.toList_map]; exact ha) (by rw [Array.toList_map]; exact hb))
  · split at e
    · cases e
      obtain ⟨k1, k2⟩ := allocObj_ok r (.map []) (.map #[] 0) rfl (fun ρ' w' n hn _ => ⟨#[], 0, hn, .nil, MapKept.stamped_empty 0⟩)
      refine OpRes.of_val (by first | (simp only [execOp, ho]; done) | (simp only [execOp, ho]; rfl)) ⟨_, _, .map (some w.heap.size), ?_, k1, k2, .map _ _ (Names.add_same _ _ _)⟩
      unfold Instr.makeMap
      simp only [Option.map, Sem.run_bind, run_newObj, Result.andThen_ok, Sem.run_pure]
    · rename_i x
      have hx := he _ (hk x (by simp [opsOf]))
      split at e
      · rename_i hd hi
        cases e
        rw [hi] at hx
        generalize hcc : evc x = cc at hx
        cases hx
        obtain ⟨k1, k2⟩ := allocObj_ok r (.map []) (.map #[] 0) rfl (fun ρ' w' n hn _ => ⟨#[], 0, hn, .nil, MapKept.stamped_empty 0⟩)
        refine OpRes.of_val (by first | (simp only [execOp, ho]; done) | (simp only [execOp, ho]; rfl)) ⟨_, _, .map (some w.heap.size), ?_, k1, k2, .map _ _ (Names.add_same _ _ _)⟩
        unfold Instr.makeMap
        simp only [Option.map, hcc, Sem.run_bind, run_und (descT_ok g hd), Result.andThen_ok, asInt, run_newObj, Sem.run_pure]
        rfl
      · cases e
  · have hx := he _ (hk _ (List.mem_cons_self ..))
    have hy := he _ (hk _ (List.mem_cons_of_mem _ (List.mem_cons_self ..)))
    obtain ⟨ρ', w', v', k1, k2, k3, k4⟩ := aMakeSlice_ok g r hx hy e
    exact OpRes.of_val (by first | (simp only [execOp, ho]; done) | (simp only [execOp, ho]; rfl)) ⟨ρ', w', v', k1, k2, k3, k4⟩
  · rename_i t x l hh m
    have hx := he _ (hk _ (List.mem_cons_self ..))
    obtain ⟨rfl, v', k1, k2⟩ := aSlice_ok g r hx (evO_OR2 he (x := l) fun y hy => hk y (by subst hy; simp [opsOf])) (evO_OR2 he (x := hh) fun y hy => hk y (by subst hy; simp [opsOf])) (evO_OR2 he (x := m) fun y hy => hk y (by subst hy; simp [opsOf])) e
    exact OpRes.of_pure r (by first | (simp only [execOp, ho]; done) | (simp only [execOp, ho]; rfl)) k1 k2
  · have hx := he _ (hk _ (List.mem_cons_self ..))
    obtain ⟨e2, rfl⟩ := vEr_some e
    obtain ⟨v', k1, k2⟩ := aFieldAddr_ok (w := w) g hx e2
    exact OpRes.of_pure r (by first | (simp only [execOp, ho]; done) | (simp only [execOp, ho]; rfl)) k1 k2
  · have hx := he _ (hk _ (List.mem_cons_self ..))
    obtain ⟨e2, rfl⟩ := vEr_some e
    obtain ⟨v', k1, k2⟩ := aField_ok (w := w) g hx e2
    exact OpRes.of_pure r (by first | (simp only [execOp, ho]; done) | (simp only [execOp, ho]; rfl)) k1 k2
  · have hx := he _ (hk _ (List.mem_cons_self ..))
    have hy := he _ (hk _ (List.mem_cons_of_mem _ (List.mem_cons_self ..)))
    obtain ⟨e2, rfl⟩ := vEr_some e
    obtain ⟨v', k1, k2⟩ := aIndexAddr_ok (w := w) g hx hy e2
    exact OpRes.of_pure r (by first | (simp only [execOp, ho]; done) | (simp only [execOp, ho]; rfl)) k1 k2
  · have hx := he _ (hk _ (List.mem_cons_self ..))
    have hy := he _ (hk _ (List.mem_cons_of_mem _ (List.mem_cons_self ..)))
    obtain ⟨e2, rfl⟩ := vEr_some e
    obtain ⟨v', k1, k2⟩ := aIndex_ok (w := w) g hx hy e2
    exact OpRes.of_pure r (by first | (simp only [execOp, ho]; done) | (simp only [execOp, ho]; rfl)) k1 k2
  · have hx := he _ (hk _ (List.mem_cons_self ..))
    have hy := he _ (hk _ (List.mem_cons_of_mem _ (List.mem_cons_self ..)))
    obtain ⟨e2, rfl⟩ := vEr_some e
    obtain ⟨v', k1, k2⟩ := aLookup_ok g r hx hy e2
    exact OpRes.of_pure r (by first | (simp only [execOp, ho]; done) | (simp only [execOp, ho]; rfl)) k1 k2
  · have hx := he _ (hk _ (List.mem_cons_self ..))
    have hy := he _ (hk _ (List.mem_cons_of_mem _ (List.mem_cons_self ..)))
    have hz := he _ (hk _ (List.mem_cons_of_mem _ (List.mem_cons_of_mem _ (List.mem_cons_self ..))))
    split at e
    · rename_i h2 hm
      cases e
      obtain ⟨w', k1, k2, k3⟩ := aMapSet_ok g r hx hy hz hm
      exact OpRes.of_unit (by first | (simp only [execOp, ho]; done) | (simp only [execOp, ho]; rfl)) ⟨w', k1, k2, k3⟩
    · cases e
  · have hx := he _ (hk _ (List.mem_cons_self ..))
    have hy := he _ (hk _ (List.mem_cons_of_mem _ (List.mem_cons_self ..)))
    have hz := he _ (hk _ (List.mem_cons_of_mem _ (List.mem_cons_of_mem _ (List.mem_cons_self ..))))
    split at e
    · rename_i h2 hm
      cases e
      obtain ⟨w', k1, k2, k3⟩ := aMapSet_ok g r hx hy hz hm
      exact OpRes.of_unit (by first | (simp only [execOp, ho]; done) | (simp only [execOp, ho]; rfl)) ⟨w', k1, k2, k3⟩
    · cases e
  · rename_i t x
    have hx := he _ (hk _ (List.mem_cons_self ..))
    split at e
    · rename_i hd hs
      cases e
      rw [hs] at hx
      generalize hcc : evc x = cc at hx
      cases hx
      rename_i s
      obtain ⟨k1, k2⟩ := allocObj_ok r (.iter s 0) (.stringIter s 0) rfl (fun ρ' w' n hn h0 => ⟨hn, h0⟩)
      refine OpRes.of_val (by first | (simp only [execOp, ho]; done) | (simp only [execOp, ho]; rfl)) ⟨_, _, .pointer (some ⟨w.heap.size, 0, none⟩), ?_, k1, k2, VR.ptr (ρ := Names.add ρ h.next _) h.next 0 _ (Names.add_same _ _ _)⟩
      unfold Instr.range
      simp only [hcc, Sem.run_bind, run_und (descT_ok g hd), Result.andThen_ok, run_newObj, Sem.run_pure]
    · cases e
  · rename_i it
    have hx := he _ (hk _ (List.mem_cons_self ..))
    split at e
    · rename_i rr hit
      rw [hit] at hx
      obtain ⟨_, n, hn, hcc⟩ := hx.ptr_inv
      split at e
      · rename_i s pos hb
        obtain ⟨hB, hco⟩ : w.heap[n.cb]? = some (.stringIter s pos) ∧ n.co = 0 := r.blk _ _ _ hn hb
        rw [hco, Nat.add_zero] at hcc
        have hget := run_getObj' (P := E.P) hB (fun _ _ _ h => by cases h)
        split at e
        · rename_i hle
          have hle := ble_iff.1 hle
          cases e
          rw [len_ba] at hle
          have hlt := (Array.getElem?_eq_some_iff.1 hB).1
          obtain ⟨k1, k2⟩ := r.putObj (y := .iter s (pos + (Utf8.decode s pos).2)) (.stringIter s (pos + (Utf8.decode s pos).2)) hn hb rfl rfl ⟨by (show (w.heap.setIfInBounds n.cb _)[n.cb]? = _); simp [hlt], hco⟩
          refine OpRes.of_val (by first | (simp only [execOp, ho]; done) | (simp only [execOp, ho]; rfl)) ⟨ρ, _, _, ?_, k1, k2, .tuple _ _ (.cons _ _ _ _ (.bool _) (.cons _ _ _ _ (.int _ _) (.cons _ _ _ _ (.int _ _) .nil)))⟩
          unfold Instr.next
          simp only [hcc, Sem.run_bind, hget, Result.andThen_ok]
          rw [if_pos (by omega)]
          simp only [Sem.run_bind, run_setObj' _ hB (fun _ _ _ h => by cases h), Result.andThen_ok, Sem.run_pure]
          rfl
        · rename_i hle
          have hle : ¬ pos < s.size := fun h => by rw [← len_ba] at h; rw [ble_iff.2 h] at hle; cases hle
          cases e
          refine OpRes.of_pure r (by first | (simp only [execOp, ho]; done) | (simp only [execOp, ho]; rfl)) (v' := .tuple #[.bool false]) ?_ (.tuple _ _ (.cons _ _ _ _ (.bool _) .nil))
          unfold Instr.next
          simp only [hcc, Sem.run_bind, hget, Result.andThen_ok]
          rw [if_neg hle]
          rfl
      · cases e
    · cases e
  · have hx := he _ (hk _ (List.mem_cons_self ..))
    obtain ⟨e2, rfl⟩ := vEr_some e
    obtain ⟨v', k1, k2⟩ := aAssert_ok (w := w) g hx e2
    exact OpRes.of_pure r (by first | (simp only [execOp, ho]; done) | (simp only [execOp, ho]; rfl)) k1 k2
  · rename_i t i
    have hx := he _ (hk _ (List.mem_cons_self ..))
    split at e
    · rename_i vs hvs
      obtain ⟨e2, rfl⟩ := vEr_some e
      rw [hvs] at hx
      generalize hcc : evc t = cc at hx
      cases hx with
      | tuple _ as' hvv =>
        rw [nth_eq] at e2
        obtain ⟨v', q1, q2⟩ := hvv.get e2
        refine OpRes.of_pure r (by first | (simp only [execOp, ho]; done) | (simp only [execOp, ho]; rfl)) (v' := v') ?_ q2
        rw [hcc]
        unfold Instr.extract
        have q1' : as'[i]? = some v' := by simpa using q1
        simp only [q1']
        rfl
    · cases e
  · cases e
end
end Go.Ab
