/- What is proved: TotalTexts returns true at every input and leaves its arguments as they read; the tied card. Conditions: the row's own cells. -/
import Derived.Test.YtnifkpljhfpdlaaGreatDoorRun
import Derived.Test.YtnifkpljhfpdlaaGreatDoorPm
import Derived.Test.YtnifkpljhfpdlaaGreatDoorShut
import Derived.Carry
import Derived.ChangeSame
import Derived.ChangeVars
import Derived.JoinedOf
import Derived.JoinedAt
import Derived.RowKit
import Derived.RowKit3
import Derived.RowKitTokens
import Derived.Lib.SmallJoins
import Derived.Lib.LaidTab
import Derived.LaidLaws
import Derived.LaidHandle
import Derived.Lay
import Derived.MakeChecks
import Derived.HandedShaped
import Derived.SevenTiedAt
import Derived.OpenShut
import Derived.ShutString
import Derived.ChangeOld
import Derived.SizedLaws
import Derived.Stop.LaidErr
set_option linter.unusedVariables false
set_option linter.unusedSimpArgs false
namespace Go.Ab
open Go.Proofs Go.RowKit
def rho0 : Names := fun g => if g < 8 then some ⟨g, 0, 0, 0⟩ else none
theorem globals8 : Tryz.prog.globals.size = 8 := by kernel_rfl
theorem start_ok {E : Env} (hP : E.P = Tryz.prog) {w : World} (hw : 8 ≤ w.heap.size) : HR E rho0 (h0 8) w ∧ GlobR E rho0 := by
  have hinv : ∀ b n, rho0 b = some n → b < 8 ∧ n = ⟨b, 0, 0, 0⟩ := by
    intro b n h
    unfold rho0 at h
    split at h
    · cases h; exact ⟨by assumption, rfl⟩
    · cases h
  refine ⟨⟨fun b x hx => (by simp [h0, T.get] at hx), fun b cs an es rw hx => (by simp [h0, T.get] at hx), fun b n hb => ?_, fun b n x _ hx => (by simp [h0, T.get] at hx), fun b c m n x y _ _ _ hx => (by simp [h0, T.get] at hx), Nat.le_refl _, fun b hb => by cases hb⟩, fun g hg => ?_⟩
  · obtain ⟨h1, rfl⟩ := hinv b n hb
    exact ⟨h1, by show b < w.heap.size; omega⟩
  · rw [hP, globals8] at hg
    exact ⟨⟨g, 0, 0, 0⟩, by unfold rho0; rw [if_pos hg], rfl, rfl⟩
theorem calls_of {E : Env} (hP : E.P = Tryz.prog) (g : GoodC E) (hst : StubOk E) {n d f : Nat} {args args' : List Value} {v : Value} {u : Mode?} {h' : H} (hs : E.stub f args (h0 8) = none) (e : call E n d f args (h0 8) = some (.ret v, u, h'))
    (hwr : h'.wr = []) (ha : ∀ ρ, VRs ρ args args') {w : World} (hw : 8 ≤ w.heap.size) {v1 : Value} (hv : ∀ ρ v', VR ρ v v' → v' = v1) :
    Calls Tryz.prog f args'.toArray w fun e w' => e = .returned v1 ∧ Below w.heap.size w w' := by
  obtain ⟨r, hg⟩ := start_ok hP hw
  have := (call_ok g hst hs e r hg (ha _)).2
  rw [hP] at this
  refine this.mono ?_
  rintro en w' ⟨ρ', v', rfl, _, ev, hvr⟩
  rw [hv _ _ hvr]
  refine ⟨rfl, ev.out.1, ev.out.2.2, ev.out.2.1, ev.size, ?_⟩
  refine (ev.same (fun b => b < w.heap.size) (fun b n hb hor => ?_) (fun b hb => hb)).2
  rw [hwr] at hor
  rcases hor with hor | hor
  · have := (r.dom b n hb).1
    have h6 : (h0 8).base = 8 := rfl
    have h7 : (h0 8).next = 8 := rfl
    omega
  · cases hor
theorem endsTrue_inv {x : Option (Ab.End × Mode? × H)} (h : endsTrue x = true) : ∃ u h', x = some (.ret (.bool true), u, h') ∧ h'.wr = [] := by
  unfold endsTrue at h
  split at h
  · rename_i u h'
    split at h
    · rename_i hw; exact ⟨u, h', rfl, hw⟩
    · cases h
  · cases h
theorem sane_of {E : Env} (hP : E.P = Tryz.prog) (g : GoodC E) (hst : StubOk E) {n d : Nat} (hs : E.stub 6 [] (h0 8) = none) (h : endsTrue (call E n d 6 [] (h0 8)) = true) : ∀ w : World, 8 ≤ w.heap.size → Calls Tryz.prog 6 #[] w fun e w' => e = .returned (.bool true) ∧ Below w.heap.size w w' := by
  intro w hw
  obtain ⟨u, h', e, hwr⟩ := endsTrue_inv h
  exact calls_of (args' := []) hP g hst hs e hwr (fun _ => .nil) hw (fun ρ v' hv => by cases hv; rfl)
theorem sane : ∀ w : World, 8 ≤ w.heap.size → Calls Tryz.prog 6 #[] w fun e w' => e = .returned (.bool true) ∧ Below w.heap.size w w' := sane_of rfl (goodC _) stubX (by kernel_rfl) ranX
end Go.Ab
namespace Go
theorem returns_and_shaped {H : Type} {enc : TypeId × Value → H} {a : Assume} {C : Checked} {os : Os} {f : FuncId} {fn : Func} {s : ChangeSpec} {conds : List PathCond} {apart fresh handsOn again : Bool} {X : World → Array Value → Prop}
    (hX : ∀ (w w' : World) (args : Array Value), w.heap = w'.heap → X w args → X w' args)
    (own : ownKnob C.prog.godebug = none) (started : os.Started) (noInit : C.prog.inits.idxOf? f = none) (hfn : C.prog.funcs[f]? = some fn)
    (witness : ∃ (w : World) (tape : Tape) (i : Input), w.os = os ∧ (w.forCall tape i).Shaped C.prog ∧ i.vars = [] ∧ Input.okWide C.prog (w.forCall tape i) .any w.heap.size f i ∧
      ((s.pre enc C.prog fn conds apart (w.forCall tape i).memory i.args ∧ X (w.forCall tape i).memory i.args) ∧ sizedMet enc C.prog fn (OpenSpec.ofChange s) apart (w.forCall tape i).memory i.args) ∧ a.holds C.prog (lone (Frame.enter C.prog f i.args .normal) [] (w.forCall tape i)))
    (contract : ∀ (W : World) (base : Nat) (args : Array Value) (ds gs : List (DataW H)) (before : List MemPlace),
      (∀ (j : Nat) t v, fn.params[j]? = some t → args[j]? = some v → Value.okWide C.prog W .any base t v) →
      DataW.Whole enc C.prog fn.params.toList s.vars apart W args.toList ds gs before → X W args → W.ShapedOpen C.prog →
      Calls C.prog f args W fun e W' => ∃ v, e = .returned v ∧ s.post enc C.prog fn apart fresh handsOn again W args v W') :
    ReturnsInHanded a C os f .any (fun w args => (s.pre enc C.prog fn conds apart w args ∧ X w args) ∧ sizedMet enc C.prog fn (OpenSpec.ofChange s) apart w args) (s.post enc C.prog fn apart fresh handsOn again) := by
  refine returnsInHanded_of_calls own started noInit witness ?_
  intro w tape i _ hsh _ hok hpre hholds
  obtain ⟨_, _, _, fn', hfn', _, _, _, _, hval⟩ := hok
  have e : fn' = fn := Option.some.inj (hfn'.symm.trans hfn)
  subst e
  obtain ⟨⟨⟨ds, gs, before, hw, hc⟩, hx⟩, hz⟩ := hpre
  have hw' := DataW.Whole.of_heap (w' := w.forCall tape i) (by rfl) hw
  refine (contract (w.forCall tape i) w.heap.size i.args ds gs before hval hw' (hX _ _ _ (by rfl) hx) hsh).mono fun e W' ⟨v, he, hp⟩ => ?_
  subst he
  exact ChangeSpec.post_blind hp
end Go
namespace Go.Proofs.YtnifkpljhfpdlaaGreatDoor
open Go.ChangeShapes Go.WideShapes Go.ChangeAt Go.RowKit Go.Joins
open Go.ChangeMaps (open_string shut_string)
open Go.ChangeShapes (open_int)
open Go.Proofs.YtnifkpljhfpdlaaGreatDoorW.PrintWords
theorem own : ownKnob Tryz.prog.godebug = none := by kernel_rfl
theorem laidOut : laidOutB Tryz.prog = true := by kernel_rfl
theorem gT : Tryz.prog.globalNamed "internal/strconv.uint64pow10" = some 2 := by kernel_rfl
theorem gTt : (Tryz.prog.globals[2]?).map (·.type) = some 304 := by kernel_rfl
theorem gS : Tryz.prog.globalNamed "strconv.ErrSyntax" = some 0 := by kernel_rfl
theorem gSt : (Tryz.prog.globals[0]?).map (·.type) = some 79 := by kernel_rfl
theorem gR : Tryz.prog.globalNamed "strconv.ErrRange" = some 1 := by kernel_rfl
theorem gRt : (Tryz.prog.globals[1]?).map (·.type) = some 79 := by kernel_rfl
theorem cells9 : Tryz.prog.cellsOf 9 = 1 := by kernel_rfl
theorem cells310 : Tryz.prog.cellsOf 310 = 1 := by kernel_rfl
theorem cells224 : Tryz.prog.cellsOf 224 = 1 := by kernel_rfl
theorem cells304 : Tryz.prog.cellsOf 304 = 20 := by kernel_rfl
theorem star : "*" ++ "errors.errorString" = "*errors.errorString" := by decide
theorem row308 (u : TypeId) (h : Tryz.prog.typeName? 3 u = some "*errors.errorString") : u = 308 :=
  typeName_ptr_named (nm := "errors.errorString") (by rw [star]; kernel_rfl) (by kernel_rfl) (by decide) u (by rw [star]; exact h)
theorem globals8 : Tryz.prog.globals.size = 8 := by kernel_rfl
theorem size_of_laid {W : World} (h : laidMet Tryz.prog Rows.totalTextsRow.laid W) : 8 ≤ W.heap.size := by
  obtain ⟨ps, hv, _⟩ := h
  obtain ⟨g0, t0, cs0, f0, p0, q0, hg0, ht0, hvar0, _, hrest, _⟩ := hv
  obtain ⟨g1, t1, cs1, f1, p1, q1, hg1, ht1, hvar1, _, hrest1, _⟩ := hrest
  have k0 : Tryz.prog.globalNamed "math/bits.deBruijn32tab" = some 6 := by kernel_rfl
  have k1 : Tryz.prog.globalNamed "math/bits.deBruijn64tab" = some 7 := by kernel_rfl
  unfold World.var? at hvar1
  rw [k1] at hvar1
  simp only [Option.bind_some] at hvar1
  cases hx : W.heap[7]? with
  | none => rw [hx] at hvar1; cases hvar1
  | some o => have := (Array.getElem?_eq_some_iff.1 hx).1; omega
theorem env_of {W : World} (h : laidMet Tryz.prog Rows.totalTextsRow.laid W) (hs : W.ShapedOpen Tryz.prog) : Tt.P.Env W := by
  have h2 := (laidMet.tail (laidMet.tail h))
  have h4 := (laidMet.tail (laidMet.tail h2))
  obtain ⟨a1, s1, hv1, _⟩ := laid_sentinel h4 gR gRt Tryz.underlying79 row308 Tryz.underlying308 Tryz.underlying310 rfl rfl Tryz.underlying9 cells310 cells9
  obtain ⟨a2, s2, hv2, _⟩ := laid_sentinel (laidMet.tail h4) gS gSt Tryz.underlying79 row308 Tryz.underlying308 Tryz.underlying310 rfl rfl Tryz.underlying9 cells310 cells9
  exact ⟨Lib.tabIs_of_head (k := .u64) (zs := Lib.pow10Tab) gT gTt Tryz.underlying304 Tryz.underlying224 cells224 cells304 h2, Tryz.laysSplit.s1_3 W hs, ⟨_, _, hv2⟩, ⟨_, _, hv1⟩⟩
set_option maxRecDepth 100000 in
theorem open_arg {H : Type} {enc : TypeId × Value → H} {W : World} {base : Nat} {r : Reach} {v : Value} {d : DataW H} {ps : List MemPlace} (hval : Value.okWide Tryz.prog W r base 26 v) (h : DataW.Trod enc Tryz.prog W 0 (fun _ => true) true 26 v d ps) :
    ∃ (k s lo hi : Int) (A : Option Addr) (c : Nat) (ar : List Go.Tt.Pt), v = .agg #[.int .i64 k, .int .i64 s, .slice A ar.length c, .int .i64 lo, .int .i64 hi] ∧ ar.length ≤ c ∧ Kd.C Tt.P.kP W A ar.length ar := by
  unfold Value.okWide at hval
  rw [Tryz.underlying26] at hval
  obtain ⟨cs, rfl, hn, _⟩ := hval
  obtain ⟨fuel, h⟩ := h
  obtain ⟨k, s, lo, hi, A, c, ar, e, h1, h2⟩ := Tt.P.open_fig h
  have e' : cs = #[.int .i64 k, .int .i64 s, .slice A ar.length c, .int .i64 lo, .int .i64 hi] := by
    have : cs.toList = [.int .i64 k, .int .i64 s, .slice A ar.length c, .int .i64 lo, .int .i64 hi] := e
    cases cs; simp_all
  subst e'
  exact ⟨k, s, lo, hi, A, c, ar, rfl, h1, h2⟩
set_option maxRecDepth 100000 in
theorem open_days {H : Type} {enc : TypeId × Value → H} {W : World} {base : Nat} {r : Reach} {v : Value} {d : DataW H} {ps : List MemPlace} (hval : Value.okWide Tryz.prog W r base 24 v) (h : DataW.Trod enc Tryz.prog W 0 (fun _ => true) true 24 v d ps) :
    ∃ lo hi : Int, v = .agg #[.int .i64 lo, .int .i64 hi] := by
  unfold Value.okWide at hval
  rw [Tryz.underlying24] at hval
  obtain ⟨cs, rfl, hn, _⟩ := hval
  obtain ⟨fuel, h⟩ := h
  obtain ⟨lo, hi, e⟩ := Tt.P.open_span h
  have e' : cs = #[.int .i64 lo, .int .i64 hi] := by
    have : cs.toList = [.int .i64 lo, .int .i64 hi] := e
    cases cs; simp_all
  subst e'
  exact ⟨lo, hi, rfl⟩
set_option maxRecDepth 100000 in
theorem lifted (os : Os) (started : os.Started) (H : Type) (enc : TypeId × Value → H) :
    ReturnsInHanded {} Tryz.checked os 4 .any (fun w args => (Rows.totalTextsSpec.pre enc Tryz.prog Tryz.f4 [] false w args ∧ laidMetH Tryz.prog Rows.totalTextsRow.laid w) ∧ sizedMet enc Tryz.prog Tryz.f4 (OpenSpec.ofChange Rows.totalTextsSpec) false w args)
      (Rows.totalTextsSpec.post enc Tryz.prog Tryz.f4 false true false false) := by
  refine returns_and_shaped (C := Tryz.checked) (X := fun w _ => laidMetH Tryz.prog Rows.totalTextsRow.laid w) (fun _ _ _ hh h => h.of_heap hh) own started (by kernel_rfl) Tryz.func4
    (ChangeSpec.witness_shaped (enc := enc) (C := Tryz.checked) (os := os) (X := fun w _ => laidMetH Tryz.prog Rows.totalTextsRow.laid w) false (World.laidAll Tryz.prog os Rows.totalTextsRow.laid) #[.int .i64 0, .int .i64 0, .agg #[.int .i64 0, .int .i64 0], .agg #[.int .i64 0, .int .i64 0, .slice none 0 0, .int .i64 0, .int .i64 0], .string ⟨#[]⟩] 8 (World.laidAll_os _ _ _)
      (World.shaped_of_ZipB (by kernel_rfl) (by kernel_rfl)) (by kernel_rfl) (by kernel_rfl) (by kernel_rfl)
      (by rw [MakeChecks.laidMetH_plain _ _ _ (by kernel_rfl)]; exact laidMet_laidAll _ (by kernel_rfl) (by kernel_rfl))) ?_
  intro W base args ds gs before hval0 hW hL hsh
  have hval : ∀ (j : Nat) t v, Tryz.f4.params[j]? = some t → args[j]? = some v → Value.okWide Tryz.prog W .any base t v := hval0
  have hW' := hW
  obtain ⟨p, q, hA0, hV, rfl, _, _⟩ := hW
  have hA : DataW.TrodAll enc Tryz.prog W 0 (fun _ => true) true Tryz.f4.params.toList args.toList ds p := hA0
  rw [Tryz.params4] at hA hval
  obtain ⟨v0, vs0, d0, ds0, p0, q0, hargs, rfl, rfl, h0, r0⟩ := trodAll_cons hA
  obtain ⟨v1, vs1, d1, ds1, p1, q1, rfl, rfl, rfl, h1, r1⟩ := trodAll_cons r0
  obtain ⟨v2, vs2, d2, ds2, p2, q2, rfl, rfl, rfl, h2, r2⟩ := trodAll_cons r1
  obtain ⟨v3, vs3, d3, ds3, p3, q3, rfl, rfl, rfl, h3, r3⟩ := trodAll_cons r2
  obtain ⟨v4, vs4, d4, ds4, p4, q4, rfl, rfl, rfl, h4, r4⟩ := trodAll_cons r3
  obtain ⟨rfl, rfl, rfl⟩ := trodAll_nil r4
  obtain rfl : args = #[v0, v1, v2, v3, v4] := by cases args; simp_all
  obtain ⟨rfl, rfl⟩ := trodVars_none hV
  have hlt : ∀ x ∈ p0 ++ (p1 ++ (p2 ++ (p3 ++ (p4 ++ [])))), x.block < W.heap.size := fun x hx => by simpa using hW'.lt x (by simpa using hx)
  obtain ⟨m0, rfl, hd0, hp0, hz0⟩ := open_int Tryz.underlying3 (hval 0 3 v0 rfl rfl) h0
  obtain ⟨m1, rfl, hd1, hp1, hz1⟩ := open_int Tryz.underlying3 (hval 1 3 v1 rfl rfl) h1
  obtain ⟨y0, y1, rfl⟩ := open_days (hval 2 24 v2 rfl rfl) h2
  obtain ⟨k, s, lo, hi, A, c, ar, rfl, hc, hC⟩ := open_arg (hval 3 26 v3 rfl rfl) h3
  obtain ⟨t1, rfl, hd4, hp4, hz4⟩ := open_string Tryz.underlying9 (hval 4 9 v4 rfl rfl) h4
  clear hA0 hval0
  rw [MakeChecks.laidMetH_plain _ _ _ (by kernel_rfl)] at hL
  have hsz := size_of_laid hL
  refine (Tt.P.law4_calls Go.Ab.sane (env_of hL hsh) hC hc hsz).mono fun e W' ⟨he, bel⟩ => ?_
  subst he
  have kp : ∀ {t : TypeId} {v : Value} {d : DataW H} {ps : List MemPlace}, Tryz.prog.readableRec t = true → t < Tryz.prog.types.size → DataW.Trod enc Tryz.prog W 0 (fun _ => true) true t v d ps → (∀ x ∈ ps, x.block < W.heap.size) → DataW.Trod enc Tryz.prog W' 0 (fun b => decide (b < W.heap.size)) true t v d ps := fun hr hs h hl => Below.trod laidOut hr hs h bel hl
  exact ⟨_, rfl, _, _, _, [], _, [], hW', trodAll_mk1 (shut_bool Tryz.underlying4 _),
    trodAll_cons_mk (kp (by kernel_rfl) (of_decide_eq_true (by kernel_rfl)) h0 fun x hx => hlt x (by simp [hx])) (trodAll_cons_mk (kp (by kernel_rfl) (of_decide_eq_true (by kernel_rfl)) h1 fun x hx => hlt x (by simp [hx])) (trodAll_cons_mk (kp (by kernel_rfl) (of_decide_eq_true (by kernel_rfl)) h2 fun x hx => hlt x (by simp [hx])) (trodAll_cons_mk (kp (by kernel_rfl) (of_decide_eq_true (by kernel_rfl)) h3 fun x hx => hlt x (by simp [hx])) (trodAll_cons_mk (kp (by kernel_rfl) (of_decide_eq_true (by kernel_rfl)) h4 fun x hx => hlt x (by simp [hx])) trodAll_mk0)))),
    rfl, bel.frame _, fun h => by cases h⟩
theorem said : Rows.TotalTextsSaid :=
  OpenClaim.holds_of_wide 4 Tryz.f4 rfl rfl rfl rfl rfl rfl rfl ⟨rfl, rfl, rfl, rfl, rfl⟩ rfl rfl rfl rfl rfl named Tryz.func4 closed inst wrap
    (fun os started H enc _ => lifted os started H enc)
theorem totalTexts_holds : Rows.TotalTextsCardSaid :=
  Claim7.holds_tied_plain_at .later [] [.data, .data, .data, .data, .sentinel, .sentinel, .pinned] true (true, "fa3c7dc565851a8464d8e603006aaf76192b1fc663709e091ee1cd96e0fb009a") true said (fun _ h => by cases h) wfText (fun _ h => by cases h) totalTexts_row_tie rfl ⟨rfl, rfl⟩ mainIs rfl
    (fun f fn hf hfn => by
      obtain rfl : f = 4 := Option.some.inj (named.symm.trans hf) |>.symm
      obtain rfl : fn = Tryz.f4 := (Option.some.inj (Tryz.func4.symm.trans hfn)).symm
      exact ⟨looks, fun j t ht => by
        rw [Tryz.params4] at ht
        have hm : t ∈ [3, 3, 24, 26, 9] := by simpa using Array.mem_of_getElem? ht
        simp only [List.mem_cons, List.mem_nil_iff, or_false] at hm
        rcases hm with rfl | rfl | rfl | rfl | rfl
        · exact wants3
        · exact wants3
        · exact wants24
        · exact wants26
        · exact wants9⟩)
    goesBy
end Go.Proofs.YtnifkpljhfpdlaaGreatDoor
