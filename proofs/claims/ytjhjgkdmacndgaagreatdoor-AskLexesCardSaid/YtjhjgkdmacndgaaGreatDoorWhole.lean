/- What is proved: AskLexes returns true at every input and leaves its argument as it reads; the tied card. Conditions: the row's own cells. -/
import Derived.Test.YtjhjgkdmacndgaaGreatDoorRun
import Derived.Test.YtjhjgkdmacndgaaGreatDoorPure
import Derived.Test.YtjhjgkdmacndgaaGreatDoorShut
import Derived.ChangeSame
import Derived.ChangeVars
import Derived.JoinedOf
import Derived.JoinedAt
import Derived.RowKit
import Derived.RowKit3
import Derived.RowKitTokens
import Derived.Lib.SmallJoins
import Derived.LaidLaws
import Derived.LaidHandle
import Derived.Lay
import Derived.MakeChecks
import Derived.HandedShaped
import Derived.SevenTiedAt
import Derived.OpenShut
import Derived.ShutString
import Derived.ChangeOld
import Derived.SizedLaws
set_option linter.unusedVariables false
set_option linter.unusedSimpArgs false
namespace Go.Ab
open Go.Proofs Go.RowKit
/-- names of the globals alone -/
def rho0 : Names := fun g => if g < 6 then some ⟨g, 0, 0, 0⟩ else none
theorem globals6 : Tryz.prog.globals.size = 6 := by kernel_rfl
theorem start_ok {E : Env} (hP : E.P = Tryz.prog) {w : World} (hw : 6 ≤ w.heap.size) : HR E rho0 (h0 6) w ∧ GlobR E rho0 := by
  have hinv : ∀ b n, rho0 b = some n → b < 6 ∧ n = ⟨b, 0, 0, 0⟩ := by
    intro b n h
    unfold rho0 at h
    split at h
    · cases h; exact ⟨by assumption, rfl⟩
    · cases h
  refine ⟨⟨fun b x hx => (by simp [h0, T.get] at hx), fun b cs an es rw hx => (by simp [h0, T.get] at hx), fun b n hb => ?_, fun b n x _ hx => (by simp [h0, T.get] at hx), fun b c m n x y _ _ _ hx => (by simp [h0, T.get] at hx), Nat.le_refl _, fun b hb => by cases hb⟩, fun g hg => ?_⟩
  · obtain ⟨h1, rfl⟩ := hinv b n hb
    exact ⟨h1, by show b < w.heap.size; omega⟩
  · rw [hP, globals6] at hg
    exact ⟨⟨g, 0, 0, 0⟩, by unfold rho0; rw [if_pos hg], rfl, rfl⟩
/-- a call that names no memory -/
theorem calls_of {E : Env} (hP : E.P = Tryz.prog) (g : GoodC E) (hst : StubOk E) {n d f : Nat} {args args' : List Value} {v : Value} {u : Mode?} {h' : H} (hs : E.stub f args (h0 6) = none) (e : call E n d f args (h0 6) = some (.ret v, u, h'))
    (hwr : h'.wr = []) (ha : ∀ ρ, VRs ρ args args') {w : World} (hw : 6 ≤ w.heap.size) {v1 : Value} (hv : ∀ ρ v', VR ρ v v' → v' = v1) :
    Calls Tryz.prog f args'.toArray w fun e w' => e = .returned v1 ∧ Below w.heap.size w w' := by
  obtain ⟨r, hg⟩ := start_ok hP hw
  have := (call_ok g hst hs e r hg (ha _)).2
  rw [hP] at this
  refine this.mono ?_
  rintro en w' ⟨ρ', v', rfl, _, ev, hvr⟩
  rw [hv _ _ hvr]
  refine ⟨rfl, ev.out.1, ev.out.2.2, ev.out.2.1, ev.size, ?_⟩
  refine (ev.same (fun b => b < w.heap.size) (fun b n hb hor => ?_) (fun b hb => hb)).2
  rw [hwr] at hor
  rcases hor with hor | hor
  · have := (r.dom b n hb).1
    have h6 : (h0 6).base = 6 := rfl
    have h7 : (h0 6).next = 6 := rfl
    omega
  · cases hor
theorem endsTrue_inv {x : Option (Ab.End × Mode? × H)} (h : endsTrue x = true) : ∃ u h', x = some (.ret (.bool true), u, h') ∧ h'.wr = [] := by
  unfold endsTrue at h
  split at h
  · rename_i u h'
    split at h
    · rename_i hw; exact ⟨u, h', rfl, hw⟩
    · cases h
  · cases h
theorem sane_of {E : Env} (hP : E.P = Tryz.prog) (g : GoodC E) (hst : StubOk E) {n d : Nat} (hs : E.stub 4 [] (h0 6) = none) (h : endsTrue (call E n d 4 [] (h0 6)) = true) : YtjhjgkdmacndgaaGreatDoor.PLx.Sane := by
  intro w hw
  obtain ⟨u, h', e, hwr⟩ := endsTrue_inv h
  exact calls_of (args' := []) hP g hst hs e hwr (fun _ => .nil) hw (fun ρ v' hv => by cases hv; rfl)
theorem sane : YtjhjgkdmacndgaaGreatDoor.PLx.Sane := sane_of rfl (goodC _) stubX (by kernel_rfl) ranX
end Go.Ab
namespace Go.Proofs.YtjhjgkdmacndgaaGreatDoor
open Go.ChangeShapes Go.WideShapes Go.ChangeAt Go.RowKit Go.Joins
open Go.ChangeMaps (open_string shut_string)
theorem own : ownKnob Tryz.prog.godebug = none := by kernel_rfl
theorem globTab : Tryz.prog.globalNamed "math/bits.deBruijn64tab" = some 5 := by kernel_rfl
theorem size_of_laid {W : World} (h : laidMet Tryz.prog Rows.askLexesRow.laid W) : 6 ≤ W.heap.size := by
  obtain ⟨ps, hv, _⟩ := h
  obtain ⟨_, _, _, _, _, _, _, _, _, _, hrest, _⟩ := hv
  obtain ⟨_, _, cs, _, _, _, _, _, hvar, _⟩ := hrest
  have hc := World.var?_cell globTab hvar
  unfold World.var? at hvar
  rw [globTab] at hvar
  simp only [Option.bind_some] at hvar
  cases hx : W.heap[5]? with
  | none => rw [hx] at hvar; cases hvar
  | some o => have := (Array.getElem?_eq_some_iff.1 hx).1; omega
set_option maxRecDepth 100000 in
theorem lifted (os : Os) (started : os.Started) (H : Type) (enc : TypeId × Value → H) :
    ReturnsInHanded {} Tryz.checked os 3 .any (fun w args => (Rows.askLexesSpec.pre enc Tryz.prog Tryz.f3 [] false w args ∧ laidMetH Tryz.prog Rows.askLexesRow.laid w) ∧ sizedMet enc Tryz.prog Tryz.f3 (OpenSpec.ofChange Rows.askLexesSpec) false w args)
      (Rows.askLexesSpec.post enc Tryz.prog Tryz.f3 false true false false) := by
  refine returnsInHanded_of_change_and (C := Tryz.checked) (X := fun w _ => laidMetH Tryz.prog Rows.askLexesRow.laid w) (fun _ _ _ hh h => h.of_heap hh) own started (by kernel_rfl) Tryz.func3
    (ChangeSpec.witness_shaped (enc := enc) (C := Tryz.checked) (os := os) (X := fun w _ => laidMetH Tryz.prog Rows.askLexesRow.laid w) false (World.laidAll Tryz.prog os Rows.askLexesRow.laid) #[.string ByteArray.empty] 8 (World.laidAll_os _ _ _)
      (World.shaped_of_ZipB (by kernel_rfl) (by kernel_rfl)) (by kernel_rfl) (by kernel_rfl) (by kernel_rfl)
      (by rw [MakeChecks.laidMetH_plain _ _ _ (by kernel_rfl)]; exact laidMet_laidAll _ (by kernel_rfl) (by kernel_rfl))) ?_
  intro W base args ds gs before hval0 hW hcnd hsz0 hL _
  have hsz : (DataW.weightsEach Tryz.prog (Tryz.f3.params.toList ++ Rows.askLexesSpec.plain.varTypes Tryz.prog) (ds ++ gs)).all (· ≤ reachBytes) = true := hsz0
  have hval : ∀ (j : Nat) t v, Tryz.f3.params[j]? = some t → args[j]? = some v → Value.okWide Tryz.prog W .any base t v := hval0
  have hW' := hW
  obtain ⟨p, q, hA0, hV, rfl, _, _⟩ := hW
  have hA : DataW.TrodAll enc Tryz.prog W 0 (fun _ => true) true Tryz.f3.params.toList args.toList ds p := hA0
  rw [Tryz.params3] at hA hval hsz
  obtain ⟨v0, vs0, d0, ds0, p0, q0, hargs, rfl, rfl, h0, r0⟩ := trodAll_cons hA
  obtain ⟨rfl, rfl, rfl⟩ := trodAll_nil r0
  obtain rfl : args = #[v0] := by cases args; simp_all
  obtain ⟨rfl, rfl⟩ := trodVars_none hV
  obtain ⟨a0, rfl, rfl, rfl, y0⟩ := open_string Tryz.underlying9 (hval 0 9 v0 rfl rfl) h0
  have w0 : a0.size ≤ 140737488351232 := by
    have z := sized_string hsz (j := 0) (t := 9) rfl rfl
    rw [Array.length_toList] at z
    exact z
  clear hA0 hval0 hsz0 hsz
  rw [MakeChecks.laidMetH_plain _ _ _ (by kernel_rfl)] at hL
  have hsz := size_of_laid hL
  refine (PLx.udometerlaw10_AskLexes.walk Go.Ab.sane Pure.AskLexes a0 W hsz w0).mono fun e W' ⟨he, bel⟩ => ?_
  subst he
  exact ⟨_, rfl, _, _, _, [], _, [], hW', trodAll_mk1 (shut_bool Tryz.underlying4 _), (trodAll_cons_mk (shut_string Tryz.underlying9 y0) trodAll_mk0), rfl, bel.frame _, fun h => by cases h⟩
theorem said : Rows.AskLexesSaid :=
  OpenClaim.holds_of_wide 3 Tryz.f3 rfl rfl rfl rfl rfl rfl rfl ⟨rfl, rfl, rfl, rfl, rfl⟩ rfl rfl rfl rfl rfl named Tryz.func3 closed inst wrap
    (fun os started H enc _ => lifted os started H enc)
theorem askLexes_holds : Rows.AskLexesCardSaid :=
  Claim7.holds_tied_plain_at .later [] [.data, .data, .data, .data, .pinned] true (true, "52d6ec525ff360f66f36673e960c3be5d0891813c8e1ce9fb19b3b0679283973") true said (fun _ h => by cases h) wfText (fun _ h => by cases h) askLexes_row_tie rfl ⟨rfl, rfl⟩ mainIs rfl
    (fun f fn hf hfn => by
      obtain rfl : f = 3 := Option.some.inj (named.symm.trans hf) |>.symm
      obtain rfl : fn = Tryz.f3 := (Option.some.inj (Tryz.func3.symm.trans hfn)).symm
      exact ⟨looks, fun j t ht => by
        rw [Tryz.params3] at ht
        have hm : t ∈ [9] := by simpa using Array.mem_of_getElem? ht
        simp only [List.mem_cons, List.mem_nil_iff, or_false] at hm
        subst hm
        exact wants9⟩)
    goesBy
end Go.Proofs.YtjhjgkdmacndgaaGreatDoor
