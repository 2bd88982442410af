/- What is proved: a part of the soundness of the abstract machine (a run of it stands for the run of the model, whatever the tape). Conditions stand in each theorem. -/
import Derived.Test.YtnifkpljhfpdlaaGreatDoorSe
import Derived.Recover
import Derived.RangeFuncIn
set_option linter.unusedVariables false
set_option linter.unusedSimpArgs false
namespace Go.Ab
structure GoodC (E : Env) : Prop extends Good E where
  code : ∀ (f : Nat) fn c, E.P.funcs[f]? = some fn → fn.body = some c → okCode E c = true
  mixed : E.P.follows .mixedOrders = true
def okItem (E : Env) : Item → Bool
  | .code c => okCode E c
  | .inLoop b => okCode E b
  | .inScope b => okCode E b
  | _ => true
def plainItem : Item → Bool
  | .code _ | .inBlock _ | .inLoop _ | .inScope _ | .beginRound => true
  | _ => false
inductive TodoR (E : Env) (ρ : Names) : List Item → List Item → Prop
  | nil : TodoR E ρ [] []
  | same (i : Item) (l l' : List Item) (hi : okItem E i = true) (hp : plainItem i = true) (hs : TodoR E ρ l l') : TodoR E ρ (i :: l) (i :: l')
  | rf (b : Nat) (n : Nm) (l l' : List Item) (hn : ρ b = some n) (hs : TodoR E ρ l l') : TodoR E ρ (.endRangeFunc b :: l) (.endRangeFunc n.cb :: l')
inductive ChainR (ρ : Names) : List PanicEntry → List PanicEntry → Prop
  | nil : ChainR ρ [] []
  | cons (e e' : PanicEntry) (l l' : List PanicEntry) (hv : VR ρ e.v e'.v) (hr : e'.recovered = e.recovered) (hg : e'.goexit = e.goexit) (hs : ChainR ρ l l') : ChainR ρ (e :: l) (e' :: l')
def ModeR (ρ : Names) : FrameMode → FrameMode → Prop
  | .run, .run => True
  | .returning, .returning => True
  | .panicking c, .panicking c' => ChainR ρ c c'
  | _, _ => False
def RoundR (ρ : Names) : Option Nat → Option Nat → Prop
  | none, none => True
  | some l, some l' => ∃ n, ρ l = some n ∧ l' = n.cb
  | _, _ => False
structure FrR (E : Env) (ρ : Names) (fr : Fr) (c : Frame) : Prop where
  fn : c.fn = fr.fn
  sz : fr.sz = szOf E fr.fn
  tm : TR ρ fr.sz fr.tm c.tmps
  todo : c.mode = .run → TodoR E ρ fr.todo c.todo
  dfs : DefsR ρ fr.dfs c.defers
  mode : ModeR ρ fr.mode c.mode
  round : RoundR ρ fr.round c.roundOf
def GlobR (E : Env) (ρ : Names) : Prop := ∀ g, g < E.P.globals.size → ∃ n, ρ g = some n ∧ n.cb = g ∧ n.co = 0
def UR (ρ : Names) (u : Mode?) (c : Frame) (cs : List Frame) : Prop :=
  match u with
  | none => c.kind = .normal
  | some m => c.kind = .deferred ∧ ∃ c0 cs0, cs = c0 :: cs0 ∧ ModeR ρ m c0.mode
def CsR (u : Mode?) (cs cs' : List Frame) : Prop :=
  match u with
  | none => cs' = cs
  | some _ => ∃ c0 cs0 m, cs = c0 :: cs0 ∧ cs' = { c0 with mode := m } :: cs0
section
variable {E : Env} {ρ ρ' : Names}
theorem TodoR.mono (hle : ρ.le ρ') : ∀ {l l' : List Item}, TodoR E ρ l l' → TodoR E ρ' l l'
  | _, _, .nil => .nil
  | _, _, .same i l l' hi hp hs => .same i l l' hi hp (hs.mono hle)
  | _, _, .rf b n l l' hn hs => .rf b n l l' (hle _ _ hn) (hs.mono hle)
theorem ChainR.mono (hle : ρ.le ρ') : ∀ {l l' : List PanicEntry}, ChainR ρ l l' → ChainR ρ' l l'
  | _, _, .nil => .nil
  | _, _, .cons e e' l l' hv hr hg hs => .cons e e' l l' (hv.mono hle) hr hg (hs.mono hle)
theorem ChainR.append : ∀ {a a' b b' : List PanicEntry}, ChainR ρ a a' → ChainR ρ b b' → ChainR ρ (a ++ b) (a' ++ b')
  | _, _, _, _, .nil, h => h
  | _, _, _, _, .cons e e' l l' hv hr hg hs, h => .cons e e' _ _ hv hr hg (hs.append h)
theorem ModeR.mono (hle : ρ.le ρ') {m m' : FrameMode} (h : ModeR ρ m m') : ModeR ρ' m m' := by
  cases m <;> cases m' <;> simp only [ModeR] at h ⊢
  exact h.mono hle
theorem RoundR.mono (hle : ρ.le ρ') {m m' : Option Nat} (h : RoundR ρ m m') : RoundR ρ' m m' := by
  cases m <;> cases m' <;> simp only [RoundR] at h ⊢
  obtain ⟨n, h1, h2⟩ := h
  exact ⟨n, hle _ _ h1, h2⟩
theorem GlobR.mono (hle : ρ.le ρ') (h : GlobR E ρ) : GlobR E ρ' := fun g hg => let ⟨n, h1, h2, h3⟩ := h g hg; ⟨n, hle _ _ h1, h2, h3⟩
theorem UR.mono (hle : ρ.le ρ') {u : Mode?} {c : Frame} {cs : List Frame} (h : UR ρ u c cs) : UR ρ' u c cs := by
  cases u with
  | none => exact h
  | some m => obtain ⟨h1, c0, cs0, h2, h3⟩ := h; exact ⟨h1, c0, cs0, h2, h3.mono hle⟩
theorem FrR.mono (hle : ρ.le ρ') {fr : Fr} {c : Frame} (h : FrR E ρ fr c) : FrR E ρ' fr c :=
  ⟨h.fn, h.sz, h.tm.mono hle, fun hm => (h.todo hm).mono hle, h.dfs.mono hle, h.mode.mono hle, h.round.mono hle⟩
theorem CsR.refl (u : Mode?) {c : Frame} {cs : List Frame} (h : UR ρ u c cs) : CsR u cs cs := by
  cases u with
  | none => rfl
  | some m => obtain ⟨_, c0, cs0, h2, _⟩ := h; exact ⟨c0, cs0, c0.mode, h2, by rw [h2]⟩
theorem TR.eval {tm : T Value} {sz : Nat} {a : Array Value} (h : TR ρ sz tm a) (t : Nat) : VR ρ (tget tm t) (a.getD t undef) := by
  obtain ⟨h1, h2, h3⟩ := h
  by_cases ht : t < sz
  · exact h3 t ht
  · have e1 : tget tm t = undef := by
      unfold tget
      cases hg : tm.get t with
      | none => rfl
      | some v => exact absurd (h2 t v hg) ht
    have e2 : a.getD t undef = undef := by
      rw [Array.getD_eq_getD_getElem?, Array.getElem?_eq_none (by omega)]; rfl
    rw [e1, e2]
    exact .tuple _ _ .nil
theorem TR.evR {tm : T Value} {sz : Nat} {c : Frame} (h : TR ρ sz tm c.tmps) (hg : GlobR E ρ) : EvR (fun x => okO E x = true) ρ tm c.eval := by
  intro x hx
  cases x with
  | tmp t => exact h.eval t
  | const v => exact closed_VR ρ 20 v hx
  | global g =>
    obtain ⟨n, h1, h2, h3⟩ := hg g (ble_iff.1 hx)
    have := VR.ptr (ρ := ρ) g 0 n h1
    rw [h2, h3] at this
    exact this
  | func f => exact .func _ _ _ _ _ (fun l h => by cases h) .nil .nil
def putA (a : Array Value) (d : Option Nat) (v : Value) : Array Value := match d with | some d => a.setIfInBounds d v | none => a
theorem TR.put {tm tm' : T Value} {sz : Nat} {a : Array Value} (h : TR ρ sz tm a) {d : Option Nat} {v v' : Value} (hv : VR ρ v v') (e : putD sz tm d v = some tm') :
    TR ρ sz tm' (putA a d v') := by
  unfold putD at e
  unfold putA
  cases d with
  | none => cases e; exact h
  | some d =>
    simp only at e
    split at e
    · rename_i hd
      have hd := ble_iff.1 hd
      cases e
      obtain ⟨h1, h2, h3⟩ := h
      refine ⟨by simp [h1], fun t v0 ht => ?_, fun t ht => ?_⟩
      · rw [T.get_put] at ht
        split at ht
        · omega
        · exact h2 t v0 ht
      · unfold tget
        rw [T.get_put]
        simp only [Array.getD_eq_getD_getElem?, Array.getElem?_setIfInBounds]
        by_cases e : t = d
        · subst e
          rw [if_pos rfl, if_pos rfl, if_pos (by omega)]
          exact hv
        · rw [if_neg e, if_neg (Ne.symm e)]
          have := h3 t ht
          unfold tget at this
          rw [Array.getD_eq_getD_getElem?] at this
          exact this
    · cases e
end
end Go.Ab
namespace Go.Ab
def EndR (ρ : Names) (P : Program) (e : End) (c : Frame) (w : World) : Prop :=
  match e with
  | .ret v => ∃ v', VR ρ v v' ∧ c.mode = .returning ∧ c.defers = [] ∧ ∃ fn, P.funcs[c.fn]? = some fn ∧ (results fn c.tmps).run P w = .ok v' w
  | .pan ch => ∃ ch', ChainR ρ ch ch' ∧ c.mode = .panicking ch' ∧ c.defers = [] ∧ ∃ fn, P.funcs[c.fn]? = some fn
def SimF (E : Env) (callee : RunF) : Prop :=
  ∀ fr u h e u' h', callee fr u h = some (e, u', h') → fr.round = none → ∀ ρ w c cs, FrR E ρ fr c → GlobR E ρ → HR E ρ h w → UR ρ u c cs →
    ∃ ρ' w' c' cs', Steps E.P (lone c cs w) (lone c' cs' w') ∧ HR E ρ' h' w' ∧ Ev ρ h w ρ' h' w' ∧ UR ρ' u' c' cs' ∧ CsR u cs cs' ∧ (c'.kind = c.kind ∧ c'.fn = c.fn) ∧ EndR ρ' E.P e c' w'
def SimR (E : Env) (callee : RunF) : Prop :=
  ∀ fr l h e u' h', callee fr none h = some (e, u', h') → fr.round = some l → ∀ ρ w c c1 cs, FrR E ρ fr c → GlobR E ρ → HR E ρ h w → c.kind = .normal →
    ∃ ρ' w' v v', e = .ret v ∧ VR ρ' v v' ∧ HR E ρ' h' w' ∧ Ev ρ h w ρ' h' w' ∧ Steps E.P (lone c (c1 :: cs) w) (lone (c1.finish v') cs w')
def StubOk (E : Env) : Prop :=
  ∀ f args h v h', E.stub f args h = some (some (v, h')) → ∀ ρ w args', HR E ρ h w → GlobR E ρ → VRs ρ args args' →
    (∃ ρ' w' v', (callFunc f args'.toArray).run E.P w = .ok (.value v') w' ∧ HR E ρ' h' w' ∧ Ev ρ h w ρ' h' w' ∧ VR ρ' v v') ∨
    ((callFunc f args'.toArray).run E.P w = .ok (.enter f args'.toArray) w ∧
      Calls E.P f args'.toArray w fun e w' => ∃ ρ' v', e = .returned v' ∧ HR E ρ' h' w' ∧ Ev ρ h w ρ' h' w' ∧ VR ρ' v v')
section
variable {P : Program} {c1 : Frame} {cs : List Frame} {s : Sem Next} {w w' : World}
def Applies (P : Program) (c : Frame) (cs : List Frame) (w : World) (c1 : Frame) (s : Sem Next) (w1 : World) : Prop :=
  (stepG P true { frame := c, callers := cs, status := .running, dying := none } w).bare = (stepG.apply P true c1 cs none s w1).bare
theorem Applies.value {c : Frame} {w1 : World} {v : Value} (ha : Applies P c cs w c1 s w1) (h : s.run P w1 = .ok (.value v) w') : Go.step P (lone c cs w) = .next (lone (c1.finish v) cs w') :=
  step_lone_go (by rw [ha]; simp [stepG.apply, h])
theorem Applies.skip {c : Frame} {w1 : World} (ha : Applies P c cs w c1 s w1) (h : s.run P w1 = .ok .skip w') : Go.step P (lone c cs w) = .next (lone (c1.finish undef) cs w') :=
  step_lone_go (by rw [ha]; simp [stepG.apply, h])
theorem Applies.panic {c : Frame} {w1 : World} {v : Value} (ha : Applies P c cs w c1 s w1) (h : s.run P w1 = .halt (.panic v) w') : Go.step P (lone c cs w) = .next (lone (c1.raise [{ v, recovered := false }]) cs w') :=
  step_lone_go (by rw [ha]; simp [stepG.apply, h])
theorem Applies.defer {c : Frame} {w1 : World} {d : Deferred} (ha : Applies P c cs w c1 s w1) (h : s.run P w1 = .ok (.defer d) w') : Go.step P (lone c cs w) = .next (lone ({ c1 with defers := d :: c1.defers }.finish undef) cs w') :=
  step_lone_go (by rw [ha]; simp [stepG.apply, h])
def plainTodo : List Item → Prop
  | .call .. :: _ => False
  | .extern .. :: _ => False
  | _ => True
theorem Applies.enter {c : Frame} {w1 : World} {f : Nat} {args : Array Value} (ha : Applies P c cs w c1 s w1) (hp : plainTodo c1.todo) (h : s.run P w1 = .ok (.enter f args) w') :
    Go.step P (lone c cs w) = .next (lone (Frame.enter P f args .normal) (c1 :: cs) w') :=
  step_lone_go (by
    rw [ha]
    unfold plainTodo at hp
    split at hp
    · exact hp.elim
    · exact hp.elim
    · rename_i h1 h2
      simp only [stepG.apply, Sem.runT_eq, h, GStep.bare_after]
      simp only [if_true, GStep.bare_after, GStep.bare_go]
      split
      · exact absurd (by assumption) (h1 _ _ _ _ _)
      · rfl)
theorem Applies.round {c : Frame} {w1 : World} {l f : Nat} {tmps : Array Value} {a b : Code} (ha : Applies P c cs w c1 s w1) (h : s.run P w1 = .ok (.round l f tmps a b) w') :
    Go.step P (lone c cs w) = .next (lone (Frame.round l f tmps a b .normal) (c1 :: cs) w') :=
  step_lone_go (by rw [ha]; simp [stepG.apply, h])
end
section
variable {E : Env} {ρ : Names}
theorem funcs_ok (g : Good E) {f : Nat} {fn : Func} (h : E.Γ.funcs.get f = some fn) : E.P.funcs[f]? = some fn := by
  rw [g.ctx] at h
  simp only [ctxOf, T.get_ofList] at h
  simpa using h
theorem TR_args {args args' : List Value} (h : VRs ρ args args') {n : Nat} (hn : args.length ≤ n) : TR ρ n (T.ofList args) (args'.toArray ++ Array.replicate (n - args'.toArray.size) undef) := by
  have hl := h.length
  refine ⟨by simp; omega, fun t v ht => ?_, fun t _ => ?_⟩
  · rw [T.get_ofList] at ht
    have := (List.getElem?_eq_some_iff.1 ht).1
    omega
  · unfold tget
    rw [T.get_ofList, Array.getD_eq_getD_getElem?]
    cases hx : args[t]? with
    | some v =>
      obtain ⟨v', h1, h2⟩ := h.get hx
      have ht := (List.getElem?_eq_some_iff.1 h1).1
      rw [Array.getElem?_append_left (by simpa using ht)]
      have : args'.toArray[t]? = some v' := by simpa using h1
      rw [this]; exact h2
    | none =>
      have ht : args.length ≤ t := List.getElem?_eq_none_iff.1 hx
      rw [Array.getElem?_append_right (by simp; omega)]
      rw [Array.getElem?_replicate]
      have : (if t - args'.toArray.size < n - args'.toArray.size then some undef else none).getD undef = undef := by split <;> rfl
      rw [this]
      exact .tuple _ _ .nil
theorem enter_ok (g : GoodC E) {f : Nat} {args args' : List Value} {fr : Fr} (e : enter E f args = some fr) (ha : VRs ρ args args') (k : CallKind) :
    FrR E ρ fr (Frame.enter E.P f args'.toArray k) ∧ fr.round = none ∧ ∀ w, (callFunc f args'.toArray).run E.P w = .ok (.enter f args'.toArray) w := by
  unfold enter at e
  split at e
  · rename_i fn hfn
    have hf := funcs_ok g.toGood hfn
    split at e
    · rename_i c hc
      split at e
      · rename_i hname
        split at e
        · rename_i hle
          have hle := ble_iff.1 hle
          cases e
          refine ⟨⟨rfl, ?_, ?_, ?_, .nil, trivial, trivial⟩, rfl, fun w => ?_⟩
          · unfold szOf; rw [hfn]
          · have : (Frame.enter E.P f args'.toArray k).tmps = args'.toArray ++ Array.replicate (fn.ntmps - args'.toArray.size) undef := by
              unfold Frame.enter; simp only [hf]; rfl
            rw [this]
            exact TR_args ha hle
          · have : (Frame.enter E.P f args'.toArray k).todo = [.code c] := by
              unfold Frame.enter; simp only [hf]; simp [hc]
            intro _
            rw [this]
            exact .same _ _ _ (g.code f fn c hf hc) rfl .nil
          · unfold callFunc
            simp only [Sem.run_bind, show (program).run E.P w = .ok E.P w from rfl, Result.andThen_ok, hf, hname, hc, Option.isNone_some, Bool.false_eq_true, if_false, Sem.run_pure]
        · cases e
      · cases e
    · cases e
  · cases e
theorem zipPut_ok {sz : Nat} : ∀ {ts : List Nat} {args args' : List Value} {tm tm' : T Value} {a : Array Value}, TR ρ sz tm a → VRs ρ args args' → zipPut tm sz ts args = some tm' →
    ts.length = args'.length ∧ TR ρ sz tm' ((ts.zip args').foldl (fun tmps (x : Nat × Value) => tmps.setIfInBounds x.1 x.2) a) := by
  intro ts
  induction ts with
  | nil =>
    intro args args' tm tm' a h ha e
    cases ha with
    | nil => cases e; exact ⟨rfl, h⟩
    | cons => cases e
  | cons t ts ih =>
    intro args args' tm tm' a h ha e
    cases ha with
    | nil => cases e
    | cons v v' l l' hv hs =>
      simp only [zipPut] at e
      split at e
      · rename_i hle
        have := h.put (d := some t) (tm' := tm.put t (some v)) hv (by unfold putD; simp only [hle])
        obtain ⟨k1, k2⟩ := ih this hs e
        exact ⟨by simp [k1], k2⟩
      · cases e
end
section
variable {E : Env} {ρ : Names} {callee : RunF}
def CallR (P : Program) (ρ' : Names) (en : End) (c : Frame) (cs : List Frame) (w : World) (c1 : Frame) (w' : World) : Prop :=
  match en with
  | .ret v => ∃ v', VR ρ' v v' ∧ Steps P (lone c cs w) (lone (c1.finish v') cs w')
  | .pan ch => ∃ ch', ChainR ρ' ch ch' ∧ Steps P (lone c cs w) (lone (c1.raise ch') cs w')
theorem runTg_ok (g : GoodC E) (hst : StubOk E) (sF : SimF E callee) (sR : SimR E callee) {fn fn' : Fn} {captured captured' : Array Value} {args args' : List Value} {tg : Tg}
    {h h' : H} {en : End} {u' : Mode?} {w w1 : World} {c c1 : Frame} {cs : List Frame} {s : Sem Next}
    (hf : VR ρ (.func fn #[] captured) (.func fn' #[] captured')) (ha : VRs ρ args args') (ht : tgOf fn captured args = some tg) (e : runTg E callee tg none h = some (en, u', h'))
    (r : HR E ρ h w1) (hg : GlobR E ρ) (hap : Applies E.P c cs w c1 s w1) (hp : plainTodo c1.todo) (hs : s.run E.P w1 = (invoke (.fn fn' captured') args'.toArray).run E.P w1) :
    ∃ ρ' w', HR E ρ' h' w' ∧ Ev ρ h w1 ρ' h' w' ∧ CallR E.P ρ' en c cs w c1 w' := by
  unfold tgOf at ht
  split at ht
  · rename_i f
    cases ht
    have hfc : fn' = .func f ∧ VRs ρ captured.toList captured'.toList := by
      cases hf with
      | func _ _ _ _ _ _ _ hb => exact ⟨rfl, hb⟩
    obtain ⟨rfl, hcap⟩ := hfc
    have hA : VRs ρ (args ++ captured.toList) (args' ++ captured'.toList) := ha.append hcap
    have hs' : s.run E.P w1 = (callFunc f (args' ++ captured'.toList).toArray).run E.P w1 := by
      rw [hs]
      have : (args' ++ captured'.toList).toArray = args'.toArray ++ captured' := by simp
      rw [this]; rfl
    simp only [runTg] at e
    split at e
    · rename_i v h1 hstub
      cases e
      rcases hst _ _ _ _ _ hstub ρ w1 _ r hg hA with ⟨ρ', w', v', k1, k2, k3, k4⟩ | ⟨k1, k2⟩
      · exact ⟨ρ', w', k2, k3, v', k4, .one (hap.value (hs'.trans k1))⟩
      · obtain ⟨en, w', fr, ⟨ρ', v', rfl, q1, q2, q3⟩, q4, q5, q6⟩ := k2 (c1 :: cs)
        exact ⟨ρ', w', q1, q2, v', q3, .head (hap.enter hp (hs'.trans k1)) (Steps.trans q4 (.one (step_leave_returned q6)))⟩
    · cases e
    · split at e
      · rename_i fr hfr
        obtain ⟨k1, k2, k3⟩ := enter_ok g hfr hA .normal
        obtain ⟨ρ', w', c', cs', q1, q2, q3, q4, q5, q6, q7⟩ := sF fr none h en u' h' e k2 ρ w1 _ (c1 :: cs) k1 hg r rfl
        have q5 : cs' = c1 :: cs := q5
        subst q5
        have hk : c'.kind = .normal := q6.1
        have hsteps := Steps.head (hap.enter hp (hs'.trans (k3 w1))) q1
        refine ⟨ρ', w', q2, q3, ?_⟩
        cases en with
        | ret v =>
          obtain ⟨v', z1, z2, z3, z4⟩ := q7
          exact ⟨v', z1, Steps.trans hsteps (.one (step_leave_returned ⟨z2, z3, hk, z4⟩))⟩
        | pan ch =>
          obtain ⟨ch', z1, z2, z3, z4⟩ := q7
          exact ⟨ch', z1, Steps.trans hsteps (.one (step_leave_panicked ⟨z2, z3, z4⟩))⟩
      · cases e
  · rename_i l
    cases ht
    have hfc : ∃ n, ρ l = some n ∧ fn' = .yield n.cb := by
      cases hf with
      | func _ _ _ _ _ hy _ _ => exact absurd rfl (hy l)
      | yield _ n hn => exact ⟨n, hn, rfl⟩
    obtain ⟨n, hn, rfl⟩ := hfc
    simp only [runTg] at e
    split at e
    · rename_i fr hfr
      unfold roundFr at hfr
      split at hfr
      · rename_i lp hb
        simp only at hfr
        split at hfr
        · rename_i tm htm
          cases hfr
          obtain ⟨rr, k1, k2, k3, k4, k5, k6, k7, k8, k9, k10, k11, k12⟩ := r.blk _ _ _ hn hb
          rw [← k6] at htm
          obtain ⟨z1, z2⟩ := zipPut_ok k5 ha htm
          have hget := run_getObj' (P := E.P) k1 (fun _ _ _ h => by cases h)
          have hinv : (invoke (.fn (.yield n.cb) captured') args'.toArray).run E.P w1 =
              .ok (.round n.cb rr.fn ((rr.params.zip args'.toArray).foldl (fun tmps (x : Nat × Value) => tmps.setIfInBounds x.1 x.2) rr.tmps) rr.assign rr.body) w1 := by
            show (Instr.yield n.cb args'.toArray).run E.P w1 = _
            unfold Instr.yield Instr.getLoop
            simp only [Sem.run_bind, hget, Result.andThen_ok, Sem.run_pure]
            rw [if_neg (by
              have : args'.toArray.size = args'.length := by simp
              have h2 : rr.params.size = rr.params.toList.length := by simp
              rw [this, h2, z1]; simp)]
            rfl
          have hround := hap.round (hs.trans hinv)
          have hfold : (rr.params.zip args'.toArray).foldl (fun tmps (x : Nat × Value) => tmps.setIfInBounds x.1 x.2) rr.tmps = (rr.params.toList.zip args').foldl (fun tmps (x : Nat × Value) => tmps.setIfInBounds x.1 x.2) rr.tmps := by
            rw [← Array.foldl_toList, Array.toList_zip]
          obtain ⟨ρ', w', v, v', q1, q2, q3, q4, q5⟩ := sR _ l h en u' h' e rfl ρ w1 (Frame.round n.cb rr.fn ((rr.params.zip args'.toArray).foldl (fun tmps (x : Nat × Value) => tmps.setIfInBounds x.1 x.2) rr.tmps) rr.assign rr.body .normal) c1 cs
            ⟨k4, rfl, by rw [hfold]; exact z2, fun _ => by
              show TodoR E ρ [.code lp.assign, .beginRound, .code lp.body] [.code rr.assign, .beginRound, .code rr.body]
              rw [k7, k8]
              exact .same _ _ _ k10 rfl (.same _ _ _ rfl rfl (.same _ _ _ k11 rfl .nil)), .nil, trivial, ⟨n, hn, rfl⟩⟩ hg r rfl
          subst q1
          exact ⟨ρ', w', q3, q4, v', q2, .head hround q5⟩
        · cases hfr
      · cases hfr
    · cases e
  · cases ht
end
end Go.Ab
namespace Go.Ab
def DefR (ρ : Names) (d d' : Deferred) : Prop := tgtR ρ d.target d'.target ∧ VRs ρ d.args.toList d'.args.toList
def OpOut (E : Env) (ρ : Names) (h : H) (w : World) (u : Mode?) (c : Frame) (cs : List Frame) : OR → Prop
  | .val v u' h' => ∃ ρ' w' v' cs', Steps E.P (lone c cs w) (lone (c.finish v') cs' w') ∧ VR ρ' v v' ∧ HR E ρ' h' w' ∧ Ev ρ h w ρ' h' w' ∧ UR ρ' u' c cs' ∧ CsR u cs cs'
  | .dfr d h' => h' = h ∧ ∃ d', Steps E.P (lone c cs w) (lone ({ c with defers := d' :: c.defers }.finish undef) cs w) ∧ DefR ρ d d'
  | .pan ch u' h' => u' = u ∧ ∃ ρ' w' ch', Steps E.P (lone c cs w) (lone (c.raise ch') cs w') ∧ ChainR ρ' ch ch' ∧ HR E ρ' h' w' ∧ Ev ρ h w ρ' h' w'
section
variable {P : Program} {c : Frame} {cs : List Frame} {w : World}
theorem applies_op {ops : Array Oper} {i : Nat} {rest : List Nat} {k : List Item} {o : Oper} (hm : c.mode = .run) (ht : c.todo = .inRegion ops (i :: rest) :: k) (ho : ops[i]? = some o)
    (hw : Region.wanted o (yielded ops c.tmps) = true) (hr : c.roundOf = none ∨ ∀ d, o.op ≠ .defer d) : Applies P c cs w c (execOp c.eval o) w := by
  unfold Applies
  have : (stepG P true { frame := c, callers := cs, status := .running, dying := none } w) = stepG.oper P true c cs none w := by
    simp only [stepG, hm, stepG.exec, ht, ho, Option.map_some, Option.getD_some, hw, if_true]
  rw [this]
  have hop : c.oper? = some o := by unfold Frame.oper?; rw [ht]; exact ho
  unfold stepG.oper
  rw [hop]
  simp only
  rcases hr with hr | hr
  · rw [hr]
  · split
    · rename_i h1; exact absurd h1 (hr _)
    · rfl
end
section
variable {E : Env} {ρ : Names} {callee : RunF} {h : H} {w : World} {fr : Fr} {u : Mode?} {tm : T Value} {c : Frame} {cs : List Frame} {o : Oper}
theorem aBuiltin_ok (g : Good E) (r : HR E ρ h w) {b : Builtin} {cl : Call} {ty : Nat} {evc : Operand → Value} {v : Value} {h' : H} {args : List Value} (hc : cl.callee = .builtin b) (ha : VRs ρ args (cl.args.toList.map evc))
    (e : aBuiltin E b cl.argTypes.toList args h = some (.val v h')) :
    ∃ ρ' w' v', (do let d ← resolve evc cl ty; invoke d.target d.args : Sem Next).run E.P w = .ok (.value v') w' ∧ VR ρ' v v' ∧ HR E ρ' h' w' ∧ Ev ρ h w ρ' h' w' := by
  have hrun : (do let d ← resolve evc cl ty; invoke d.target d.args : Sem Next).run E.P w = (builtin b cl.argTypes ty (cl.args.map fun | .const _ => true | _ => false) (cl.args.map evc)).run E.P w := by
    unfold resolve
    rw [hc]
    rfl
  suffices key : ∃ ρ' w' v', (builtin b cl.argTypes ty (cl.args.map fun | .const _ => true | _ => false) (cl.args.map evc)).run E.P w = .ok (.value v') w' ∧ VR ρ' v v' ∧ HR E ρ' h' w' ∧ Ev ρ h w ρ' h' w' by
    obtain ⟨ρ', w', v', k1, k2⟩ := key
    exact ⟨ρ', w', v', hrun.trans k1, k2⟩
  have hmap : cl.args.map evc = (cl.args.toList.map evc).toArray := by rw [← Array.toList_map]
  rw [hmap]
  generalize (cl.args.toList.map evc) = args' at ha
  unfold aBuiltin at e
  split at e
  · rename_i s x
    cases ha with
    | cons _ s' _ _ hs ha =>
      cases ha with
      | cons _ x' _ _ hx ha =>
        cases ha
        obtain ⟨ρ', w', v', k1, k2, k3, k4⟩ := aAppend_ok (ty := ty) g r hs hx e
        refine ⟨ρ', w', v', ?_, k4, k2, k3⟩
        show (do pure (.value (← Builtin.append_ cl.argTypes ty #[s', x'])) : Sem Next).run E.P w = _
        rw [Sem.run_bind, k1]; rfl
  · rename_i x
    cases ha with
    | cons _ x' _ _ hx ha =>
      cases ha
      split at e
      · rename_i t l hts
        have h0 : cl.argTypes[0]? = some t := by rw [← Array.getElem?_toList, hts]; rfl
        split at e
        · rename_i v0 hv
          cases e
          obtain ⟨k1, k2⟩ := aLen_ok (ty := ty) g r h0 hx hv
          refine ⟨ρ, w, _, ?_, k2, r, Ev.refl _ _ _⟩
          show (do pure (.value (← Builtin.len_ cl.argTypes ty #[x'])) : Sem Next).run E.P w = _
          rw [Sem.run_bind, k1]; rfl
        · cases e
      · cases e
  · rename_i x
    cases ha with
    | cons _ x' _ _ hx ha =>
      cases ha
      split at e
      · rename_i t l hts
        have h0 : cl.argTypes[0]? = some t := by rw [← Array.getElem?_toList, hts]; rfl
        split at e
        · rename_i v0 hv
          cases e
          obtain ⟨k1, k2⟩ := aCap_ok (w := w) (ty := ty) g h0 hx hv
          refine ⟨ρ, w, _, ?_, k2, r, Ev.refl _ _ _⟩
          show (do pure (.value (← Builtin.cap_ cl.argTypes ty #[x'])) : Sem Next).run E.P w = _
          rw [Sem.run_bind, k1]; rfl
        · cases e
      · cases e
  · rename_i x
    cases ha with
    | cons _ x' _ _ hx ha =>
      cases ha
      split at e
      · rename_i t l hts
        have h0 : cl.argTypes[0]? = some t := by rw [← Array.getElem?_toList, hts]; rfl
        obtain ⟨w', v', k1, k2, k3, k4⟩ := aClear_ok (ty := ty) g r h0 hx e
        refine ⟨ρ, w', v', ?_, k2, k3, k4⟩
        show (do pure (.value (← Builtin.clear_ cl.argTypes ty #[x'])) : Sem Next).run E.P w = _
        rw [Sem.run_bind, k1]; rfl
      · cases e
  · rename_i x l
    cases ha with
    | cons _ x' _ l' hx ha =>
      split at e
      · rename_i v0 hv
        cases e
        have k := aMin_ok (P := E.P) (w := w) false hx ha hv
        obtain ⟨v', k1, k2⟩ := k
        refine ⟨ρ, w, v', ?_, k2, r, Ev.refl _ _ _⟩
        show (do pure (.value (← Builtin.min_ cl.argTypes ty (x' :: l').toArray)) : Sem Next).run E.P w = _
        rw [Sem.run_bind]
        have : (Builtin.min_ cl.argTypes ty (x' :: l').toArray).run E.P w = .ok v' w := k1
        rw [this]; rfl
      · cases e
  · rename_i x l
    cases ha with
    | cons _ x' _ l' hx ha =>
      split at e
      · rename_i v0 hv
        cases e
        have k := aMin_ok (P := E.P) (w := w) true hx ha hv
        obtain ⟨v', k1, k2⟩ := k
        refine ⟨ρ, w, v', ?_, k2, r, Ev.refl _ _ _⟩
        show (do pure (.value (← Builtin.max_ cl.argTypes ty (x' :: l').toArray)) : Sem Next).run E.P w = _
        rw [Sem.run_bind]
        have : (Builtin.max_ cl.argTypes ty (x' :: l').toArray).run E.P w = .ok v' w := k1
        rw [this]; rfl
      · cases e
  · cases e
theorem func_inv {fn : Fn} {a b : Array Value} {v : Value} (h : VR ρ (.func fn a b) v) : ∃ fn' a' b', v = .func fn' a' b' ∧ VRs ρ a.toList a'.toList ∧ VRs ρ b.toList b'.toList ∧ VR ρ (.func fn #[] b) (.func fn' #[] b') := by
  cases h with
  | func _ _ _ a' b' hf ha hb => exact ⟨fn, a', b', rfl, ha, hb, .func _ _ _ _ _ hf .nil hb⟩
  | yield l n hn => exact ⟨_, _, _, rfl, .nil, .nil, .yield _ _ hn⟩
theorem aCall_ok (g : GoodC E) (hst : StubOk E) (sF : SimF E callee) (sR : SimR E callee) {cl : Call} (ho : o.op = .call cl) {out : OR} (e : aCall E callee fr u tm cl h = some out) (r : HR E ρ h w) (hg : GlobR E ρ)
    {Q : Operand → Prop} (he : EvR Q ρ tm c.eval) (hk : okL Q (opsOf (.call cl))) (hu : UR ρ u c cs) (hrd : RoundR ρ fr.round c.roundOf) (hap : Applies E.P c cs w c (execOp c.eval o) w) (hp : plainTodo c.todo) :
    OpOut E ρ h w u c cs out := by
  have hargs : VRs ρ (evs tm cl.args.toList) (cl.args.toList.map c.eval) := evs_VRs he fun x hx => hk x (by
    unfold opsOf; exact List.mem_append_right _ hx)
  have hexec : execOp c.eval o = (do let d ← resolve c.eval cl o.type; invoke d.target d.args) := by simp only [execOp, ho]
  unfold aCall at e
  simp only at e
  split at e
  · -- recover
    rename_i hcal
    have hrun : (execOp c.eval o).run E.P w = .ok .recover w := by
      rw [hexec]; unfold resolve; rw [hcal]; rfl
    have hnil : (hro : c.roundOf = none) → (hn : tryRecover c cs = none) → Go.step E.P (lone c cs w) = .next (lone (c.finish .nilIface) cs w) := fun hro hn =>
      step_lone_go (by rw [hap]; simp [stepG.apply, hrun, hro, hn])
    split at e
    · rename_i e0 older hfr
      have hro : c.roundOf = none := by
        rw [hfr] at hrd
        cases hh : c.roundOf with
        | none => rfl
        | some l => rw [hh] at hrd; exact hrd.elim
      obtain ⟨hkind, c0, cs0, hcs, hmode⟩ := hu
      subst hcs
      cases hm0 : c0.mode with
      | run => rw [hm0] at hmode; exact hmode.elim
      | returning => rw [hm0] at hmode; exact hmode.elim
      | panicking ch =>
        have hmode0 := hmode
        rw [hm0] at hmode
        cases hmode with
        | cons _ e1 _ older' hv hrr hgg hs =>
          split at e
          · rename_i hor
            cases e
            refine ⟨ρ, w, .nilIface, c0 :: cs0, .one (hnil hro ?_), .nilIface, r, Ev.refl _ _ _, ⟨hkind, c0, cs0, rfl, hmode0⟩, ⟨c0, cs0, c0.mode, rfl, rfl⟩⟩
            unfold tryRecover
            rw [hkind]
            simp only [hm0]
            obtain ⟨v1, r1, g1⟩ := e1
            simp only at hrr hgg
            subst hrr; subst hgg
            split
            · rename_i h1
              simp only [FrameMode.panicking.injEq, List.cons.injEq, PanicEntry.mk.injEq] at h1
              obtain ⟨⟨_, h2, h3⟩, _⟩ := h1
              rw [h2, h3] at hor
              cases hor
            · rfl
          · rename_i hor
            cases e
            simp only [Bool.or_eq_false_iff] at hor
            obtain ⟨v1, r1, g1⟩ := e1
            simp only at hrr hgg hv
            rw [hor.1] at hrr
            rw [hor.2] at hgg
            subst hrr; subst hgg
            have htr : tryRecover c (c0 :: cs0) = some (v1, { c0 with mode := .panicking ({ v := v1, recovered := true } :: older') } :: cs0) := by
              unfold tryRecover
              rw [hkind]
              simp only [hm0]
            refine ⟨ρ, w, v1, { c0 with mode := .panicking ({ v := v1, recovered := true } :: older') } :: cs0, .one (step_lone_go (by rw [hap]; simp [stepG.apply, hrun, hro, htr])), hv, r, Ev.refl _ _ _,
              ⟨hkind, _, cs0, rfl, .cons _ _ _ _ hv rfl rfl hs⟩, ⟨c0, cs0, _, rfl, rfl⟩⟩
    · rename_i m0 hnot hfr
      have hro : c.roundOf = none := by
        rw [hfr] at hrd
        cases hh : c.roundOf with
        | none => rfl
        | some l => rw [hh] at hrd; exact hrd.elim
      cases e
      have hu' := hu
      obtain ⟨hkind, c0, cs0, hcs, hmode⟩ := hu
      refine ⟨ρ, w, .nilIface, cs, .one (hnil hro ?_), .nilIface, r, Ev.refl _ _ _, hu', CsR.refl _ hu'⟩
      subst hcs
      unfold tryRecover
      rw [hkind]
      simp only
      cases hm0 : c0.mode with
      | run => rfl
      | returning => rfl
      | panicking ch =>
        rw [hm0] at hmode
        cases m0 with
        | run => exact hmode.elim
        | returning => exact hmode.elim
        | panicking ch0 =>
          cases hmode with
          | nil => rfl
          | cons => exact absurd rfl (hnot _ _)
    · rename_i hfr
      have hro : c.roundOf = none := by
        rw [hfr] at hrd
        cases hh : c.roundOf with
        | none => rfl
        | some l => rw [hh] at hrd; exact hrd.elim
      cases e
      have hkind : c.kind = .normal := hu
      refine ⟨ρ, w, .nilIface, cs, .one (hnil hro ?_), .nilIface, r, Ev.refl _ _ _, hu, CsR.refl _ hu⟩
      unfold tryRecover
      rw [hkind]
    · cases e
  · -- another builtin
    rename_i b hnr hcal
    cases hb : aBuiltin E b cl.argTypes.toList (evs tm cl.args.toList) h with
    | none => rw [hb] at e; cases e
    | some er =>
      obtain ⟨v, h'⟩ := er
      rw [hb] at e
      cases e
      obtain ⟨ρ', w', v', k1, k2, k3, k4⟩ := aBuiltin_ok (ty := o.type) g.toGood r hcal hargs hb
      exact ⟨ρ', w', v', cs, .one (hap.value (by rw [hexec]; exact k1)), k2, k3, k4, hu.mono k4.le, CsR.refl u hu⟩
  · cases e
  · -- a function value
    rename_i f hcal
    split at e
    · rename_i fn first captured hf
      have hff := he f (hk f (by show f ∈ (match cl.callee with | .value f => [f] | .invoke r _ => [r] | _ => []) ++ cl.args.toList; rw [hcal]; simp))
      rw [hf] at hff
      obtain ⟨fn', first', captured', q1, q2, q3, q4⟩ := func_inv hff
      split at e
      · rename_i tg htg
        have hs : (execOp c.eval o).run E.P w = (invoke (.fn fn' captured') (first'.toList ++ cl.args.toList.map c.eval).toArray).run E.P w := by
          rw [hexec]
          unfold resolve
          rw [hcal]
          simp only [q1, Deferred.ofValue]
          have : (first'.toList ++ cl.args.toList.map c.eval).toArray = first' ++ cl.args.map c.eval := by rw [← Array.toList_map]; simp
          rw [this]; rfl
        split at e
        · rename_i v u1 h1 hrun
          cases e
          obtain ⟨ρ', w', k1, k2, v', k3, k4⟩ := runTg_ok g hst sF sR q4 (q2.append hargs) htg hrun r hg hap hp hs
          exact ⟨ρ', w', v', cs, k4, k3, k1, k2, hu.mono k2.le, CsR.refl u hu⟩
        · rename_i ch u1 h1 hrun
          cases e
          obtain ⟨ρ', w', k1, k2, ch', k3, k4⟩ := runTg_ok g hst sF sR q4 (q2.append hargs) htg hrun r hg hap hp hs
          exact ⟨rfl, ρ', w', ch', k4, k3, k1, k2⟩
        · cases e
      · cases e
    · cases e
theorem ofEr_ok {er : Option Er} {out : OR} (e : ofEr u er = some out) : ∃ v h', er = some (.val v h') ∧ out = .val v u h' := by
  cases er with
  | none => cases e
  | some x => obtain ⟨v, h'⟩ := x; cases e; exact ⟨v, h', rfl, rfl⟩
theorem aOp_ok (g : GoodC E) (hst : StubOk E) (sF : SimF E callee) (sR : SimR E callee) {out : OR} (e : aOp E callee fr u tm o.op h = some out) (r : HR E ρ h w) (hg : GlobR E ρ)
    {Q : Operand → Prop} (he : EvR Q ρ tm c.eval) (hk : okL Q (opsOf o.op)) (hu : UR ρ u c cs) (hrd : RoundR ρ fr.round c.roundOf) {ops : Array Oper} {i : Nat} {rest : List Nat} {k : List Item}
    (hm : c.mode = .run) (ht : c.todo = .inRegion ops (i :: rest) :: k) (ho : ops[i]? = some o) (hw : Region.wanted o (yielded ops c.tmps) = true) :
    OpOut E ρ h w u c cs out := by
  have hp : plainTodo c.todo := by rw [ht]; trivial
  have plain : ∀ op, o.op = op → (∀ d, op ≠ .defer d) → ofEr u (aPlain E tm op h) = some out → OpOut E ρ h w u c cs out := by
    intro op hop hnd e
    obtain ⟨v, h', e1, rfl⟩ := ofEr_ok e
    obtain ⟨ρ', w', nx, v', k1, k2, k3, k4, k5⟩ := aPlain_ok g.toGood r he hop (by rw [← hop]; exact hk) e1
    have hap := applies_op (P := E.P) (c := c) (cs := cs) (w := w) hm ht ho hw (.inr fun d => by rw [hop]; exact hnd d)
    refine ⟨ρ', w', v', cs, ?_, k5, k3, k4, hu.mono k4.le, CsR.refl u hu⟩
    rcases k2 with rfl | ⟨rfl, rfl⟩
    · exact .one (hap.value k1)
    · exact .one (hap.skip k1)
  unfold aOp at e
  split at e
  · rename_i cl hop
    exact aCall_ok g hst sF sR hop e r hg he (by rw [← hop]; exact hk) hu hrd (applies_op hm ht ho hw (.inr fun d => by rw [hop]; exact fun h => by cases h)) hp
  · rename_i cl hop
    split at e
    · rename_i hfr
      have hro : c.roundOf = none := by
        rw [hfr] at hrd
        cases hh : c.roundOf with
        | none => rfl
        | some l => rw [hh] at hrd; exact hrd.elim
      have hap := applies_op (P := E.P) (c := c) (cs := cs) (w := w) hm ht ho hw (.inl hro)
      have hk' : okL Q (opsOf (.defer cl)) := by rw [← hop]; exact hk
      have hargs : VRs ρ (evs tm cl.args.toList) (cl.args.toList.map c.eval) := evs_VRs he fun x hx => hk' x (by
        unfold opsOf; exact List.mem_append_right _ hx)
      split at e
      · rename_i f hcal
        split at e
        · rename_i fn first captured hf
          cases e
          have hff := he f (hk' f (by show f ∈ (match cl.callee with | .value f => [f] | .invoke r _ => [r] | _ => []) ++ cl.args.toList; rw [hcal]; simp))
          rw [hf] at hff
          obtain ⟨fn', first', captured', q1, q2, q3, q4⟩ := func_inv hff
          refine ⟨rfl, { target := .fn fn' captured', args := first' ++ cl.args.map c.eval }, .one (hap.defer ?_), q4, ?_⟩
          · simp only [execOp, hop, Sem.run_bind]
            unfold resolve
            rw [hcal]
            simp only [q1, Deferred.ofValue]
            rfl
          · show VRs ρ (first ++ (⟨evs tm cl.args.toList⟩ : Array Value)).toList (first' ++ cl.args.map c.eval).toList
            rw [Array.toList_append, Array.toList_append, Array.toList_map]
            exact q2.append hargs
        · cases e
      · cases e
    · cases e
  · rename_i x hop
    have hap := applies_op (P := E.P) (c := c) (cs := cs) (w := w) hm ht ho hw (.inr fun d => by rw [hop]; exact fun h => by cases h)
    split at e
    · rename_i t v hx
      cases e
      have hxx := he x (hk x (by rw [hop]; simp [opsOf]))
      rw [hx] at hxx
      generalize hcc : c.eval x = cc at hxx
      cases hxx with
      | iface _ _ v' hv =>
        refine ⟨rfl, ρ, w, [{ v := .iface t v', recovered := false }], .one (hap.panic (v := .iface t v') ?_), .cons _ _ _ _ (.iface _ _ _ hv) rfl rfl .nil, r, Ev.refl _ _ _⟩
        simp only [execOp, hop, hcc]
        unfold Instr.panic
        simp [goPanic]
    · cases e
  · rename_i h1 h2 h3
    exact plain _ rfl (fun d hd => h2 d hd) e
end
end Go.Ab
namespace Go.Ab
section
variable {E : Env} {ρ : Names}
def boolOf : Value → Option Bool
  | .bool b => some b
  | _ => none
theorem VR.isBool {v v' : Value} (h : VR ρ v v') : boolOf v' = boolOf v := by
  cases h <;> rfl
theorem yielded_eq (ops : Array Oper) (tmps : Array Value) (j : Nat) : yielded ops tmps j = (((ops[j]?).bind (·.dst)).bind (tmps[·]?)).bind boolOf := by
  unfold yielded
  generalize ((ops[j]?).bind (·.dst)).bind (tmps[·]?) = x
  cases x with
  | none => rfl
  | some v => cases v <;> rfl
theorem wanted_ok {sz : Nat} {tm : T Value} {tmps : Array Value} (h : TR ρ sz tm tmps) (ops : Array Oper) (o : Oper) : Region.wanted o (yielded ops tmps) = wantedL ops.toList tm o.guard := by
  unfold Region.wanted wantedL
  cases hg : o.guard with
  | none => rfl
  | some jw =>
    obtain ⟨j, want⟩ := jw
    simp only
    have hd : dstOf ops.toList j = (ops[j]?).bind (·.dst) := by
      unfold dstOf
      rw [nth_eq, Array.getElem?_toList]
      cases ops[j]? <;> rfl
    rw [yielded_eq, hd]
    cases hd0 : (ops[j]?).bind (·.dst) with
    | none => rfl
    | some d =>
      simp only [Option.bind_some]
      have he := h.eval d
      rw [Array.getD_eq_getD_getElem?] at he
      have hb := he.isBool
      unfold tget at hb
      cases ht : tm.get d with
      | none =>
        rw [ht] at hb
        simp only at hb
        cases hx : tmps[d]? with
        | none => rfl
        | some x =>
          rw [hx] at hb
          simp only [Option.getD_some] at hb
          simp only [Option.bind_some, hb]
          rfl
      | some v =>
        rw [ht] at hb
        simp only at hb
        have hlt := h.2.1 d v ht
        have hs : d < tmps.size := by rw [h.1]; exact hlt
        have hx : tmps[d]? = some tmps[d] := by simp [hs]
        rw [hx] at hb ⊢
        simp only [Option.getD_some] at hb
        simp only [Option.bind_some, hb]
        cases v with
        | bool b => cases b <;> cases want <;> rfl
        | _ => rfl
end
section
variable {E : Env} {ρ : Names} {callee : RunF}
structure Onw (c c' : Frame) : Prop where
  fn : c'.fn = c.fn
  kind : c'.kind = c.kind
  round : c'.roundOf = c.roundOf
theorem Onw.refl (c : Frame) : Onw c c := ⟨rfl, rfl, rfl⟩
theorem Onw.trans {a b c : Frame} (h : Onw a b) (k : Onw b c) : Onw a c := ⟨k.fn.trans h.fn, k.kind.trans h.kind, k.round.trans h.round⟩
theorem CsR.trans {ρ1 ρ2 : Names} {u u1 : Mode?} {c c1 : Frame} {cs cs1 cs2 : List Frame} (h1 : UR ρ1 u c cs) (h2 : UR ρ2 u1 c1 cs1) (hk : c1.kind = c.kind) (a : CsR u cs cs1) (b : CsR u1 cs1 cs2) : CsR u cs cs2 := by
  cases u with
  | none =>
    cases u1 with
    | none => have a : cs1 = cs := a; have b : cs2 = cs1 := b; exact b.trans a
    | some m => have h1 : c.kind = .normal := h1; have := h2.1; rw [hk, h1] at this; cases this
  | some m0 =>
    cases u1 with
    | none => have h2 : c1.kind = .normal := h2; have := h1.1; rw [← hk, h2] at this; cases this
    | some m =>
      obtain ⟨x, xs, m1, rfl, rfl⟩ := a
      obtain ⟨y, ys, m2, e1, rfl⟩ := b
      cases e1
      exact ⟨x, xs, m2, rfl, rfl⟩
theorem UR.of_kind {u : Mode?} {c c' : Frame} {cs : List Frame} (h : UR ρ u c cs) (hk : c'.kind = c.kind) : UR ρ u c' cs := by
  cases u with
  | none => exact (show c'.kind = _ from hk.trans h)
  | some m => exact ⟨hk.trans h.1, h.2⟩
def RegOut (E : Env) (ρ : Names) (h : H) (w : World) (u : Mode?) (c : Frame) (cs : List Frame) (sz : Nat) (k : List Item) : RR → Prop
  | .fin tm' dfs' u' h' => ∃ ρ' w' c' cs', Steps E.P (lone c cs w) (lone c' cs' w') ∧ Onw c c' ∧ c'.mode = .run ∧ c'.todo = k ∧ TR ρ' sz tm' c'.tmps ∧ DefsR ρ' dfs' c'.defers ∧ HR E ρ' h' w' ∧ Ev ρ h w ρ' h' w' ∧ UR ρ' u' c' cs' ∧ CsR u cs cs'
  | .pan ch tm' dfs' u' h' => ∃ ρ' w' c' cs' ch', Steps E.P (lone c cs w) (lone c' cs' w') ∧ Onw c c' ∧ c'.mode = .panicking ch' ∧ ChainR ρ' ch ch' ∧ TR ρ' sz tm' c'.tmps ∧ DefsR ρ' dfs' c'.defers ∧ HR E ρ' h' w' ∧ Ev ρ h w ρ' h' w' ∧ UR ρ' u' c' cs' ∧ CsR u cs cs'
theorem RegOut.step {ρ1 : Names} {h h1 : H} {w w1 : World} {u u1 : Mode?} {c c1 : Frame} {cs cs1 : List Frame} {sz : Nat} {k : List Item} {rr : RR} (hb : h.base ≤ h.next) (h1u : UR ρ u c cs) (hu1 : UR ρ1 u1 c1 cs1)
    (hs : Steps E.P (lone c cs w) (lone c1 cs1 w1)) (ho : Onw c c1) (he : Ev ρ h w ρ1 h1 w1) (hc : CsR u cs cs1) (out : RegOut E ρ1 h1 w1 u1 c1 cs1 sz k rr) : RegOut E ρ h w u c cs sz k rr := by
  cases rr with
  | fin tm' dfs' u' h' =>
    obtain ⟨ρ', w', c', cs', a1, a2, a3, a4, a5, a6, a7, a8, a9, a10⟩ := out
    exact ⟨ρ', w', c', cs', Steps.trans hs a1, ho.trans a2, a3, a4, a5, a6, a7, he.trans a8 hb, a9, CsR.trans h1u hu1 ho.kind hc a10⟩
  | pan ch tm' dfs' u' h' =>
    obtain ⟨ρ', w', c', cs', ch', a1, a2, a3, a4, a5, a6, a7, a8, a9, a10⟩ := out
    exact ⟨ρ', w', c', cs', ch', Steps.trans hs a1, ho.trans a2, a3, a4, a5, a6, a7, he.trans a8 hb, a9, CsR.trans h1u hu1 ho.kind hc a10⟩
theorem step_unwanted {P : Program} {c : Frame} {cs : List Frame} {w : World} {ops : Array Oper} {i : Nat} {rest : List Nat} {k : List Item} {o : Oper} (hm : c.mode = .run) (ht : c.todo = .inRegion ops (i :: rest) :: k)
    (ho : ops[i]? = some o) (hw : Region.wanted o (yielded ops c.tmps) = false) : Go.step P (lone c cs w) = .next (lone (c.finish undef) cs w) :=
  step_lone_go (by simp [stepG, hm, stepG.exec, ht, ho, hw])
theorem step_over {P : Program} {c : Frame} {cs : List Frame} {w : World} {ops : Array Oper} {k : List Item} (hm : c.mode = .run) (ht : c.todo = .inRegion ops [] :: k) :
    Go.step P (lone c cs w) = .next (lone { c with todo := k } cs w) :=
  step_lone_go (by simp [stepG, hm, stepG.exec, ht])
theorem finish_op {c : Frame} {ops : Array Oper} {i : Nat} {rest : List Nat} {k : List Item} {o : Oper} (ht : c.todo = .inRegion ops (i :: rest) :: k) (ho : ops[i]? = some o) (v : Value) :
    c.finish v = { c with tmps := putA c.tmps o.dst v, todo := .inRegion ops rest :: k } := by
  unfold Frame.finish; rw [ht]; simp only [ho, Option.bind_some]; cases o.dst <;> rfl
theorem aOps_ok (g : GoodC E) (hst : StubOk E) (sF : SimF E callee) (sR : SimR E callee) {fr : Fr} {ops : Array Oper} {k : List Item} (hops : ops.toList.all (okOper E) = true) :
    ∀ (rest : List Oper) (i : Nat) (tm : T Value) (dfs : List Deferred) (u : Mode?) (h : H) (rr : RR), ops.toList.drop i = rest → aOps E callee fr ops.toList rest tm dfs u h = some rr →
      ∀ ρ w (c : Frame) cs, c.mode = .run → c.todo = .inRegion ops (List.range' i rest.length) :: k → TR ρ fr.sz tm c.tmps → DefsR ρ dfs c.defers → GlobR E ρ → HR E ρ h w → UR ρ u c cs → RoundR ρ fr.round c.roundOf →
      RegOut E ρ h w u c cs fr.sz k rr := by
  intro rest
  induction rest with
  | nil =>
    intro i tm dfs u h rr hd e ρ w c cs hm ht htm hdf hg r hu hr
    cases e
    exact ⟨ρ, w, _, cs, .one (step_over hm ht), ⟨rfl, rfl, rfl⟩, hm, rfl, htm, hdf, r, Ev.refl _ _ _, hu.of_kind rfl, CsR.refl u hu⟩
  | cons o rest ih =>
    intro i tm dfs u h rr hd e ρ w c cs hm ht htm hdf hg r hu hr
    have ho : ops[i]? = some o := by
      have : (ops.toList.drop i)[0]? = some o := by rw [hd]; rfl
      rw [List.getElem?_drop] at this
      simpa using this
    have hd' : ops.toList.drop (i + 1) = rest := by
      rw [← List.drop_drop, hd]; rfl
    have hok : okL (fun x => okO E x = true) (opsOf o.op) := by
      have hmem : o ∈ ops.toList := List.mem_of_getElem? (by rw [Array.getElem?_toList]; exact ho)
      have := List.all_eq_true.1 hops o hmem
      exact fun x hx => List.all_eq_true.1 this x hx
    have ht' : c.todo = .inRegion ops (i :: List.range' (i + 1) rest.length) :: k := by rw [ht]; rfl
    have hw := wanted_ok htm ops o
    have next : ∀ (ρ' : Names) (v v' : Value) (tm' : T Value), VR ρ' v v' → TR ρ' fr.sz tm c.tmps → putD fr.sz tm o.dst v = some tm' → ∀ c2 : Frame, c2 = { c with tmps := putA c.tmps o.dst v', todo := .inRegion ops (List.range' (i + 1) rest.length) :: k, defers := c2.defers } →
        c2.mode = .run ∧ c2.todo = .inRegion ops (List.range' (i + 1) rest.length) :: k ∧ TR ρ' fr.sz tm' c2.tmps ∧ Onw c c2 := by
      intro ρ' v v' tm' hv htm' hp c2 hc2
      rw [hc2]
      exact ⟨hm, rfl, htm'.put hv hp, ⟨rfl, rfl, rfl⟩⟩
    simp only [aOps] at e
    split at e
    · rename_i hwl
      rw [hwl] at hw
      split at e
      · rename_i tm' hp
        have hfin := finish_op (v := undef) ht' ho
        obtain ⟨n1, n2, n3, n4⟩ := next ρ undef undef tm' (.tuple _ _ .nil) htm hp (c.finish undef) (by rw [hfin])
        have out := ih (i + 1) tm' dfs u h rr hd' e ρ w (c.finish undef) cs n1 n2 n3 (by rw [hfin]; exact hdf) hg r (hu.of_kind n4.kind) (by rw [hfin]; exact hr)
        exact out.step r.base hu (hu.of_kind n4.kind) (.one (step_unwanted hm ht' ho hw)) n4 (Ev.refl _ _ _) (CsR.refl u hu)
      · cases e
    · rename_i hwl
      rw [hwl] at hw
      split at e
      · cases e
      · rename_i v u1 h1 hop
        split at e
        · rename_i tm' hp
          obtain ⟨ρ1, w1, v', cs1, a1, a2, a3, a4, a5, a6⟩ := aOp_ok g hst sF sR hop r hg (htm.evR hg) hok hu hr hm ht' ho hw
          have hfin := finish_op (v := v') ht' ho
          obtain ⟨n1, n2, n3, n4⟩ := next ρ1 v v' tm' a2 (htm.mono a4.le) hp (c.finish v') (by rw [hfin])
          have out := ih (i + 1) tm' dfs u1 h1 rr hd' e ρ1 w1 (c.finish v') cs1 n1 n2 n3 (by rw [hfin]; exact hdf.mono a4.le) (hg.mono a4.le) a3 (a5.of_kind n4.kind) (by rw [hfin]; exact hr.mono a4.le)
          exact out.step r.base hu (a5.of_kind n4.kind) a1 n4 a4 a6
        · cases e
      · rename_i d h1 hop
        split at e
        · rename_i tm' hp
          obtain ⟨rfl, d', a1, a2⟩ := aOp_ok g hst sF sR hop r hg (htm.evR hg) hok hu hr hm ht' ho hw
          have hfin : ({ c with defers := d' :: c.defers } : Frame).finish undef = _ := finish_op (v := undef) (c := { c with defers := d' :: c.defers }) ht' ho
          obtain ⟨n1, n2, n3, n4⟩ := next ρ undef undef tm' (.tuple _ _ .nil) htm hp (({ c with defers := d' :: c.defers } : Frame).finish undef) (by rw [hfin])
          have out := ih (i + 1) tm' (d :: dfs) u h1 rr hd' e ρ w _ cs n1 n2 n3 (by rw [hfin]; exact .cons _ _ _ _ a2.1 a2.2 hdf) hg r (hu.of_kind n4.kind) (by rw [hfin]; exact hr)
          exact out.step r.base hu (hu.of_kind n4.kind) a1 n4 (Ev.refl _ _ _) (CsR.refl u hu)
        · cases e
      · rename_i ch u1 h1 hop
        cases e
        obtain ⟨rfl, ρ1, w1, ch', a1, a2, a3, a4⟩ := aOp_ok g hst sF sR hop r hg (htm.evR hg) hok hu hr hm ht' ho hw
        refine ⟨ρ1, w1, c.raise ch', cs, ch', a1, ?_, ?_, a2, ?_, ?_, a3, a4, ?_, CsR.refl _ hu⟩
        · rw [Frame.raise_mode]; exact ⟨rfl, rfl, rfl⟩
        · rw [Frame.raise_mode]; simp [raised, hm]
        · rw [Frame.raise_mode]; exact htm.mono a4.le
        · rw [Frame.raise_mode]; exact hdf.mono a4.le
        · rw [Frame.raise_mode]; exact (hu.mono a4.le).of_kind rfl
end
end Go.Ab
namespace Go.Ab
def resOf (tmps : Array Value) (x : ResultVar) : Sem Value :=
  match x with
  | .tmp t => pure (tmps.getD t undef)
  | .cell a t => do loadVar t (← asAddr (tmps.getD a undef))
def resOut (vs : Array Value) : Value := if h : vs.size = 1 then vs[0] else .tuple vs
theorem results_eq (fn : Func) (tmps : Array Value) : results fn tmps = (do let vs ← fn.results.mapM (resOf tmps); pure (resOut vs)) := rfl
section
variable {E : Env} {ρ : Names} {h : H} {w : World}
theorem resL_ok (g : Good E) (r : HR E ρ h w) {sz : Nat} {tm : T Value} {tmps : Array Value} (htm : TR ρ sz tm tmps) : ∀ {l : List ResultVar} {vs : List Value}, resL E.Γ tm h l = some vs →
    ∃ vs', (l.mapM (resOf tmps)).run E.P w = .ok vs' w ∧ VRs ρ vs vs'
  | [], vs, e => by cases e; exact ⟨[], rfl, .nil⟩
  | .tmp t :: l, vs, e => by
    simp only [resL] at e
    split at e
    · rename_i rs hr
      cases e
      obtain ⟨vs', k1, k2⟩ := resL_ok g r htm hr
      refine ⟨tmps.getD t undef :: vs', ?_, .cons _ _ _ _ (htm.eval t) k2⟩
      have k0 : (resOf tmps (.tmp t)).run E.P w = .ok (tmps.getD t undef) w := rfl
      rw [List.mapM_cons]
      simp only [Sem.run_bind, Sem.run_pure, Result.andThen_ok, k0, k1]
    · cases e
  | .cell a t :: l, vs, e => by
    simp only [resL] at e
    split at e
    · rename_i b o ti hp hti
      split at e
      · rename_i v rs hl hr
        cases e
        obtain ⟨vs', k1, k2⟩ := resL_ok g r htm hr
        have hpv := htm.eval a
        rw [hp] at hpv
        obtain ⟨_, n, hn, hcc⟩ := hpv.ptr_inv
        obtain ⟨v', q1, q2⟩ := load_ok g r hti hn hl
        refine ⟨v' :: vs', ?_, .cons _ _ _ _ q2 k2⟩
        have k0 : (resOf tmps (.cell a t)).run E.P w = .ok v' w := by
          show (do loadVar t (← asAddr (tmps.getD a undef)) : Sem Value).run E.P w = _
          rw [hcc, Sem.run_bind]
          exact q1
        rw [List.mapM_cons]
        simp only [Sem.run_bind, Sem.run_pure, Result.andThen_ok, k0, k1]
      · cases e
    · cases e
theorem results_ok (g : Good E) (r : HR E ρ h w) {sz : Nat} {tm : T Value} {tmps : Array Value} (htm : TR ρ sz tm tmps) {fn : Func} {vs : List Value} (e : resL E.Γ tm h fn.results.toList = some vs) :
    ∃ v', (results fn tmps).run E.P w = .ok v' w ∧ VR ρ (resV vs) v' := by
  obtain ⟨vs', k1, k2⟩ := resL_ok g r htm e
  have hm : (fn.results.mapM (resOf tmps)).run E.P w = .ok vs'.toArray w := by
    rw [Array.mapM_eq_mapM_toList, map_eq_pure_bind, Sem.run_bind, k1]; rfl
  refine ⟨resOut vs'.toArray, ?_, ?_⟩
  · rw [results_eq, Sem.run_bind, hm]; rfl
  · cases k2 with
    | nil => exact .tuple _ _ .nil
    | cons v v' l l' hv hs =>
      cases hs with
      | nil => exact hv
      | cons _ _ l1 l1' hv2 hs2 => exact .tuple _ _ (.cons _ _ _ _ hv (.cons _ _ _ _ hv2 hs2))
end
end Go.Ab
