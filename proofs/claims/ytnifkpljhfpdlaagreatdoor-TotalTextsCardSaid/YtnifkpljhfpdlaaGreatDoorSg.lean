/- What is proved: a part of the soundness of the abstract machine (a run of it stands for the run of the model, whatever the tape). Conditions stand in each theorem. -/
import Derived.Test.YtnifkpljhfpdlaaGreatDoorSf
import Derived.AtR
set_option linter.unusedVariables false
set_option linter.unusedSimpArgs false
namespace Go.Ab
structure Inv (E:Env) (ρ:Names) (s:St) (c:Frame) (cs:List Frame) (w:World):Prop where
 fr:FrR E ρ s.fr c
 glob:GlobR E ρ
 hr:HR E ρ s.h w
 ur:UR ρ s.u c cs
def StepOut (E:Env) (ρ:Names) (s:St) (c:Frame) (cs:List Frame) (w:World):SR→Prop
 | .next s' => ∃ ρ' w' c' cs',Steps E.P (lone c cs w) (lone c' cs' w')∧Inv E ρ' s' c' cs' w'∧Ev ρ s.h w ρ' s'.h w'∧Onw c c'∧CsR s.u cs cs'∧s'.fr.round=s.fr.round
 | .fin e u' h' => match s.fr.round with
  | none => ∃ ρ' w' c' cs',Steps E.P (lone c cs w) (lone c' cs' w')∧HR E ρ' h' w'∧Ev ρ s.h w ρ' h' w'∧UR ρ' u' c' cs'∧CsR s.u cs cs'∧(c'.kind=c.kind∧c'.fn=c.fn)∧EndR ρ' E.P e c' w'
  | some _ => s.u=none→∀ c1 cs1,cs=c1 :: cs1→∃ ρ' w' v v',e=.ret v∧VR ρ' v v'∧HR E ρ' h' w'∧Ev ρ s.h w ρ' h' w'∧Steps E.P (lone c cs w) (lone (c1.finish v') cs1 w')
 | .bad _ => True
section
variable {E:Env} {ρ:Names} {w:World} {c:Frame} {cs:List Frame} {fr:Fr} {u:Mode?} {h:H}
theorem atR_eq (hm:c.mode=.run) (t:List Item):c.atR ⟨c.tmps,c.defers⟩ t={ c with todo:=t }:=by cases c;simp only [Frame.atR] at hm ⊢;simp [hm]
theorem eq_todo {t:List Item} (ht:c.todo=t):c={ c with todo:=t }:=by cases c;simp only at ht ⊢;rw [ht]
theorem TodoR.code_inv {x:Code} {k t:List Item} (h:TodoR E ρ (.code x :: k) t):∃ k',t=.code x :: k'∧okCode E x=true∧TodoR E ρ k k':=by
 cases h with
 | same _ _ l' hi hp hs => exact ⟨l',rfl,hi,hs⟩
theorem exitTo_ok (id:Nat):∀ {k t:List Item},TodoR E ρ k t→(∀ k',exitTo id k=some k'→∃ t',exitTo id t=some t'∧TodoR E ρ k' t')∧(exitTo id k=none→exitTo id t=none)
 | _,_,.nil => ⟨fun k' e => (by cases e),fun _ => rfl⟩
 | _,_,.rf b n l l' hn hs => by have:=exitTo_ok id hs;exact ⟨fun k' e => this.1 k' e,fun e => this.2 e⟩
 | _,_,.same i l l' hi hp hs => by
  have:=exitTo_ok id hs;cases i with
  | inBlock id' =>
   simp only [exitTo];split
   ·exact ⟨fun k' e => (by cases e;exact ⟨l',rfl,hs⟩),fun e => (by cases e)⟩
   ·exact this
  | _ => exact this
theorem goTo (hi:Inv E ρ ⟨fr,u,h⟩ c cs w) (hm:c.mode=.run) {t t':List Item} (hs:Go.step E.P (lone c cs w)=.next (lone { c with todo:=t' } cs w)) (ht:TodoR E ρ t t') :
 StepOut E ρ ⟨fr,u,h⟩ c cs w (.next ⟨{ fr with todo:=t },u,h⟩) :=
 ⟨ρ,w,_,cs,.one hs,⟨⟨hi.fr.fn,hi.fr.sz,hi.fr.tm,fun _ => ht,hi.fr.dfs,hi.fr.mode,hi.fr.round⟩,hi.glob,hi.hr,hi.ur.of_kind rfl⟩,Ev.refl _ _ _,⟨rfl,rfl,rfl⟩,CsR.refl u hi.ur,rfl⟩
theorem run_getLoop {P:Program} {l:Nat} {r:Loop} (h:w.heap[l]?=some (.loop r)):(Instr.getLoop l).run P w=.ok r w:=by unfold Instr.getLoop;rw [Sem.run_bind,run_getObj' h (fun _ _ _ e => by cases e)];rfl
theorem leave_ok (hi:Inv E ρ ⟨fr,u,h⟩ c cs w) (hm:c.mode=.run) {jump:Option Code} {k:List Item} (hj:(jump=none∧c.todo=[]) ∨ (jump=some .ret∧c.todo=.code .ret :: k) ∨ ∃ id,jump=some (.exit id)∧c.todo=.code (.exit id) :: k∧exitTo id k=none) :
 StepOut E ρ ⟨fr,u,h⟩ c cs w (leave fr u h jump):=by
 unfold leave;have hrd:=hi.fr.round;cases hfr:fr.round with
 | none =>
  have hro:c.roundOf=none:=by
   show c.roundOf=none;have hrd':RoundR ρ fr.round c.roundOf:=hrd;rw [hfr] at hrd';cases hh:c.roundOf with
   | none => rfl
   | some l => rw [hh] at hrd';exact hrd'.elim
  have fin:Go.step E.P (lone c cs w)=.next (lone { c with mode:=.returning } cs w)→StepOut E ρ ⟨fr,u,h⟩ c cs w (.next ⟨{ fr with mode:=.returning },u,h⟩):=fun hs =>
   ⟨ρ,w,_,cs,.one hs,⟨⟨hi.fr.fn,hi.fr.sz,hi.fr.tm,fun e => (by cases e),hi.fr.dfs,trivial,hi.fr.round⟩,hi.glob,hi.hr,hi.ur.of_kind rfl⟩,Ev.refl _ _ _,⟨rfl,rfl,rfl⟩,CsR.refl u hi.ur,rfl⟩
  rcases hj with ⟨rfl,ht⟩ | ⟨rfl,ht⟩ | ⟨id,rfl,ht,hx⟩
  ·have this:=stepR_end (P:=E.P) (b:=c) (a:=⟨c.tmps,c.defers⟩) (cs:=cs) (w:=w) hro;rw [atR_eq hm,← ht] at this;have out:=fin this;rw [hfr] at out;exact out
  ·have this:=stepR_ret (P:=E.P) (b:=c) (a:=⟨c.tmps,c.defers⟩) (k:=k) (cs:=cs) (w:=w) hro;rw [atR_eq hm,← ht] at this;have out:=fin this;rw [hfr] at out;exact out
  ·trivial
 | some l =>
  simp only;split
  ·rename_i lp hb;have hrd':RoundR ρ fr.round c.roundOf:=hrd;rw [hfr] at hrd';cases hro:c.roundOf with
   | none => rw [hro] at hrd';exact hrd'.elim
   | some l' =>
    rw [hro] at hrd';obtain ⟨n,hn,rfl⟩:=hrd';obtain ⟨rr,k1,k2,k3,k4,k5,k6,k7,k8,k9,k10,k11,k12⟩:=hi.hr.blk _ _ _ hn hb;have hlt:=(Array.getElem?_eq_some_iff.1 k1).1;let st:LoopState:=jumpSt jump;(have hst:st=if jump.isNone then .ready else .done:=by cases jump <;> rfl);(have hend:(Instr.endRound n.cb jump).run E.P w=.ok (.bool jump.isNone) { w with heap:=w.heap.setIfInBounds n.cb (.loop { rr with state:=if jump.isNone then .ready else .done,pending:=jump }) }:=by unfold Instr.endRound;rw [Sem.run_bind,run_getLoop k1];simp only [Result.andThen_ok,Sem.run_bind,run_setObj' _ k1 (fun _ _ _ e => by cases e)];rfl);obtain ⟨p1,p2⟩:=hi.hr.putObj (y:=.loop { lp with state:=st,pending:=jump }) (.loop { rr with state:=if jump.isNone then .ready else .done,pending:=jump }) hn hb rfl rfl
     ⟨{ rr with state:=if jump.isNone then .ready else .done,pending:=jump },by (show (w.heap.setIfInBounds n.cb _)[n.cb]?=_);simp [hlt],hst.symm,rfl,k4,k5,k6,k7,k8,k9,k10,k11,fun c0 hc0 => by
       have hc0:jump=some c0:=hc0;rcases hj with ⟨rfl,_⟩ | ⟨rfl,_⟩ | ⟨id,rfl,_⟩ <;> cases hc0 <;> rfl⟩
    show StepOut E ρ ⟨fr,u,h⟩ c cs w (.fin _ _ _);unfold StepOut;simp only [hfr];intro hu c1 cs1 hcs;subst hu;subst hcs;have hkind:c.kind=.normal:=hi.ur;refine ⟨ρ,_,_,.bool jump.isNone,rfl,.bool _,p1,p2,.one ?_⟩;rcases hj with ⟨rfl,ht⟩ | ⟨rfl,ht⟩ | ⟨id,rfl,ht,hx⟩
    ·have:=stepR_round_end (P:=E.P) (b:=c) (a:=⟨c.tmps,c.defers⟩) (c:=c1) (cs:=cs1) (w:=w) hro hkind hend;rw [atR_eq hm,← ht] at this;exact this
    ·have:=stepR_round_ret (P:=E.P) (b:=c) (a:=⟨c.tmps,c.defers⟩) (k:=k) (c:=c1) (cs:=cs1) (w:=w) hro hkind hend;rw [atR_eq hm,← ht] at this;exact this
    ·have:=stepR_round_exit (P:=E.P) (b:=c) (a:=⟨c.tmps,c.defers⟩) (k:=k) (c:=c1) (cs:=cs1) (w:=w) hro hkind hx hend;rw [atR_eq hm,← ht] at this;exact this
  ·trivial
end
end Go.Ab
namespace Go.Ab
section
variable {E:Env} {ρ:Names} {w:World} {c:Frame} {cs:List Frame} {fr:Fr} {u:Mode?} {h:H}
theorem enterLoop_ok (hf:FrR E ρ fr c) (r:HR E ρ h w) {params:Array Nat} {assign body:Code} (ha:okCode E assign=true) (hb:okCode E body=true) {l:Nat} {mark:List Deferred} {h1:H}
 (e:enterLoopA fr params.toList assign body h=some (l,mark,h1)) :
 ∃ ρ1 w1 n mark',(Instr.enterLoop c.fn c.tmps params assign body c.roundOf).run E.P w=.ok (n.cb,mark') w1∧HR E ρ1 h1 w1∧Ev ρ h w ρ1 h1 w1∧ρ1 l=some n∧DefsR ρ1 mark mark':=by
 have hrd:=hf.round;unfold enterLoopA at e;split at e
 ·rename_i hfr;rw [hfr] at hrd;have hro:c.roundOf=none:=by
   cases hh:c.roundOf with
   | none => rfl
   | some l => rw [hh] at hrd;exact hrd.elim
  simp only at e;cases e;obtain ⟨k1,k2⟩:=allocObj_ok r (.defs (some [])) (.deferred (some [])) rfl (fun ρ' w' n hn _ => ⟨[],hn,.nil⟩);obtain ⟨p1,p2⟩:=k1.alloc (.loop { state:=.ready,pending:=none,fn:=fr.fn,tm:=fr.tm,params:=params.toList,assign,body,defers:=h.next })
   (.loop { state:=.ready,pending:=none,fn:=c.fn,tmps:=c.tmps,params,assign,body,defers:=w.heap.size }) 0 0 (fun _ _ _ _ h => by cases h)
   ⟨_,wpush_new _ _,rfl,rfl,hf.fn,by show TR _ (szOf E fr.fn) fr.tm c.tmps;rw [← hf.sz];exact (hf.tm.mono k2.le).mono (Names.le_add _ k1.none_next),rfl,rfl,rfl,⟨_,Names.le_add _ k1.none_next _ _ (Names.add_same _ _ _),rfl⟩,ha,hb,fun c0 hc => by cases hc⟩
  refine ⟨_,_,⟨(wpush w (.deferred (some []))).heap.size,0,0,0⟩,[{ target:=.collected w.heap.size,args:=#[] }],?_,p1,k2.trans p2 r.base,Names.add_same _ _ _,?_⟩
  ·rw [hro];unfold Instr.enterLoop;simp only [Sem.run_bind,run_newObj,Result.andThen_ok,Sem.run_pure]
  ·exact .cons _ _ _ _ ⟨_,Names.le_add _ k1.none_next _ _ (Names.add_same _ _ _),rfl⟩ .nil .nil
 ·rename_i l0 hfr;rw [hfr] at hrd;split at e
  ·rename_i lp hblk;cases e;cases hro:c.roundOf with
   | none => rw [hro] at hrd;exact hrd.elim
   | some l' =>
    rw [hro] at hrd;obtain ⟨n,hn,rfl⟩:=hrd;obtain ⟨rr,k1,k2,k3,k4,k5,k6,k7,k8,⟨nd,k9,k9'⟩,k10,k11,k12⟩:=r.blk _ _ _ hn hblk;obtain ⟨p1,p2⟩:=r.alloc (.loop { state:=.ready,pending:=none,fn:=fr.fn,tm:=fr.tm,params:=params.toList,assign,body,defers:=lp.defers })
     (.loop { state:=.ready,pending:=none,fn:=c.fn,tmps:=c.tmps,params,assign,body,defers:=rr.defers }) 0 0 (fun _ _ _ _ h => by cases h)
     ⟨_,wpush_new _ _,rfl,rfl,hf.fn,by show TR _ (szOf E fr.fn) fr.tm c.tmps;rw [← hf.sz];exact hf.tm.mono (Names.le_add _ r.none_next),rfl,rfl,rfl,⟨nd,Names.le_add _ r.none_next _ _ k9,k9'⟩,ha,hb,fun c0 hc => by cases hc⟩
    refine ⟨_,_,⟨w.heap.size,0,0,0⟩,[],?_,p1,p2,Names.add_same _ _ _,.nil⟩;unfold Instr.enterLoop;simp only [Sem.run_bind,run_getLoop k1,Result.andThen_ok,Sem.run_pure,run_newObj]
  ·cases e
theorem beginRound_ok (r:HR E ρ h w) {l:Nat} {n:Nm} {lp:ALoop} (hn:ρ l=some n) (hb:h.blks.get l=some (.loop lp)) (hs:isReady lp.state=true) :
 ∃ w',(Instr.beginRound n.cb).run E.P w=.ok () w'∧HR E ρ (putLoop h l { lp with state:=.busy }) w'∧Ev ρ h w ρ (putLoop h l { lp with state:=.busy }) w':=by
 obtain ⟨rr,k1,k2,k3,k4,k5,k6,k7,k8,k9,k10,k11,k12⟩:=r.blk _ _ _ hn hb;have hlt:=(Array.getElem?_eq_some_iff.1 k1).1;obtain ⟨p1,p2⟩:=r.putObj (y:=.loop { lp with state:=.busy }) (.loop { rr with state:=.busy }) hn hb rfl rfl
  ⟨{ rr with state:=.busy },by (show (w.heap.setIfInBounds n.cb _)[n.cb]?=_);simp [hlt],rfl,k3,k4,k5,k6,k7,k8,k9,k10,k11,k12⟩
 refine ⟨_,?_,p1,p2⟩;unfold Instr.beginRound;rw [Sem.run_bind,run_getLoop k1];simp only [Result.andThen_ok,Sem.run_bind,run_setObj' _ k1 (fun _ _ _ e => by cases e)];rw [k2];cases hst:lp.state <;> rw [hst] at hs <;> first | rfl | cases hs
theorem endLoop_ok (r:HR E ρ h w) {l:Nat} {n:Nm} {lp:ALoop} (hn:ρ l=some n) (hb:h.blks.get l=some (.loop lp)) (hs:isBusy lp.state=false) :
 ∃ w',(Instr.endLoop n.cb).run E.P w=.ok lp.pending w'∧HR E ρ (putLoop h l { lp with state:=.exhausted }) w'∧Ev ρ h w ρ (putLoop h l { lp with state:=.exhausted }) w'∧(∀ c,lp.pending=some c→okCode E c=true):=by
 obtain ⟨rr,k1,k2,k3,k4,k5,k6,k7,k8,k9,k10,k11,k12⟩:=r.blk _ _ _ hn hb;have hlt:=(Array.getElem?_eq_some_iff.1 k1).1;obtain ⟨p1,p2⟩:=r.putObj (y:=.loop { lp with state:=.exhausted }) (.loop { rr with state:=.exhausted }) hn hb rfl rfl
  ⟨{ rr with state:=.exhausted },by (show (w.heap.setIfInBounds n.cb _)[n.cb]?=_);simp [hlt],rfl,k3,k4,k5,k6,k7,k8,k9,k10,k11,k12⟩
 refine ⟨_,?_,p1,p2,k12⟩;unfold Instr.endLoop;rw [Sem.run_bind,run_getLoop k1];simp only [Result.andThen_ok];have hne:(rr.state == .busy)=false:=by rw [k2];cases hst:lp.state <;> rw [hst] at hs <;> first | rfl | cases hs
 simp only [hne,Bool.false_eq_true,if_false,Sem.run_bind,run_setObj' _ k1 (fun _ _ _ e => by cases e),Result.andThen_ok,Sem.run_pure,k3]
end
end Go.Ab
namespace Go.Ab
def DrawnOk (E:Env) (callee:RunF):Prop :=
 ∀ (fr:Fr) (id:Nat) (ops:Array Oper) (k:List Item),ops.toList.all (okOper E)=true→regOk (orderBits [] ops.toList) ops.toList=true→∀ tm dfs u h rr,
  aOpsD E callee fr ops.toList (orderBits [] ops.toList) 0 ops.toList [] tm dfs u h=some rr →
  ∀ ρ w (c:Frame) cs,c.mode=.run→c.todo=.code (.region id ops true) :: k→TR ρ fr.sz tm c.tmps→DefsR ρ dfs c.defers→GlobR E ρ→HR E ρ h w→UR ρ u c cs→RoundR ρ fr.round c.roundOf →
  RegOut E ρ h w u c cs fr.sz k rr
def rrSt (fr:Fr) (k:List Item):RR→SR
 | .fin tm dfs u h => .next ⟨{ fr with tm,dfs,todo:=k },u,h⟩
 | .pan ch tm dfs u h => .next ⟨{ fr with tm,dfs,todo:=k,mode:=raiseM fr.mode ch },u,h⟩
theorem DefsR.append {ρ:Names}:∀ {a a' b b':List Deferred},DefsR ρ a a'→DefsR ρ b b'→DefsR ρ (a ++ b) (a' ++ b')
 | _,_,_,_,.nil,h => h
 | _,_,_,_,.cons d d' l l' h ha hs,k => .cons d d' _ _ h ha (hs.append k)
theorem raise_ok {ρ:Names} {m:FrameMode} {ch ch':List PanicEntry} (hm:m=.run) (h:ChainR ρ ch ch'):ModeR ρ (raiseM m ch) (.panicking ch'):=by subst hm;exact h
section
variable {E:Env} {ρ:Names} {w:World} {c:Frame} {cs:List Frame} {fr:Fr} {u:Mode?} {h:H} {callee:RunF}
theorem regOut_step (hi:Inv E ρ ⟨fr,u,h⟩ c cs w) (hm:fr.mode=.run) {k k':List Item} (hk:TodoR E ρ k k') {rr:RR} (out:RegOut E ρ h w u c cs fr.sz k' rr) :
 StepOut E ρ ⟨fr,u,h⟩ c cs w (rrSt fr k rr):=by
 cases rr with
 | fin tm dfs u1 h1 =>
  obtain ⟨ρ',w',c',cs',a1,a2,a3,a4,a5,a6,a7,a8,a9,a10⟩:=out;refine ⟨ρ',w',c',cs',a1,⟨⟨a2.fn.trans hi.fr.fn,hi.fr.sz,a5,fun _ => by rw [a4];exact hk.mono a8.le,a6,?_,?_⟩,hi.glob.mono a8.le,a7,a9⟩,a8,a2,a10,rfl⟩
  ·show ModeR ρ' fr.mode c'.mode;rw [hm,a3];trivial
  ·show RoundR ρ' fr.round c'.roundOf;rw [a2.round];exact hi.fr.round.mono a8.le
 | pan ch tm dfs u1 h1 =>
  obtain ⟨ρ',w',c',cs',ch',a1,a2,a3,a4,a5,a6,a7,a8,a9,a10⟩:=out;refine ⟨ρ',w',c',cs',a1,⟨⟨a2.fn.trans hi.fr.fn,hi.fr.sz,a5,fun hrun => (by rw [a3] at hrun;cases hrun),a6,?_,?_⟩,hi.glob.mono a8.le,a7,a9⟩,a8,a2,a10,rfl⟩
  ·show ModeR ρ' (raiseM fr.mode ch) c'.mode;rw [a3];exact raise_ok hm a4
  ·show RoundR ρ' fr.round c'.roundOf;rw [a2.round];exact hi.fr.round.mono a8.le
theorem roundNb {l:Nat} (h:RoundR ρ (some l) c.roundOf):∃ n,ρ l=some n∧c.roundOf=some n.cb:=by
 cases hh:c.roundOf with
 | none => rw [hh] at h;exact h.elim
 | some l' => rw [hh] at h;obtain ⟨n,h1,rfl⟩:=h;exact ⟨n,h1,rfl⟩
theorem stepRun_ok (g:GoodC E) (hst:StubOk E) (sF:SimF E callee) (sR:SimR E callee) (sD:DrawnOk E callee) (hi:Inv E ρ ⟨fr,u,h⟩ c cs w) (hm:fr.mode=.run) :
 StepOut E ρ ⟨fr,u,h⟩ c cs w (stepRun E callee fr u h):=by
 have hcm:c.mode=.run:=by
  have:=hi.fr.mode;have hm':({ fr:=fr,u:=u,h:=h }:St).fr.mode=.run:=hm;rw [hm'] at this;cases hc:c.mode with
  | run => rfl
  | _ => rw [hc] at this;exact this.elim
 have htodo:=hi.fr.todo hcm;have htodo:TodoR E ρ fr.todo c.todo:=htodo;have hev:EvR (fun x => okO E x=true) ρ fr.tm c.eval:=hi.fr.tm.evR hi.glob;unfold stepRun;split
 ·rename_i hft;rw [hft] at htodo;have hct:c.todo=[]:=by generalize c.todo=t at htodo;cases htodo;rfl
  exact leave_ok hi hcm (k:=[]) (.inl ⟨rfl,hct⟩)
 ·rename_i cd k hft;rw [hft] at htodo;obtain ⟨k',hct,hok,hk⟩:=htodo.code_inv;have goto:∀ {t t':List Item},Go.step E.P (lone (c.atR ⟨c.tmps,c.defers⟩ (.code cd :: k')) cs w)=.next (lone (c.atR ⟨c.tmps,c.defers⟩ t') cs w)→TodoR E ρ t t'→StepOut E ρ ⟨fr,u,h⟩ c cs w (.next ⟨{ fr with todo:=t },u,h⟩):=by intro t t' hs ht;rw [atR_eq hcm,atR_eq hcm,← hct] at hs;exact goTo hi hcm hs ht
  have region:∀ (id:Nat) (ops:Array Oper),c.todo=.code (.region id ops false) :: k'→ops.toList.all (okOper E)=true→∀ rr,aOps E callee fr ops.toList ops.toList fr.tm fr.dfs u h=some rr→StepOut E ρ ⟨fr,u,h⟩ c cs w (rrSt fr k rr):=by intro id ops hct hops rr hr;have hs:=stepR_region (P:=E.P) (b:=c) (a:=⟨c.tmps,c.defers⟩) (k:=k') (cs:=cs) (w:=w) (ops:=ops) (id:=id);rw [atR_eq hcm,atR_eq hcm,← hct] at hs;have out:=aOps_ok g hst sF sR (k:=k') hops ops.toList 0 fr.tm fr.dfs u h rr rfl hr ρ w { c with todo:=.inRegion ops (List.range ops.size) :: k' } cs hcm (by rw [List.range_eq_range'];simp) hi.fr.tm hi.fr.dfs hi.glob hi.hr (hi.ur.of_kind rfl) hi.fr.round;have st:Steps E.P (lone c cs w) (lone { c with todo:=.inRegion ops (List.range ops.size) :: k' } cs w):=.one hs;have ur1:UR ρ u { c with todo:=.inRegion ops (List.range ops.size) :: k' } cs:=UR.of_kind hi.ur rfl;exact regOut_step hi hm hk (out.step hi.hr.base hi.ur ur1 st ⟨rfl,rfl,rfl⟩ (Ev.refl _ _ _) (CsR.refl u hi.ur))
  split
  ·-- region
   rename_i id ops;simp only [okCode,Bool.and_eq_true] at hok;split
   ·rename_i tm dfs u1 h1 hr;exact region _ _ hct hok.1 _ hr
   ·rename_i ch tm dfs u1 h1 hr;exact region _ _ hct hok.1 _ hr
   ·trivial
  ·-- drawn region
   rename_i id ops;simp only [okCode,Bool.and_eq_true,Bool.not_true,Bool.false_or] at hok;split
   ·rename_i tm dfs u1 h1 hr;exact regOut_step hi hm hk (sD fr id ops k' hok.1 hok.2 _ _ _ _ _ hr ρ w c cs hcm hct hi.fr.tm hi.fr.dfs hi.glob hi.hr hi.ur hi.fr.round)
   ·rename_i ch tm dfs u1 h1 hr;exact regOut_step hi hm hk (sD fr id ops k' hok.1 hok.2 _ _ _ _ _ hr ρ w c cs hcm hct hi.fr.tm hi.fr.dfs hi.glob hi.hr hi.ur hi.fr.round)
   ·trivial
  ·exact leave_ok hi hcm (k:=k') (.inr (.inl ⟨rfl,hct⟩))
  ·exact goto stepR_skip hk
  ·rename_i a b;simp only [okCode,Bool.and_eq_true] at hok;exact goto stepR_seq (.same _ _ _ hok.1 rfl (.same _ _ _ hok.2 rfl hk))
  ·rename_i x a b;simp only [okCode,Bool.and_eq_true] at hok;have hx:=hev x hok.1.1;(have heval:(Act.eval ⟨c.tmps,c.defers⟩)=c.eval:=by funext y;cases y <;> rfl);split
   ·rename_i hb;rw [hb] at hx;generalize hcc:c.eval x=cc at hx;cases hx;exact goto (stepR_cond (t:=true) (by rw [heval];exact hcc)) (.same _ _ _ hok.1.2 rfl hk)
   ·rename_i hb;rw [hb] at hx;generalize hcc:c.eval x=cc at hx;cases hx;exact goto (stepR_cond (t:=false) (by rw [heval];exact hcc)) (.same _ _ _ hok.2 rfl hk)
   ·trivial
  ·exact goto stepR_block (.same _ _ _ hok rfl (.same _ _ _ rfl rfl hk))
  ·exact goto stepR_loop (.same _ _ _ hok rfl (.same _ _ _ hok rfl hk))
  ·rename_i b;refine goto (t:=.code b :: .inScope b :: k) (t':=.code b :: .inScope b :: k') ?_ (.same _ _ _ hok rfl (.same _ _ _ hok rfl hk));exact step_lone_go (by simp [stepG,stepG.exec,Frame.atR])
  ·rename_i id;split
   ·rename_i k2 hx;obtain ⟨t',q1,q2⟩:=(exitTo_ok id hk).1 _ hx;exact goto (stepR_exit q1) q2
   ·rename_i hx;exact leave_ok hi hcm (k:=k') (.inr (.inr ⟨id,rfl,hct,(exitTo_ok id hk).2 hx⟩))
  ·trivial
  ·trivial
  ·-- range over a function
   rename_i f params assign body;simp only [okCode,Bool.and_eq_true] at hok;split
   ·trivial
   ·rename_i l mark h1 hen;obtain ⟨ρ1,w1,n,mark',k1,k2,k3,k4,k5⟩:=enterLoop_ok hi.fr hi.hr hok.1.2 hok.2 hen;split
    ·(rename_i fn first captured hf);have hff:=(hev f hok.1.1).mono k3.le;rw [hf] at hff;obtain ⟨fn',first',captured',q1,q2,q3,q4⟩:=func_inv hff;have hargs:VRs ρ1 (first.toList ++ [.func (.yield l) #[] #[]]) (first'.toList ++ [.func (.yield n.cb) #[] #[]]):=q2.append (.cons _ _ _ _ (.yield _ _ k4) .nil);split
     ·rename_i tg htg;let c1:Frame:={ c with todo:=.inRangeFunc n.cb :: k',defers:=mark' ++ c.defers };let s:Sem Next:=(do let d ← resolve c1.eval { callee:=.value f,args:=#[.const (.func (.yield n.cb) #[] #[])],argTypes:=#[] } 0;invoke d.target d.args);(have hap:Applies E.P c cs w c1 s w1:=by unfold Applies;simp only [stepG,hcm,stepG.exec,hct,Sem.runT_eq,k1,GStep.bare_after,c1,s]);(have hce:c1.eval=c.eval:=by funext y;cases y <;> rfl);(have hs:s.run E.P w1=(invoke (.fn fn' captured') (first'.toList ++ [Value.func (.yield n.cb) #[] #[]]).toArray).run E.P w1:=by show (do let d ← resolve c1.eval { callee:=.value f,args:=#[.const (.func (.yield n.cb) #[] #[])],argTypes:=#[] } 0;invoke d.target d.args:Sem Next).run E.P w1=_;unfold resolve;simp only [hce,q1,Deferred.ofValue];(have:(first'.toList ++ [Value.func (.yield n.cb) #[] #[]]).toArray=first' ++ (#[Value.func (.yield n.cb) #[] #[]]:Array Value):=by apply Array.toList_inj.1;simp);(have hmap:(#[Operand.const (Value.func (.yield n.cb) #[] #[])]:Array Operand).map c.eval=#[Value.func (.yield n.cb) #[] #[]]:=by simp [Frame.eval]);rw [this,hmap];rfl);have hdf:∀ ρ2,ρ1.le ρ2→DefsR ρ2 (mark ++ fr.dfs) (mark' ++ c.defers):=fun ρ2 hle => (k5.mono hle).append ((hi.fr.dfs.mono k3.le).mono hle);split
      ·rename_i v u1 h2 hrun;obtain ⟨ρ2,w2,z1,z2,v',z3,z4⟩:=runTg_ok g hst sF sR q4 hargs htg hrun k2 (hi.glob.mono k3.le) hap trivial hs;have hfin:c1.finish v'={ c1 with todo:=.endRangeFunc n.cb :: k' }:=rfl;rw [hfin] at z4;have hle:=Names.le_trans k3.le z2.le;exact ⟨ρ2,w2,_,cs,z4,⟨⟨hi.fr.fn,hi.fr.sz,hi.fr.tm.mono hle,fun _ => .rf _ _ _ _ (z2.le _ _ k4) (hk.mono hle),hdf _ z2.le,hi.fr.mode.mono hle,hi.fr.round.mono hle⟩,hi.glob.mono hle,z1,(hi.ur.mono hle).of_kind rfl⟩,
        k3.trans z2 hi.hr.base,⟨rfl,rfl,rfl⟩,CsR.refl u hi.ur,rfl⟩
      ·rename_i ch u1 h2 hrun;obtain ⟨ρ2,w2,z1,z2,ch',z3,z4⟩:=runTg_ok g hst sF sR q4 hargs htg hrun k2 (hi.glob.mono k3.le) hap trivial hs;(have hr1:c1.raise ch'={ c1 with mode:=.panicking ch' }:=by rw [Frame.raise_mode];simp [raised,c1,hcm]);rw [hr1] at z4;have hle:=Names.le_trans k3.le z2.le;exact ⟨ρ2,w2,_,cs,z4,⟨⟨hi.fr.fn,hi.fr.sz,hi.fr.tm.mono hle,fun hrun => (by cases hrun),hdf _ z2.le,raise_ok hm z3,hi.fr.round.mono hle⟩,hi.glob.mono hle,z1,(hi.ur.mono hle).of_kind rfl⟩,
        k3.trans z2 hi.hr.base,⟨rfl,rfl,rfl⟩,CsR.refl u hi.ur,rfl⟩
      ·trivial
     ·trivial
    ·trivial
  ·trivial
 ·rename_i id k hft;rw [hft] at htodo;generalize hct:c.todo=t at htodo;cases htodo with
  | same _ _ k' hok _ hk => have hs:=stepR_inBlock (P:=E.P) (b:=c) (a:=⟨c.tmps,c.defers⟩) (k:=k') (cs:=cs) (w:=w) (id:=id);rw [atR_eq hcm,atR_eq hcm,← hct] at hs;exact goTo hi hcm hs hk
 ·rename_i b k hft;rw [hft] at htodo;generalize hct:c.todo=t at htodo;cases htodo with
  | same _ _ k' hok _ hk => (have hs:Go.step E.P (lone (c.atR ⟨c.tmps,c.defers⟩ (.inScope b :: k')) cs w)=.next (lone (c.atR ⟨c.tmps,c.defers⟩ k') cs w):=step_lone_go (by simp [stepG,stepG.exec,Frame.atR]));rw [atR_eq hcm,atR_eq hcm,← hct] at hs;exact goTo hi hcm hs hk
 ·rename_i b k hft;rw [hft] at htodo;generalize hct:c.todo=t at htodo;cases htodo with
  | same _ _ k' hok _ hk => have hs:=stepR_inLoop (P:=E.P) (b:=c) (a:=⟨c.tmps,c.defers⟩) (k:=k') (cs:=cs) (w:=w) (c:=b);rw [atR_eq hcm,atR_eq hcm] at hs;(have hs:Go.step E.P (lone c cs w)=.next (lone { c with todo:=.code b :: .inLoop b :: k' } cs w):=by rw [← hs];congr 2;exact eq_todo hct);exact goTo hi hcm hs (.same _ _ _ hok rfl (.same _ _ _ hok rfl hk))
 ·rename_i k hft;rw [hft] at htodo;generalize hct:c.todo=t at htodo;cases htodo with
  | same _ _ k' hok _ hk =>
   split
   ·rename_i l hfr;split
    ·rename_i lp hb;split
     ·rename_i hrdy;have hrd:RoundR ρ fr.round c.roundOf:=hi.fr.round;rw [hfr] at hrd;obtain ⟨n,hn,hro⟩:=roundNb hrd;obtain ⟨w',k1,k2,k3⟩:=beginRound_ok hi.hr hn hb hrdy;have hs:=stepR_beginRound (P:=E.P) (b:=c) (a:=⟨c.tmps,c.defers⟩) (k:=k') (cs:=cs) (w:=w) hro k1;rw [atR_eq hcm,atR_eq hcm,← hct] at hs;exact ⟨ρ,w',_,cs,.one hs,⟨⟨hi.fr.fn,hi.fr.sz,hi.fr.tm,fun _ => hk,hi.fr.dfs,hi.fr.mode,hi.fr.round⟩,hi.glob,k2,hi.ur.of_kind rfl⟩,k3,⟨rfl,rfl,rfl⟩,CsR.refl u hi.ur,rfl⟩
     ·trivial
    ·trivial
   ·trivial
 ·rename_i l k hft;rw [hft] at htodo;generalize hct:c.todo=t at htodo;cases htodo with
  | same _ _ k' hok hp hk => cases hp
  | rf _ n _ k' hn hk =>
   split
   ·rename_i lp hb;split
    ·trivial
    ·rename_i hbusy;obtain ⟨w',k1,k2,k3,k4⟩:=endLoop_ok hi.hr hn hb hbusy;have hs:=stepR_endRangeFunc (P:=E.P) (b:=c) (a:=⟨c.tmps,c.defers⟩) (k:=k') (cs:=cs) (w:=w) k1;rw [atR_eq hcm,atR_eq hcm,← hct] at hs;refine ⟨ρ,w',_,cs,.one hs,⟨⟨hi.fr.fn,hi.fr.sz,hi.fr.tm,fun _ => ?_,hi.fr.dfs,hi.fr.mode,hi.fr.round⟩,hi.glob,k2,hi.ur.of_kind rfl⟩,k3,⟨rfl,rfl,rfl⟩,CsR.refl u hi.ur,rfl⟩;cases hpd:lp.pending with
     | none => exact hk
     | some cd => exact .same _ _ _ (k4 cd hpd) rfl hk
   ·trivial
 ·trivial
end
end Go.Ab
namespace Go.Ab
section
variable {E:Env} {ρ:Names} {w:World} {c:Frame} {cs:List Frame} {fr:Fr} {u:Mode?} {h:H} {callee:RunF}
theorem step_collected {P:Program} {block:Nat} {args:Array Value} {ds calls:List Deferred} {w':World} (hm:c.mode ≠ .run) (hd:c.defers={ target:=.collected block,args } :: ds)
 (hr:(Instr.takeDeferred block).run P w=.ok calls w'):Go.step P (lone c cs w)=.next (lone { c with defers:=calls ++ ds } cs w'):=by
 refine step_lone_go ?_;cases hmode:c.mode with
 | run => exact absurd hmode hm
 | returning => simp [stepG,unwind,hmode,hd,hr]
 | panicking chain => simp [stepG,unwind,hmode,hd,hr]
theorem dropWhile_ok:∀ {l l':List PanicEntry},ChainR ρ l l'→ChainR ρ (l.dropWhile (!·.goexit)) (l'.dropWhile (!·.goexit))
 | _,_,.nil => .nil
 | _,_,.cons e e' l l' hv hr hg hs => by
  simp only [List.dropWhile_cons,hg];split
  ·exact dropWhile_ok hs
  ·exact .cons _ _ _ _ hv hr hg hs
theorem settle_ok {m m':FrameMode} (h:ModeR ρ m m'):ModeR ρ (settleM m) (settle m'):=by
 cases m with
 | run => cases m' <;> first | exact h.elim | trivial
 | returning => cases m' <;> first | exact h.elim | trivial
 | panicking ch =>
  cases m' with
  | run => exact h.elim
  | returning => exact h.elim
  | panicking ch' =>
   have h:ChainR ρ ch ch':=h;cases h with
   | nil => exact ChainR.nil
   | cons e e' l l' hv hr hg hs =>
    obtain ⟨v0,r0,g0⟩:=e';simp only at hr hg hv;subst hr;subst hg;have hd:=dropWhile_ok hs;cases hrec:e.recovered with
    | true =>
     simp only [settleM,hrec,settle];generalize l.dropWhile (!·.goexit)=a at hd;generalize l'.dropWhile (!·.goexit)=a' at hd;cases hd with
     | nil => trivial
     | cons _ _ _ _ q1 q2 q3 q4 => exact ChainR.cons _ _ _ _ q1 q2 q3 q4
    | false => simp only [settleM,hrec,settle];exact ChainR.cons _ _ _ _ hv hrec.symm rfl hs
theorem settle_run {m:FrameMode} (h:settle m=.run):m=.run:=by
 unfold settle at h;split at h
 ·split at h <;> cases h
 ·exact h
theorem raised_ok {m m':FrameMode} {ch ch':List PanicEntry} (h:ModeR ρ m m') (k:ChainR ρ ch ch'):ModeR ρ (raiseM m ch) (raised m' ch'):=by
 cases m <;> cases m' <;> simp only [ModeR] at h <;> simp only [raiseM,raised,ModeR]
 ·exact k
 ·exact k
 ·exact k.append h
theorem stepOut_ok (g:GoodC E) (sF:SimF E callee) (hi:Inv E ρ ⟨fr,u,h⟩ c cs w) {m:FrameMode} (hm:fr.mode=m) (hne:m ≠ .run) :
 StepOut E ρ ⟨fr,u,h⟩ c cs w (stepOut E callee fr m u h):=by
 have hmode:ModeR ρ fr.mode c.mode:=hi.fr.mode;rw [hm] at hmode;have hcm:c.mode ≠ .run:=by intro hc;rw [hc] at hmode;cases m <;> first | exact hne rfl | exact hmode
 unfold stepOut;split
 ·trivial
 ·rename_i hfr;have hdfs:DefsR ρ fr.dfs c.defers:=hi.fr.dfs;split
  ·rename_i hd;rw [hd] at hdfs;(have hcd:c.defers=[]:=by generalize c.defers=t at hdfs;cases hdfs;rfl);split
   ·trivial
   ·rename_i fn hfn;(have hf:E.P.funcs[c.fn]?=some fn:=by rw [hi.fr.fn];exact funcs_ok g.toGood hfn);split
    ·rename_i ch;unfold StepOut;simp only [hfr];cases hcm2:c.mode with
     | run => exact absurd hcm2 hcm
     | returning => rw [hcm2] at hmode;exact hmode.elim
     | panicking ch' => rw [hcm2] at hmode;exact ⟨ρ,w,c,cs,Steps.refl _ _,hi.hr,Ev.refl _ _ _,hi.ur,CsR.refl u hi.ur,⟨rfl,rfl⟩,ch',hmode,hcm2,hcd,fn,hf⟩
    ·rename_i hnp;split
     ·rename_i vs hvs;obtain ⟨v',k1,k2⟩:=results_ok g.toGood hi.hr hi.fr.tm hvs;have hret:c.mode=.returning:=by
       cases m with
       | run => exact absurd rfl hne
       | panicking ch => exact absurd rfl (hnp ch)
       | returning => cases hc:c.mode <;> rw [hc] at hmode <;> first | rfl | exact hmode.elim
      unfold StepOut;simp only [hfr];exact ⟨ρ,w,c,cs,Steps.refl _ _,hi.hr,Ev.refl _ _ _,hi.ur,CsR.refl u hi.ur,⟨rfl,rfl⟩,v',k2,hret,hcd,fn,hf,k1⟩
     ·trivial
  ·rename_i d ds hd;rw [hd] at hdfs;generalize hcd:c.defers=t at hdfs;cases hdfs with
   | cons _ d' _ ds' ht ha hs =>
    obtain ⟨tg,dargs⟩:=d;obtain ⟨tg',dargs'⟩:=d';simp only at ht ha;split
    ·rename_i b htg;simp only at htg;subst htg;cases tg' with
     | collected b' =>
      obtain ⟨n,hn,rfl⟩:=ht;split
      ·rename_i l hb;obtain ⟨l',q1,q2⟩:=hi.hr.blk _ _ _ hn hb;have hlt:=(Array.getElem?_eq_some_iff.1 q1).1;(have htake:(Instr.takeDeferred n.cb).run E.P w=.ok l' { w with heap:=w.heap.setIfInBounds n.cb (.deferred none) }:=by unfold Instr.takeDeferred;simp only [Sem.run_bind,run_getObj' q1 (fun _ _ _ e => by cases e),Result.andThen_ok,run_setObj' _ q1 (fun _ _ _ e => by cases e)];rfl);obtain ⟨p1,p2⟩:=hi.hr.putObj (y:=.defs none) (.deferred none) hn hb rfl rfl (by (show (w.heap.setIfInBounds n.cb _)[n.cb]?=_);simp [hlt]);exact ⟨ρ,_,_,cs,.one (step_collected hcm hcd htake),⟨⟨hi.fr.fn,hi.fr.sz,hi.fr.tm,fun hr => absurd hr hcm,q2.append hs,hi.fr.mode,hi.fr.round⟩,hi.glob,p1,hi.ur.of_kind rfl⟩,p2,⟨rfl,rfl,rfl⟩,CsR.refl u hi.ur,rfl⟩
      ·trivial
     | _ => exact ht.elim
    ·rename_i fn captured htg;simp only at htg;subst htg;cases tg' with
     | fn fn' captured' =>
      have ht:VR ρ (.func fn #[] captured) (.func fn' #[] captured'):=ht;split
      ·rename_i f args htgo;split
       ·trivial
       ·rename_i fr1 hen;have hfc:fn'=.func f∧args=dargs.toList ++ captured.toList∧VRs ρ captured.toList captured'.toList:=by
         unfold tgOf at htgo;split at htgo
         ·cases htgo;cases ht with
          | func _ _ _ _ _ _ _ hb => exact ⟨rfl,rfl,hb⟩
         ·cases htgo
         ·cases htgo
        obtain ⟨rfl,rfl,hcap⟩:=hfc;have hA:VRs ρ (dargs.toList ++ captured.toList) (dargs'.toList ++ captured'.toList):=ha.append hcap;obtain ⟨k1,k2,k3⟩:=enter_ok g hen hA .deferred;(have hinv:(invoke (.fn (.func f) captured') dargs').run E.P w=.ok (.enter f (dargs'.toList ++ captured'.toList).toArray) w:=by (have:(dargs'.toList ++ captured'.toList).toArray=dargs' ++ captured':=by simp);rw [← k3 w,this];rfl);have hs1:=step_defer (P:=E.P) (fr:=c) (cs:=cs) (w:=w) hcm hcd rfl hinv;split
        ·rename_i v m' h2 hrun;split
         ·trivial
         rename_i hnr;obtain ⟨ρ2,w2,c2,cs2,z1,z2,z3,z4,z5,z6,z7⟩:=sF fr1 (some m) h _ _ _ hrun k2 ρ w _ ({ c with defers:=ds' } :: cs) k1 hi.glob hi.hr ⟨rfl,_,_,rfl,hmode⟩;obtain ⟨c0,cs0,m0,e1,rfl⟩:=z5;cases e1;obtain ⟨hk2,c0',cs0',e2,hm2⟩:=z4;cases e2;obtain ⟨v',y1,y2,y3,fn2,y4,y5⟩:=z7;have hk:c2.kind=.deferred:=hk2;have hs2:=step_going_returned (P:=E.P) (fr:=c2) (c:={ { c with defers:=ds' } with mode:=m0 }) (cs:=cs) (w:=w2) (v:=v') hk ⟨y2,y3,fn2,y4,y5⟩;exact ⟨ρ2,w2,_,cs,.head hs1 (Steps.trans z1 (.one hs2)),⟨⟨hi.fr.fn,hi.fr.sz,hi.fr.tm.mono z3.le,fun hr => (by have hr:settle m0=.run:=hr;have hm0:=settle_run hr;subst hm0;cases m' <;> first | (cases hnr;done) | exact hm2.elim),hs.mono z3.le,settle_ok hm2,hi.fr.round.mono z3.le⟩,hi.glob.mono z3.le,z2,(hi.ur.mono z3.le).of_kind rfl⟩,z3,⟨rfl,rfl,rfl⟩,CsR.refl u hi.ur,rfl⟩
        ·rename_i ch m' h2 hrun;obtain ⟨ρ2,w2,c2,cs2,z1,z2,z3,z4,z5,z6,z7⟩:=sF fr1 (some m) h _ _ _ hrun k2 ρ w _ ({ c with defers:=ds' } :: cs) k1 hi.glob hi.hr ⟨rfl,_,_,rfl,hmode⟩;obtain ⟨c0,cs0,m0,e1,rfl⟩:=z5;cases e1;obtain ⟨hk2,c0',cs0',e2,hm2⟩:=z4;cases e2;obtain ⟨ch',y1,y2,y3,fn2,y4⟩:=z7;have hs2:=step_going_panicked (P:=E.P) (fr:=c2) (c:={ { c with defers:=ds' } with mode:=m0 }) (cs:=cs) (w:=w2) (chain:=ch') ⟨y2,y3,fn2,y4⟩;exact ⟨ρ2,w2,_,cs,.head hs1 (Steps.trans z1 (.one hs2)),⟨⟨hi.fr.fn,hi.fr.sz,hi.fr.tm.mono z3.le,fun hr => (by have hr:raised m0 ch'=.run:=hr;cases m0 <;> cases hr),hs.mono z3.le,raised_ok hm2 y1,hi.fr.round.mono z3.le⟩,hi.glob.mono z3.le,z2,(hi.ur.mono z3.le).of_kind rfl⟩,z3,⟨rfl,rfl,rfl⟩,CsR.refl u hi.ur,rfl⟩
        ·trivial
      ·trivial
     | _ => exact ht.elim
    ·trivial
end
end Go.Ab
namespace Go.Ab
section
variable {E:Env}
theorem StepOut.trans {ρ ρ1:Names} {s s1:St} {c c1:Frame} {cs cs1:List Frame} {w w1:World} {r:SR} (hi:Inv E ρ s c cs w) (hi1:Inv E ρ1 s1 c1 cs1 w1) (hs:Steps E.P (lone c cs w) (lone c1 cs1 w1)) (he:Ev ρ s.h w ρ1 s1.h w1)
 (ho:Onw c c1) (hc:CsR s.u cs cs1) (hr:s1.fr.round=s.fr.round) (out:StepOut E ρ1 s1 c1 cs1 w1 r):StepOut E ρ s c cs w r:=by
 cases r with
 | next s2 => obtain ⟨ρ',w',c',cs',a1,a2,a3,a4,a5,a6⟩:=out;exact ⟨ρ',w',c',cs',Steps.trans hs a1,a2,he.trans a3 hi.hr.base,ho.trans a4,CsR.trans hi.ur hi1.ur ho.kind hc a5,a6.trans hr⟩
 | fin e u' h' =>
  unfold StepOut at out ⊢;simp only [hr] at out;cases hround:s.fr.round with
  | none => rw [hround] at out;obtain ⟨ρ',w',c',cs',a1,a2,a3,a4,a5,a6,a7⟩:=out;exact ⟨ρ',w',c',cs',Steps.trans hs a1,a2,he.trans a3 hi.hr.base,a4,CsR.trans hi.ur hi1.ur ho.kind hc a5,⟨a6.1.trans ho.kind,a6.2.trans ho.fn⟩,a7⟩
  | some l =>
   rw [hround] at out;simp only at out ⊢;intro hu d1 ds1 hcs;(have hk:c.kind=.normal:=by have:=hi.ur;rw [hu] at this;exact this);have hu1:s1.u=none:=by
    have:=hi1.ur;cases hh:s1.u with
    | none => rfl
    | some m => rw [hh] at this;have:=this.1;rw [ho.kind,hk] at this;cases this
   (have hcs1:cs1=cs:=by rw [hu] at hc;exact hc);obtain ⟨ρ',w',v,v',a1,a2,a3,a4,a5⟩:=out hu1 d1 ds1 (hcs1.trans hcs);exact ⟨ρ',w',v,v',a1,a2,a3,he.trans a4 hi.hr.base,Steps.trans hs a5⟩
 | bad => trivial
theorem iter_ok {f:St→SR} (hf:∀ ρ s c cs w,Inv E ρ s c cs w→StepOut E ρ s c cs w (f s)):∀ n ρ s c cs w,Inv E ρ s c cs w→StepOut E ρ s c cs w (iter f n s)
 | 0,ρ,s,c,cs,w,hi => hf ρ s c cs w hi
 | n + 1,ρ,s,c,cs,w,hi => by
  have h1:=iter_ok hf n ρ s c cs w hi;simp only [iter];cases hr:iter f n s with
  | next s1 => rw [hr] at h1;obtain ⟨ρ',w',c',cs',a1,a2,a3,a4,a5,a6⟩:=h1;exact StepOut.trans hi a2 a1 a3 a4 a5 a6 (iter_ok hf n ρ' s1 c' cs' w' a2)
  | fin e u h => rw [hr] at h1;exact h1
  | bad w => trivial
theorem step_ok (g:GoodC E) (hst:StubOk E) {callee:RunF} (sF:SimF E callee) (sR:SimR E callee) (sD:DrawnOk E callee) (ρ:Names) (s:St) (c:Frame) (cs:List Frame) (w:World) (hi:Inv E ρ s c cs w) :
 StepOut E ρ s c cs w (step E callee s):=by
 obtain ⟨fr,u,h⟩:=s;unfold step;simp only;split
 ·rename_i hm;exact stepRun_ok g hst sF sR sD hi hm
 ·rename_i hne;exact stepOut_ok g sF hi rfl (fun h => hne h)
theorem run_ok (g:GoodC E) (hst:StubOk E) (hD:∀ callee,SimF E callee→SimR E callee→DrawnOk E callee) (n:Nat):∀ d,SimF E (run E n d)∧SimR E (run E n d)
 | 0 => ⟨fun _ _ _ _ _ _ e => (by cases e),fun _ _ _ _ _ _ e => (by cases e)⟩
 | d + 1 => by
  obtain ⟨sF,sR⟩:=run_ok g hst hD n d;have hstep:=step_ok g hst sF sR (hD _ sF sR);have hit:=iter_ok hstep n;constructor
  ·intro fr u h e u' h' hrun hfr ρ w c cs hf hg hh hu;have out:=hit ρ ⟨fr,u,h⟩ c cs w ⟨hf,hg,hh,hu⟩;simp only [run] at hrun;split at hrun
   ·rename_i e1 u1 h1 hi;cases hrun;rw [hi] at out;unfold StepOut at out;simp only [hfr] at out;exact out
   ·cases hrun
  ·intro fr l h e u' h' hrun hfr ρ w c c1 cs hf hg hh hk;have out:=hit ρ ⟨fr,none,h⟩ c (c1 :: cs) w ⟨hf,hg,hh,hk⟩;simp only [run] at hrun;split at hrun
   ·rename_i e1 u1 h1 hi;cases hrun;rw [hi] at out;unfold StepOut at out;simp only [hfr] at out;exact out trivial c1 cs rfl
   ·cases hrun
end
end Go.Ab
namespace Go.Ab
def Both (ρ σ τ:Names):Prop:=∀ b m m',σ b=some m→ρ b=some m'→τ b=some m'
mutual
theorem VR.restrict {ρ σ τ:Names} (hτ:Both ρ σ τ):∀ {v x y:Value},VR ρ v x→VR σ v y→VR τ v x
 | _,_,_,.bool b,_ => .bool b
 | _,_,_,.int k n,_ => .int k n
 | _,_,_,.string s,_ => .string s
 | _,_,_,.ptrN,_ => .ptrN
 | _,_,_,.ptr b o n h,h2 => by cases h2 with | ptr _ _ m k => exact .ptr b o n (hτ b m n k h)
 | _,_,_,.sliceN,_ => .sliceN
 | _,_,_,.slice b o l c c' a' n h hc ha,h2 => by cases h2 with | slice _ _ _ _ _ _ m k _ _ => exact .slice b o l c c' a' n (hτ b m n k h) hc ha
 | _,_,_,.mapN,_ => .mapN
 | _,_,_,.map r n h,h2 => by cases h2 with | map _ m k => exact .map r n (hτ r m n k h)
 | _,_,_,.nilFunc,_ => .nilFunc
 | _,_,_,.func f as bs as' bs' hf ha hb,h2 => by
  cases h2 with
  | func _ _ _ _ _ _ ha2 hb2 => exact .func f as bs as' bs' hf (VRs.restrict hτ ha ha2) (VRs.restrict hτ hb hb2)
  | yield l n h => exact absurd rfl (hf l)
 | _,_,_,.yield l n h,h2 => by
  cases h2 with
  | func _ _ _ _ _ hf _ _ => exact absurd rfl (hf l)
  | yield _ m k => exact .yield l n (hτ l m n k h)
 | _,_,_,.nilIface,_ => .nilIface
 | _,_,_,.iface t v v' h,h2 => by cases h2 with | iface _ _ _ k => exact .iface t v v' (VR.restrict hτ h k)
 | _,_,_,.agg as as' h hn,h2 => by cases h2 with | agg _ _ k _ => exact .agg as as' (VRs.restrict hτ h k) hn
 | _,_,_,.tuple as as' h,h2 => by cases h2 with | tuple _ _ k => exact .tuple as as' (VRs.restrict hτ h k)
theorem VRs.restrict {ρ σ τ:Names} (hτ:Both ρ σ τ):∀ {v x y:List Value},VRs ρ v x→VRs σ v y→VRs τ v x
 | _,_,_,.nil,_ => .nil
 | _,_,_,.cons v v' l l' h hs,h2 => by cases h2 with | cons _ _ _ _ k ks => exact .cons v v' l l' (VR.restrict hτ h k) (VRs.restrict hτ hs ks)
end
section
variable {ρ σ τ:Names}
theorem EntsR.restrict (hτ:Both ρ σ τ):∀ {l:List (Value × Value)} {x y:List MapEntry},EntsR ρ l x→EntsR σ l y→EntsR τ l x
 | _,_,_,.nil,_ => .nil
 | _,_,_,.cons e x l l' h hs,h2 => by cases h2 with | cons _ _ _ _ k ks => exact .cons e x l l' ⟨h.1.restrict hτ k.1,h.2.restrict hτ k.2⟩ (EntsR.restrict hτ hs ks)
theorem TR.restrict (hτ:Both ρ σ τ) {sz:Nat} {tm:T Value} {a a':Array Value} (h:TR ρ sz tm a) (k:TR σ sz tm a'):TR τ sz tm a :=
 ⟨h.1,h.2.1,fun t ht => (h.2.2 t ht).restrict hτ (k.2.2 t ht)⟩
theorem tgtR.restrict (hτ:Both ρ σ τ) {x y y':Target} (h:tgtR ρ x y) (k:tgtR σ x y'):tgtR τ x y:=by
 cases x <;> cases y <;> simp only [tgtR] at h ⊢ <;> cases y' <;> simp only [tgtR] at k <;> try exact h.elim
 ·exact h.restrict hτ k
 ·obtain ⟨n,h1,h2⟩:=h;obtain ⟨m,k1,k2⟩:=k;exact ⟨n,hτ _ _ _ k1 h1,h2⟩
theorem DefsR.restrict (hτ:Both ρ σ τ):∀ {l x y:List Deferred},DefsR ρ l x→DefsR σ l y→DefsR τ l x
 | _,_,_,.nil,_ => .nil
 | _,_,_,.cons d d' l l' h ha hs,h2 => by cases h2 with | cons _ _ _ _ k ka ks => exact .cons d d' l l' (tgtR.restrict hτ h k) (ha.restrict hτ ka) (DefsR.restrict hτ hs ks)
theorem loopR.restrict (hτ:Both ρ σ τ) {E:Env} {l:ALoop} {r r':Loop} (h:loopR ρ E l r) (k:loopR σ E l r'):loopR τ E l r:=by obtain ⟨h1,h2,h3,h4,h5,h6,h7,⟨n,h8,h9⟩,h10⟩:=h;obtain ⟨_,_,_,k4,_,_,_,⟨m,k8,_⟩,_⟩:=k;exact ⟨h1,h2,h3,h4.restrict hτ k4,h5,h6,h7,⟨n,hτ _ _ _ k8 h8,h9⟩,h10⟩
theorem BR.restrict (hτ:Both ρ σ τ) {E:Env} {w w':World} {n m:Nm} {x:Blk} (h:BR ρ E w n x) (k:BR σ E w' m x):BR τ E w n x:=by
 cases x with
 | cells cs an es rw => refine ⟨fun i v hv => ?_,h.2.1,h.2.2⟩;obtain ⟨a,v',h1,h2⟩:=h.1 i v hv;obtain ⟨_,v'',_,k2⟩:=k.1 i v hv;exact ⟨a,v',h1,h2.restrict hτ k2⟩
 | map es => obtain ⟨l,c,h1,h2,h3⟩:=h;obtain ⟨_,_,_,k2,_⟩:=k;exact ⟨l,c,h1,EntsR.restrict hτ h2 k2,h3⟩
 | iter s p => exact h
 | loop l => obtain ⟨r,h1,h2⟩:=h;obtain ⟨_,_,k2⟩:=k;exact ⟨r,h1,loopR.restrict hτ h2 k2⟩
 | defs ds =>
  cases ds with
  | none => exact h
  | some l => obtain ⟨l',h1,h2⟩:=h;obtain ⟨_,_,k2⟩:=k;exact ⟨l',h1,DefsR.restrict hτ h2 k2⟩
theorem ChainR.restrict (hτ:Both ρ σ τ):∀ {l x y:List PanicEntry},ChainR ρ l x→ChainR σ l y→ChainR τ l x
 | _,_,_,.nil,_ => .nil
 | _,_,_,.cons e e' l l' hv hr hg hs,h2 => by cases h2 with | cons _ _ _ _ k _ _ ks => exact .cons e e' l l' (hv.restrict hτ k) hr hg (ChainR.restrict hτ hs ks)
theorem ModeR.restrict (hτ:Both ρ σ τ) {m x y:FrameMode} (h:ModeR ρ m x) (k:ModeR σ m y):ModeR τ m x:=by cases m <;> cases x <;> simp only [ModeR] at h ⊢ <;> cases y <;> simp only [ModeR] at k;exact ChainR.restrict hτ h k
theorem UR.restrict (hτ:Both ρ σ τ) {u:Mode?} {c c':Frame} {cs cs':List Frame} (h:UR ρ u c cs) (k:UR σ u c' cs'):UR τ u c cs:=by
 cases u with
 | none => exact h
 | some m => obtain ⟨h1,c0,cs0,h2,h3⟩:=h;obtain ⟨_,_,_,_,k3⟩:=k;exact ⟨h1,c0,cs0,h2,ModeR.restrict hτ h3 k3⟩
end
def Names.below (ρ:Names) (m:Nat):Names:=fun b => if b < m then ρ b else none
theorem Names.below_eq {ρ:Names} {m b:Nat} {n:Nm}:ρ.below m b=some n ↔ b < m∧ρ b=some n:=by
 unfold Names.below;split <;> rename_i h
 ·exact ⟨fun k => ⟨h,k⟩,fun k => k.2⟩
 ·exact ⟨fun k => (by cases k),fun k => absurd k.1 h⟩
theorem Both.below {ρ σ:Names} {m:Nat} (h:∀ b n,σ b=some n→b < m):Both ρ σ (ρ.below m):=fun b n n' h1 h2 => Names.below_eq.2 ⟨h b n h1,h2⟩
theorem Names.below_le (ρ:Names) (m:Nat):(ρ.below m).le ρ:=fun _ _ h => (Names.below_eq.1 h).2
def Names.or (ρ σ:Names):Names:=fun b => match ρ b with | some n => some n | none => σ b
theorem Names.le_or (ρ σ:Names):ρ.le (ρ.or σ):=fun b n h => by unfold Names.or;rw [h]
theorem Names.or_le {ρ σ:Names} (h:∀ b n n',ρ b=some n→σ b=some n'→n=n'):σ.le (ρ.or σ):=fun b n hb => by
 unfold Names.or;cases hr:ρ b with
 | none => exact hb
 | some n' => rw [h b n' n hr hb]
theorem Names.or_eq {ρ σ:Names} {b:Nat} {n:Nm} (h:(ρ.or σ) b=some n):ρ b=some n ∨ (ρ b=none∧σ b=some n):=by
 unfold Names.or at h;cases hr:ρ b with
 | none => rw [hr] at h;exact .inr ⟨rfl,h⟩
 | some n' => rw [hr] at h;exact .inl h
namespace T
variable {α:Type}
def ofFn (f:Nat→Option α):Nat→T α
 | 0 => .leaf
 | n + 1 => (ofFn f n).put n (f n)
theorem get_ofFn (f:Nat→Option α):∀ (n k:Nat),(ofFn f n).get k=if k < n then f k else none
 | 0,k => by simp [ofFn,get]
 | n + 1,k => by
  rw [ofFn,get_put,get_ofFn f n k];by_cases h:k=n
  ·subst h;simp
  ·rw [if_neg h];by_cases h2:k < n
   ·rw [if_pos h2,if_pos (by omega)]
   ·rw [if_neg h2,if_neg (by omega)]
end T
end Go.Ab
namespace Go.Ab
def upd (h:H):Option (List Value × Nat)→H
 | none => h
 | some (cs,es) => h.new cs es
def Local (E:Env) (callee:RunF) (fr:Fr) (u:Mode?) (tm:T Value) (op:Op) (h:H) (v:Value) (u':Mode?) (h':H):Prop :=
 u'=u∧∃ a,h'=upd h a∧(a ≠ none→eyeOf h.next tm op=.block h.next) ∧
  ∀ k:H,k.next=h.next→(∀ b,eyeOf h.next tm op=.block b→k.blks.get b=h.blks.get b)→aOp E callee fr u tm op k=some (.val v u (upd k a))
section
variable {E:Env} {callee:RunF} {fr:Fr} {u u':Mode?} {tm:T Value} {op:Op} {h h':H} {v:Value}
theorem local_pure (X:Option Value) (hop:∀ k,aOp E callee fr u tm op k=ofEr u (vEr k X)) (e:aOp E callee fr u tm op h=some (.val v u' h')):Local E callee fr u tm op h v u' h':=by
 rw [hop] at e;cases X with
 | none => cases e
 | some x => cases e;exact ⟨rfl,none,rfl,fun h => absurd rfl h,fun k _ _ => by rw [hop];rfl⟩
theorem read_congr {k h:H} {b:Nat} (e:k.blks.get b=h.blks.get b) (o n:Nat):k.read b o n=h.read b o n:=by unfold H.read;rw [e]
theorem load_congr {k h:H} {b:Nat} (e:k.blks.get b=h.blks.get b) (ti:TI) (o:Nat):k.load ti b o=h.load ti b o:=by unfold H.load;rw [read_congr e,read_congr e]
theorem esIs_congr {k h:H} {b:Nat} (e:k.blks.get b=h.blks.get b) (sz:Nat):esIs k b sz=esIs h b sz:=by unfold esIs;rw [e]
theorem local_load {Γ:Ctx} {t:Nat} {a:Value} {er:Er} (e:aLoad Γ t a h=some er):∃ v,er=.val v h∧∀ k:H,(∀ b,eyeLoad a=.block b→k.blks.get b=h.blks.get b)→aLoad Γ t a k=some (.val v k):=by
 unfold aLoad at e;split at e
 ·rename_i b o ti hti;split at e
  ·rename_i v hv;cases e;refine ⟨v,rfl,fun k hk => ?_⟩;unfold aLoad;rw [hti];simp only;rw [load_congr (hk b rfl),hv]
  ·cases e
 ·cases e
theorem local_slice {Γ:Ctx} {t:Nat} {x:Value} {lo hi mx:Option Value} {er:Er} (e:aSlice Γ t x lo hi mx h=some er) :
 ∃ v,er=.val v h∧∀ k:H,(∀ b,eyeSlice x=.block b→k.blks.get b=h.blks.get b)→aSlice Γ t x lo hi mx k=some (.val v k):=by
 unfold aSlice at e;split at e
 ·rename_i hd;split at e
  ·cases e
  ·simp only at e;split at e
   ·split at e
    ·cases e;exact ⟨_,rfl,fun k _ => by unfold aSlice;simp_all⟩
    ·cases e
   ·cases e
 ·rename_i hd;split at e
  ·cases e
  ·split at e
   ·cases e
   ·split at e
    ·cases e
    ·split at e
     ·cases e
     ·split at e
      ·cases e
      ·rename_i hmx;split at e
       ·rename_i hkc;split at e
        ·cases e;exact ⟨_,rfl,fun k _ => by unfold aSlice;simp_all⟩
        ·split at e
         ·cases e;exact ⟨_,rfl,fun k _ => by unfold aSlice;simp_all⟩
         ·cases e
       ·rename_i hkc;split at e
        ·rename_i bk o hm1 hm2;split at e
         ·rename_i hes;cases e;refine ⟨_,rfl,fun k hk => ?_⟩;unfold aSlice;(have hcap:∀ cap m:Nat,∀ l,optB none l cap=some m→cap=m:=fun cap m l h => by unfold optB at h;cases h;rfl);(have hk':∀ sz,esIs k bk sz=esIs h bk sz:=fun sz => by refine esIs_congr (hk bk ?_) sz;unfold eyeSlice;have:=hcap _ _ _ hm1;subst this;simp only [hkc]);simp_all
         ·cases e
        ·cases e
 ·split at e
  ·split at e
   ·cases e
   ·split at e
    ·cases e
    ·split at e
     ·cases e;exact ⟨_,rfl,fun k _ => by unfold aSlice;simp_all⟩
     ·cases e;exact ⟨_,rfl,fun k _ => by unfold aSlice;simp_all⟩
  ·cases e
 ·cases e
theorem local_len {ts:List Nat} {args:List Value} {er:Er} (e:aBuiltin E .len ts args h=some er) :
 ∃ v,er=.val v h∧∀ k:H,(∀ b,eyeLen args=.block b→k.blks.get b=h.blks.get b)→aBuiltin E .len ts args k=some (.val v k):=by
 cases args with
 | nil => cases e
 | cons x l =>
  cases l with
  | cons y l => cases e
  | nil =>
   cases ts with
   | nil => cases e
   | cons t ts =>
    simp only [aBuiltin] at e;split at e
    ·rename_i v hv;cases e;refine ⟨v,rfl,fun k hk => ?_⟩;(have:aLen E.Γ t x k=aLen E.Γ t x h:=by unfold aLen;(split <;> try rfl);rename_i r hd;rw [hk r rfl]);simp only [aBuiltin,this,hv]
    ·cases e
theorem local_new {cs:List Value} {es:Nat} (f:Nat→Value) (heye:eyeOf h.next tm op=.block h.next) (hop:∀ k:H,aOp E callee fr u tm op k=ofEr u (some (.val (f k.next) (k.new cs es))))
 (e:aOp E callee fr u tm op h=some (.val v u' h')):Local E callee fr u tm op h v u' h':=by
 rw [hop] at e;cases e;exact ⟨rfl,some (cs,es),rfl,fun _ => heye,fun k hk _ => by rw [hop,hk];rfl⟩
theorem aOp_local (e:aOp E callee fr u tm op h=some (.val v u' h')) (hne:eyeOf h.next tm op ≠ .all):Local E callee fr u tm op h v u' h':=by
 cases op with
 | move x => exact local_pure (some (ev tm x)) (fun k => rfl) e
 | assign x => exact local_pure (some (ev tm x)) (fun k => rfl) e
 | pick c a b => refine local_pure (match ev tm c with | .bool true => some (ev tm a) | .bool false => some (ev tm b) | _ => none) (fun k => ?_) e;simp only [aOp,aPlain];split <;> simp_all [vEr,ofEr]
 | build t ps => exact local_pure (aBuild E.Γ t (evP tm ps.toList)) (fun k => rfl) e
 | nilCheck x => exact local_pure (aNilCheck (ev tm x)) (fun k => rfl) e
 | binOp o t x y z => exact local_pure (aBin E o t x y (ev tm x) (ev tm y)) (fun k => rfl) e
 | unOp o t x => exact local_pure (aUn o (ev tm x)) (fun k => rfl) e
 | makeInterface t x => refine local_pure (match descT E.Γ t with | some (.interface _) => none | some _ => some (.iface t (ev tm x)) | none => none) (fun k => ?_) e;simp only [aOp,aPlain];split <;> simp_all [vEr,ofEr]
 | makeFunc fn a b => refine local_pure (match isYield fn with | true => none | false => some (.func fn ⟨evs tm a.toList⟩ ⟨evs tm b.toList⟩)) (fun k => ?_) e;simp only [aOp,aPlain];split <;> simp_all [vEr,ofEr]
 | fieldAddr t x i => exact local_pure (aFieldAddr E.Γ t (ev tm x) i) (fun k => rfl) e
 | field t x i => exact local_pure (aField E.Γ t (ev tm x) i) (fun k => rfl) e
 | indexAddr t x i => exact local_pure (aIndexAddr E.Γ t (ev tm x) (ev tm i)) (fun k => rfl) e
 | index t x i => exact local_pure (aIndex E.Γ t (ev tm x) (ev tm i)) (fun k => rfl) e
 | extract t i => refine local_pure (match ev tm t with | .tuple vs => nth vs.toList i | _ => none) (fun k => ?_) e;simp only [aOp,aPlain];split <;> simp_all [vEr,ofEr]
 | typeAssert x y t ok => exact local_pure (aAssert E.Γ (ev tm x) t ok) (fun k => rfl) e
 | slice t x l hh m =>
  have e0:ofEr u (aSlice E.Γ t (ev tm x) (evO tm l) (evO tm hh) (evO tm m) h)=some (.val v u' h'):=e;cases hs:aSlice E.Γ t (ev tm x) (evO tm l) (evO tm hh) (evO tm m) h with
  | none => rw [hs] at e0;cases e0
  | some er => obtain ⟨v0,rfl,hk⟩:=local_slice hs;rw [hs] at e0;cases e0;exact ⟨rfl,none,rfl,fun h => absurd rfl h,fun k _ hb => by show ofEr u (aSlice E.Γ t (ev tm x) (evO tm l) (evO tm hh) (evO tm m) k)=_;rw [hk k hb];rfl⟩
 | load t a =>
  have e0:ofEr u (aLoad E.Γ t (ev tm a) h)=some (.val v u' h'):=e;cases hs:aLoad E.Γ t (ev tm a) h with
  | none => rw [hs] at e0;cases e0
  | some er => obtain ⟨v0,rfl,hk⟩:=local_load hs;rw [hs] at e0;cases e0;exact ⟨rfl,none,rfl,fun h => absurd rfl h,fun k _ hb => by show ofEr u (aLoad E.Γ t (ev tm a) k)=_;rw [hk k hb];rfl⟩
 | alloc t =>
  cases hz:zeroT E.Γ t with
  | none => simp [aOp,aPlain,hz,ofEr] at e
  | some z =>
   cases hn:noTup z with
   | false => simp [aOp,aPlain,hz,hn,ofEr] at e
   | true => exact local_new (cs:=cellsL z) (es:=0) (fun n => ptr n 0) rfl (fun k => by simp only [aOp,aPlain,hz,hn]) e
 | box t x =>
  cases hn:noTup (ev tm x) with
  | false => simp [aOp,aPlain,hn,ofEr] at e
  | true => exact local_new (cs:=cellsL (ev tm x)) (es:=0) (fun n => ptr n 0) rfl (fun k => by simp only [aOp,aPlain,hn]) e
 | buildSlice t n ps =>
  cases hx:aBuildSlice E.Γ t n (evP tm ps.toList) h with
  | none => simp [aOp,aPlain,hx,ofEr] at e
  | some er =>
   unfold aBuildSlice at hx;split at hx
   ·rename_i el hd;split at hx
    ·rename_i s z hs hz;simp only at hx;split at hx
     ·rename_i hc;split at hx
      ·rename_i l hl;refine local_new (cs:=l) (es:=s) (fun m => .slice (some (addr m 0)) n n) rfl (fun k => ?_) e;simp only [aOp,aPlain,aBuildSlice,hd,hs,hz,hc,hl]
      ·cases hx
     ·cases hx
    ·cases hx
   ·cases hx
 | call c =>
  cases hc:c.callee with
  | value f => simp [eyeOf,hc] at hne
  | invoke r m => simp [eyeOf,hc] at hne
  | builtin b =>
   cases b <;> first | (simp [eyeOf,hc] at hne;done) | skip
   ·have e0:aCall E callee fr u tm c h=some (.val v u' h'):=e;(have heye:eyeOf h.next tm (.call c)=eyeLen (evs tm c.args.toList):=by simp only [eyeOf,hc]);(have hrw:∀ k,aOp E callee fr u tm (.call c) k=ofEr u (aBuiltin E .len c.argTypes.toList (evs tm c.args.toList) k):=fun k => by simp only [aOp,aCall,hc]);rw [hrw] at e;cases hx:aBuiltin E .len c.argTypes.toList (evs tm c.args.toList) h with
    | none => rw [hx] at e;cases e
    | some er => rw [hx] at e;obtain ⟨v0,rfl,hk⟩:=local_len hx;cases e;exact ⟨rfl,none,rfl,fun h => absurd rfl h,fun k _ hb => by rw [hrw,hk k fun b hb' => hb b (by rw [heye];exact hb')];rfl⟩
   ·refine local_pure (match evs tm c.args.toList with | x :: l => aMin true x l | [] => none) (fun k => ?_) e;simp only [aOp,aCall,hc];generalize evs tm c.args.toList=args;cases args with
    | nil => rfl
    | cons x l => (simp only [aBuiltin];first | (generalize aMin true x l=r;cases r <;> rfl) | (generalize aMin false x l=r;cases r <;> rfl))
   ·refine local_pure (match evs tm c.args.toList with | x :: l => aMin false x l | [] => none) (fun k => ?_) e;simp only [aOp,aCall,hc];generalize evs tm c.args.toList=args;cases args with
    | nil => rfl
    | cons x l => (simp only [aBuiltin];first | (generalize aMin true x l=r;cases r <;> rfl) | (generalize aMin false x l=r;cases r <;> rfl))
 | _ => exact absurd rfl hne
end
end Go.Ab
namespace Go.Ab
structure Rec where
 tm:T Value
 h:H
 sn:List Seen
 on:Bool
 v:Value
 wr:List Nat
def inner (h:H):H:={ blks:=h.blks,next:=h.next,base:=h.next,wr:=[] }
def comb (h h':H):H:={ blks:=h'.blks,next:=h'.next,base:=h.base,wr:=noteAll h.base h.wr h'.wr }
section
variable {E:Env} {callee:RunF} {fr:Fr} {u:Mode?}
theorem aOp_u {tm:T Value} {op:Op} {h h':H} {v:Value} {u':Mode?} (hn:noRec op=true) (e:aOp E callee fr u tm op h=some (.val v u' h')):u'=u:=by
 have plain:ofEr u (aPlain E tm op h)=some (.val v u' h')→u'=u:=fun e => by obtain ⟨_,_,_,e2⟩:=ofEr_ok e;cases e2;rfl
 unfold aOp at e;split at e
 ·rename_i cl;unfold aCall at e;simp only at e;split at e
  ·rename_i hc;simp [noRec,hc] at hn
  ·obtain ⟨_,_,_,e2⟩:=ofEr_ok e;cases e2;rfl
  ·cases e
  ·split at e
   ·split at e
    ·split at e
     ·cases e;rfl
     ·cases e
     ·cases e
    ·cases e
   ·cases e
 ·split at e
  ·split at e
   ·split at e
    ·cases e
    ·cases e
   ·cases e
  ·cases e
 ·split at e
  ·cases e
  ·cases e
 ·exact plain e
structure StepF (E:Env) (callee:RunF) (fr:Fr) (u:Mode?) (ops:List Oper) (bs:List Nat) (j:Nat) (o:Oper) (r r':Rec):Prop where
 want:wantedL ops r.tm o.guard=r.on
 put:putD fr.sz r.tm o.dst r.v=some r'.tm
 off:r.on=false→r.v=undef∧r.wr=[]∧r'.h=r.h∧r'.sn=r.sn
 onn:r.on=true→∃ h',aOp E callee fr u r.tm o.op (inner r.h)=some (.val r.v u h')∧h'.wr=r.wr∧agrees bs j (eyeOf r.h.next r.tm o.op) r.wr r.sn=true∧r'.h=comb r.h h' ∧
  r'.sn=⟨j,eyeOf r.h.next r.tm o.op,r.wr⟩ :: r.sn
def FinF (E:Env) (callee:RunF) (fr:Fr) (u:Mode?) (ops:List Oper) (bs:List Nat) (dfs:List Deferred) (N:Nat) (r:Rec) (rr:RR):Prop :=
 (N=ops.length∧rr=.fin r.tm dfs u r.h) ∨
 ∃ o ch u1 h',ops[N]?=some o∧wantedL ops r.tm o.guard=true∧aOp E callee fr u r.tm o.op (inner r.h)=some (.pan ch u1 h')∧alone bs N 0 ops=true∧rr=.pan ch r.tm dfs u1 (comb r.h h')
def TraceOf (E:Env) (callee:RunF) (fr:Fr) (u:Mode?) (ops:List Oper) (bs:List Nat) (dfs:List Deferred) (i:Nat) (sn:List Seen) (tm:T Value) (h:H) (rr:RR):Prop :=
 ∃ (N:Nat) (R:Nat→Rec),i ≤ N∧N ≤ ops.length∧(R i).tm=tm∧(R i).h=h∧(R i).sn=sn ∧
  (∀ j,i ≤ j→j < N→∃ o,ops[j]?=some o∧StepF E callee fr u ops bs j o (R j) (R (j + 1)))∧FinF E callee fr u ops bs dfs N (R N) rr
theorem trace {ops:List Oper} {bs:List Nat} {dfs:List Deferred} (hrec:∀ o,o ∈ ops→noRec o.op=true):∀ (rest:List Oper) (i:Nat) (sn:List Seen) (tm:T Value) (h:H) (rr:RR),ops.drop i=rest→i ≤ ops.length →
 aOpsD E callee fr ops bs i rest sn tm dfs u h=some rr→TraceOf E callee fr u ops bs dfs i sn tm h rr:=by
 intro rest;induction rest with
 | nil =>
  intro i sn tm h rr hd hi e;cases e;have hlen:i=ops.length:=by have:=congrArg List.length hd;simp at this;omega
  exact ⟨i,fun _ => ⟨tm,h,sn,false,undef,[]⟩,Nat.le_refl _,hi,rfl,rfl,rfl,fun j h1 h2 => by omega,.inl ⟨hlen,rfl⟩⟩
 | cons o rest ih =>
  intro i sn tm h rr hd hi e;have ho:ops[i]?=some o:=by (have:(ops.drop i)[0]?=some o:=by rw [hd];rfl);rw [List.getElem?_drop] at this;simpa using this
  have hlt:i < ops.length:=(List.getElem?_eq_some_iff.1 ho).1;have hd':ops.drop (i + 1)=rest:=by rw [← List.drop_drop,hd];rfl
  have hno:=hrec o (List.mem_of_getElem? ho);have cont:∀ (r:Rec) (sn':List Seen) (tm':T Value) (h':H),r.tm=tm→r.h=h→r.sn=sn →
   (∀ r':Rec,r'.tm=tm'→r'.h=h'→r'.sn=sn'→StepF E callee fr u ops bs i o r r')→aOpsD E callee fr ops bs (Nat.succ i) rest sn' tm' dfs u h'=some rr→TraceOf E callee fr u ops bs dfs i sn tm h rr :=
   fun r sn' tm' h' q1 q2 q3 q4 e' => by
    obtain ⟨N,R,k1,k2,k3,k4,k5,k6,k7⟩:=ih (i + 1) sn' tm' h' rr hd' hlt e';refine ⟨N,fun j => if j=i then r else R j,by omega,k2,?_,?_,?_,?_,?_⟩
    ·simp [q1]
    ·simp [q2]
    ·simp [q3]
    ·intro j h1 h2;by_cases hj:j=i
     ·subst hj;refine ⟨o,ho,?_⟩;simp only [if_true];rw [if_neg (by omega)];exact q4 _ k3 k4 k5
     ·simp only [if_neg hj];rw [if_neg (by omega)];exact k6 j (by omega) h2
    ·(have:N ≠ i:=by omega);simp only [if_neg this];exact k7
  simp only [aOpsD] at e;split at e
  ·rename_i hw;split at e
   ·rename_i tm' hp;exact cont ⟨tm,h,sn,false,undef,[]⟩ sn tm' h rfl rfl rfl (fun r' e1 e2 e3 => ⟨hw,by rw [e1];exact hp,fun _ => ⟨rfl,rfl,e2,e3⟩,fun h => (by cases h)⟩) e
   ·cases e
  ·rename_i hw;split at e
   ·cases e
   ·rename_i v u1 h1 hop;have hu:=aOp_u hno hop;subst hu;split at e
    ·rename_i hag;split at e
     ·rename_i tm' hp;exact cont ⟨tm,h,sn,true,v,h1.wr⟩ _ tm' _ rfl rfl rfl (fun r' e1 e2 e3 => ⟨hw,by rw [e1];exact hp,fun h => (by cases h),fun _ => ⟨h1,hop,rfl,hag,e2,e3⟩⟩) e
     ·cases e
    ·cases e
   ·cases e
   ·rename_i ch u1 h1 hop;split at e
    ·rename_i hal;cases e;exact ⟨i,fun _ => ⟨tm,h,sn,true,undef,[]⟩,Nat.le_refl _,hi,rfl,rfl,rfl,fun j h1 h2 => by omega,.inr ⟨o,ch,u1,h1,ho,hw,hop,hal,rfl⟩⟩
    ·cases e
end
end Go.Ab
