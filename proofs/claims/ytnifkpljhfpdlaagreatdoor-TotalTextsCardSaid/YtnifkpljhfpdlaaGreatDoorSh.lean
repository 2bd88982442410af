/- What is proved: a part of the soundness of the abstract machine (a run of it stands for the run of the model, whatever the tape). Conditions stand in each theorem. -/
import Derived.Test.YtnifkpljhfpdlaaGreatDoorSg
import Derived.Orders
set_option linter.unusedVariables false
set_option linter.unusedSimpArgs false
namespace Go.Ab
inductive Sched (n:Nat) (pre:Nat→Nat→Bool):(Nat→Bool)→List Nat→Prop
 | nil (D:Nat→Bool) (h:∀ j,j < n→D j=true):Sched n pre D []
 | cons (D:Nat→Bool) (i:Nat) (rest:List Nat) (hi:i < n) (hD:D i=false) (hp:∀ j,pre i j=true→D j=true) (hs:Sched n pre (fun j => D j || Nat.beq j i) rest):Sched n pre D (i :: rest)
section
theorem bits_mem (acc:List Nat) (j:Nat):∀ (l:List Edge) (s:Nat),Nat.testBit (orderBits.bits acc l s) j=true →
 Nat.testBit s j=true ∨ ∃ e,e ∈ l∧Region.binds .any e=true∧(j=e.on ∨ ∃ b,acc[e.on]?=some b∧Nat.testBit b j=true)
 | [],s,h => .inl h
 | e :: l, s,h => by
  simp only [orderBits.bits] at h;split at h
  ·rename_i hb;rcases bits_mem acc j l _ h with h1 | ⟨e',h1,h2⟩
   ·(have e1:∀ a b:Nat,Nat.lor a b=a ||| b:=fun _ _ => rfl);rw [e1,e1,Nat.testBit_or,Nat.testBit_or] at h1;simp only [Bool.or_eq_true] at h1;rcases h1 with h1 | h1 | h1
    ·exact .inl h1
    ·have:Nat.pow 2 e.on=2 ^ e.on:=rfl;rw [this,Nat.testBit_two_pow] at h1;simp only [decide_eq_true_eq] at h1;exact .inr ⟨e,List.mem_cons_self ..,hb,.inl h1.symm⟩
    ·rw [nth_eq] at h1;cases hx:acc[e.on]? with
     | none => rw [hx] at h1;simp at h1
     | some b => rw [hx] at h1;exact .inr ⟨e,List.mem_cons_self ..,hb,.inr ⟨b,hx,h1⟩⟩
   ·exact .inr ⟨e',List.mem_cons_of_mem _ h1,h2⟩
  ·rcases bits_mem acc j l _ h with h1 | ⟨e',h1,h2⟩
   ·exact .inl h1
   ·exact .inr ⟨e',List.mem_cons_of_mem _ h1,h2⟩
theorem orderBits_take:∀ (l:List Oper) (acc:List Nat),(orderBits acc l).take acc.length=acc∧acc.length ≤ (orderBits acc l).length
 | [],acc => by simp [orderBits]
 | o :: l,acc => by obtain ⟨h1,h2⟩:=orderBits_take l (acc ++ [orderBits.bits acc o.after.toList 0]);simp only [orderBits];simp only [List.length_append,List.length_cons,List.length_nil] at h1 h2;refine ⟨?_,by omega⟩;have:=congrArg (List.take acc.length) h1;rw [List.take_take] at this;simp only [List.take_left] at this;rw [Nat.min_eq_left (by omega)] at this;exact this
theorem orderBits_at:∀ (l:List Oper) (acc:List Nat) (k:Nat) (o:Oper),l[k]?=some o→(orderBits acc l)[acc.length + k]?=some (orderBits.bits ((orderBits acc l).take (acc.length + k)) o.after.toList 0)
 | [],acc,k,o,h => by simp at h
 | x :: l,acc,0,o,h => by
  simp at h;subst h;simp only [orderBits,Nat.add_zero];obtain ⟨h1,h2⟩:=orderBits_take l (acc ++ [orderBits.bits acc x.after.toList 0]);have h3:(orderBits (acc ++ [orderBits.bits acc x.after.toList 0]) l).take acc.length=acc:=by have:=congrArg (List.take acc.length) h1;rw [List.take_take] at this;simp only [List.take_left,List.length_append,List.length_cons,List.length_nil] at this;rw [Nat.min_eq_left (by omega)] at this;exact this
  rw [h3];have h4:((orderBits (acc ++ [orderBits.bits acc x.after.toList 0]) l).take (acc ++ [orderBits.bits acc x.after.toList 0]).length)[acc.length]?=some (orderBits.bits acc x.after.toList 0):=by rw [h1];simp
  rw [List.getElem?_take] at h4;simpa using h4
 | x :: l,acc,k + 1,o,h => by have:=orderBits_at l (acc ++ [orderBits.bits acc x.after.toList 0]) k o (by simpa using h);simp only [orderBits];simp only [List.length_append,List.length_cons,List.length_nil] at this;rw [show acc.length + (k + 1)=acc.length + (0 + 1) + k from by omega];exact this
theorem bit_mem {ops:List Oper} {i j:Nat} {o:Oper} (ho:ops[i]?=some o) (h:bitOf (orderBits [] ops) i j=true) :
 ∃ e,e ∈ o.after.toList∧Region.binds .any e=true∧(j=e.on ∨ (e.on < i∧bitOf (orderBits [] ops) e.on j=true)):=by
 have hb:=orderBits_at ops [] i o ho;simp only [List.length_nil,Nat.zero_add] at hb;unfold bitOf at h;rw [nth_eq,hb] at h;simp only at h;rcases bits_mem _ _ _ _ h with h1 | ⟨e,h1,h2,h3⟩
 ·simp at h1
 ·refine ⟨e,h1,h2,?_⟩;rcases h3 with h3 | ⟨b,h3,h4⟩
  ·exact .inl h3
  ·rw [List.getElem?_take] at h3;split at h3
   ·rename_i hlt;refine .inr ⟨hlt,?_⟩;unfold bitOf;rw [nth_eq,h3];exact h4
   ·cases h3
end
section
variable {ops:Array Oper}
def closedD (bs:List Nat) (D:Nat→Bool):Prop:=∀ i j,D i=true→bitOf bs i j=true→D j=true
theorem sched_of (hr:∀ (i:Nat) o,ops[i]?=some o→∀ e,e ∈ o.after.toList→Region.binds .any e=true→e.on < i) :
 ∀ (fuel t:Nat) (listed:Array Bool) (l:List Nat),listed.size=ops.size→l.length ≤ fuel→(∀ i,i < ops.size→listed.getD i true=false→i ∈ l)→closedD (orderBits [] ops.toList) (fun j => listed.getD j false) →
  Sched ops.size (bitOf (orderBits [] ops.toList)) (fun j => listed.getD j false) (Region.linearise.go .any ops fuel t listed []):=by
 intro fuel;have hget:∀ (listed:Array Bool) (i:Nat),listed.size=ops.size→i < ops.size→listed.getD i true=listed.getD i false:=by intro listed i hs hi;simp [hs,hi]
 induction fuel with
 | zero =>
  intro t listed l hs hl hu hc;simp only [Region.linearise.go,List.reverse_nil];refine .nil _ fun j hj => ?_;cases hx:listed.getD j false with
  | true => rfl
  | false => have:=hu j hj (by rw [hget _ _ hs hj];exact hx);(have:l=[]:=by cases l with | nil => rfl | cons => simp at hl);subst this;simp at *
 | succ fuel ih =>
  intro t listed l hs hl hu hc;simp only [Region.linearise.go];change Sched _ _ _ (match (Region.ready .any ops listed)[t % (Region.ready .any ops listed).length]? with
   | some i => Region.linearise.go .any ops fuel (t / (Region.ready .any ops listed).length) (listed.setIfInBounds i true) [i]
   | none => [].reverse)
  split
  ·rename_i i hi;have hmem:=List.mem_of_getElem? hi;unfold Region.ready at hmem;rw [List.mem_filter] at hmem;obtain ⟨m1,m2⟩:=hmem;rw [List.mem_range] at m1;simp only [Bool.and_eq_true,Bool.not_eq_true'] at m2;obtain ⟨m2,m3⟩:=m2;cases ho:ops[i]? with
   | none => rw [ho] at m3;simp at m3
   | some o =>
    rw [ho] at m3;simp only [Option.map_some,Option.getD_some] at m3;(have hafter:∀ e,e ∈ o.after.toList→Region.binds .any e=true→listed.getD e.on false=true:=by intro e he hb;rw [← Array.all_toList] at m3;have:=List.all_eq_true.1 m3 e he;simp only [hb,Bool.not_true,Bool.false_or] at this;exact this);have hpre:∀ j,bitOf (orderBits [] ops.toList) i j=true→listed.getD j false=true:=by
     intro j hj;obtain ⟨e,h1,h2,h3⟩:=bit_mem (by rw [Array.getElem?_toList];exact ho) hj;rcases h3 with rfl | ⟨h3,h4⟩
     ·exact hafter e h1 h2
     ·exact hc e.on j (hafter e h1 h2) h4
    have hD:(fun j => (listed.setIfInBounds i true).getD j false)=fun j => listed.getD j false || Nat.beq j i:=by
     funext j;simp only [Array.getD_eq_getD_getElem?,Array.getElem?_setIfInBounds];by_cases e:i=j
     ·subst e;rw [if_pos rfl,if_pos (by omega)];(have:Nat.beq i i=true:=by simp);rw [this];simp
     ·rw [if_neg e];have:Nat.beq j i=false:=by
       cases hx:Nat.beq j i with
       | false => rfl
       | true => exact absurd (Nat.eq_of_beq_eq_true hx).symm e
      rw [this];simp
    rw [linearise_go_acc,List.reverse_singleton,List.singleton_append];refine .cons _ i _ m1 (by rw [← hget _ _ hs m1];exact m2) hpre ?_;rw [← hD];refine ih _ _ (l.erase i) (by simp [hs]) ?_ ?_ ?_
    ·have:=hu i m1 m2;rw [List.length_erase_of_mem this];omega
    ·intro j hj hju;rw [hget _ _ (by simp [hs]) hj] at hju;have:=congrFun hD j;rw [this] at hju;simp only [Bool.or_eq_false_iff] at hju;(have hne:j ≠ i:=by rintro rfl;(have:Nat.beq j j=true:=by simp);rw [this] at hju;cases hju.2);exact (List.mem_erase_of_ne hne).2 (hu j hj (by rw [hget _ _ hs hj];exact hju.1))
    ·rw [hD];intro a b ha hb;simp only [Bool.or_eq_true] at ha ⊢;rcases ha with ha | ha
     ·exact .inl (hc a b ha hb)
     ·have:=Nat.eq_of_beq_eq_true ha;subst this;exact .inl (hpre b hb)
  ·rename_i hnone;have hnil:Region.ready .any ops listed=[]:=by
    cases hr:Region.ready .any ops listed with
    | nil => rfl
    | cons x xs => rw [hr] at hnone;have hlt:t % (x :: xs).length < (x :: xs).length:=Nat.mod_lt _ (by simp);rw [List.getElem?_eq_none_iff] at hnone;omega
   refine .nil _ fun j => ?_;induction j using Nat.strongRecOn with
   | ind j ihj =>
    intro hj;cases hx:listed.getD j false with
    | true => rfl
    | false =>
     exfalso;have:j ∈ Region.ready .any ops listed:=by
      unfold Region.ready;rw [List.mem_filter];refine ⟨List.mem_range.2 hj,?_⟩;simp only [Bool.and_eq_true,Bool.not_eq_true'];refine ⟨by rw [hget _ _ hs hj];exact hx,?_⟩;(have ho:ops[j]?=some ops[j]:=by simp [hj]);rw [ho];simp only [Option.map_some,Option.getD_some];rw [← Array.all_toList,List.all_eq_true];intro e he;cases hb:Region.binds .any e with
      | false => rfl
      | true => have hlt:=hr j _ ho e he hb;simp [ihj e.on hlt (by omega)]
     rw [hnil] at this;cases this
end
end Go.Ab
namespace Go.Ab
theorem noteAll_iff {base x:Nat} {l wr:List Nat}:x ∈ noteAll base wr l ↔ x ∈ wr ∨ (x ∈ l∧x < base):=noteAll_mem base l wr x
theorem HR.inner {E:Env} {ρ:Names} {h:H} {w:World} (r:HR E ρ h w):HR E ρ (inner h) w :=
 ⟨r.live,r.anc,r.dom,r.blk,r.sep,Nat.le_refl _,fun b hb => by cases hb⟩
theorem HR.comb {E:Env} {ρ':Names} {h h':H} {w':World} (hb:h.base ≤ h.next) (hw:∀ b,b ∈ h.wr→b < h.base) (hn:h.next ≤ h'.next) (r:HR E ρ' h' w'):HR E ρ' (comb h h') w' :=
 ⟨r.live,r.anc,r.dom,r.blk,r.sep,Nat.le_trans hb hn,fun b hx => by
  rcases noteAll_iff.1 hx with hx | hx
  ·exact hw b hx
  ·exact hx.2⟩
theorem Ev.comb {ρ ρ':Names} {h h':H} {w w':World} (hb:h.base ≤ h.next) (hd:∀ b n,ρ b=some n→b < h.next) (e:Ev ρ (inner h) w ρ' h' w'):Ev ρ h w ρ' (comb h h') w' where
 le:=e.le
 fresh:=e.fresh
 named:=e.named
 next:=e.next
 base:=rfl
 wr:=fun b hx => noteAll_iff.2 (.inl hx)
 keep:=fun b hx hn => e.keep b (Nat.lt_of_lt_of_le hx hb) fun hw => hn (noteAll_iff.2 (.inr ⟨hw,hx⟩))
 size:=e.size
 out:=e.out
 same:=by
  intro Pr h1 h2;obtain ⟨a1,a2⟩:=e.same Pr (fun b n hn hor => by
   rcases hor with hor | hor
   ·have:h.next ≤ b:=hor;have:=hd b n hn;omega
   ·by_cases hlt:h.base ≤ b
    ·exact h1 b n hn (.inl hlt)
    ·exact h1 b n hn (.inr (noteAll_iff.2 (.inr ⟨hor,by omega⟩)))) h2
  refine ⟨fun b n hn hor => ?_,a2⟩;cases h0:ρ b with
  | some m => have:=e.le b m h0;rw [this] at hn;cases hn;exact h1 b _ h0 hor
  | none => exact a1 b n hn (.inl (e.fresh b n hn h0))
section
variable {E:Env} {callee:RunF} {fr:Fr} {u:Mode?} {ops:Array Oper} {bs:List Nat} {N:Nat} {R:Nat→Rec}
def Steps1 (E:Env) (callee:RunF) (fr:Fr) (u:Mode?) (ops:List Oper) (bs:List Nat) (N:Nat) (R:Nat→Rec):Prop :=
 ∀ j,j < N→∃ o,ops[j]?=some o∧StepF E callee fr u ops bs j o (R j) (R (j + 1))
structure At (E:Env) (fr:Fr) (u:Mode?) (ρ0:Names) (h0:H) (w0:World) (c0:Frame) (r:Rec):Prop where
 ex:∃ (ρ:Names) (w:World) (c:Frame) (cs:List Frame),HR E ρ r.h w∧TR ρ fr.sz r.tm c.tmps∧Ev ρ0 h0 w0 ρ r.h w∧UR ρ u c cs∧c.roundOf=c0.roundOf
structure Go1 (r r':Rec):Prop where
 next:r.h.next ≤ r'.h.next
 keep:∀ b,b < r.h.next→b ∉ r.wr→r'.h.blks.get b=r.h.blks.get b
 low:∀ b,b ∈ r.wr→b < r.h.next
 base:r'.h.base=r.h.base
 wr:∀ b,b ∈ r'.h.wr ↔ b ∈ r.h.wr ∨ (b ∈ r.wr∧b < r.h.base)
theorem okQ {E:Env} {ops:List Oper} (hops:ops.all (okOper E)=true) {i:Nat} {o:Oper} (ho:ops[i]?=some o):okL (fun x => okO E x=true∧x ∈ opsOf o.op) (opsOf o.op):=by have:=List.all_eq_true.1 hops o (List.mem_of_getElem? ho);exact fun x hx => ⟨List.all_eq_true.1 this x hx,hx⟩
theorem text_step (g:GoodC E) (hst:StubOk E) (sF:SimF E callee) (sR:SimR E callee) (hops:ops.toList.all (okOper E)=true) {ρ0:Names} {h0:H} {w0:World} {c0:Frame}
 (hg:GlobR E ρ0) (hr:RoundR ρ0 fr.round c0.roundOf) (hb0:h0.base ≤ h0.next) (st:Steps1 E callee fr u ops.toList bs N R) {i:Nat} (hi:i < N) (a:At E fr u ρ0 h0 w0 c0 (R i)) :
 At E fr u ρ0 h0 w0 c0 (R (i + 1))∧Go1 (R i) (R (i + 1)):=by
 obtain ⟨ρ,w,c,cs,a1,a2,a3,a4,a5⟩:=a.ex;obtain ⟨o,ho,s⟩:=st i hi;have hbase:(R i).h.base ≤ (R i).h.next:=a1.base;cases hon:(R i).on with
 | false => obtain ⟨q1,q2,q3,q4⟩:=s.off hon;have hp:=s.put;rw [q1] at hp;refine ⟨⟨ρ,w,{ c with tmps:=putA c.tmps o.dst undef },cs,by rw [q3];exact a1,a2.put (.tuple _ _ .nil) hp,by rw [q3];exact a3,a4.of_kind rfl,a5⟩,?_⟩;refine ⟨by rw [q3];exact Nat.le_refl _,fun b _ _ => by rw [q3],fun b hb => (by rw [q2] at hb;cases hb),by rw [q3],fun b => by rw [q3,q2];simp⟩
 | true =>
  obtain ⟨h',q1,q2,q3,q4,q5⟩:=s.onn hon;have hoA:ops[i]?=some o:=by rw [← Array.getElem?_toList];exact ho
  let c1:Frame:={ c with todo:=[.inRegion ops [i]],mode:=.run };have hw:Region.wanted o (yielded ops c1.tmps)=true:=by have:TR ρ fr.sz (R i).tm c1.tmps:=a2;rw [wanted_ok this,s.want,hon]
  have hop:=aOp_ok (c:=c1) (cs:=cs) (rest:=[]) (k:=[]) (fr:=fr) g hst sF sR q1 a1.inner (hg.mono a3.le) (Q:=fun x => okO E x=true∧x ∈ opsOf o.op)
   (fun x hx => (TR.evR (c:=c1) a2 (hg.mono a3.le)) x hx.1) (okQ hops ho) (a4.of_kind rfl) (by rw [show c1.roundOf=c0.roundOf from a5];exact hr.mono a3.le) rfl rfl hoA hw
  obtain ⟨ρ',w',v',cs',k1,k2,k3,k4,k5,k6⟩:=hop;have hdom:∀ b n,ρ b=some n→b < (R i).h.next:=fun b n hb => (a1.dom b n hb).1;have hc:=HR.comb hbase a1.wr k4.next k3;have he:=Ev.comb hbase hdom k4;rw [← q4] at hc he;refine ⟨⟨ρ',w',{ c with tmps:=putA c.tmps o.dst v' },cs',hc,(a2.mono k4.le).put k2 s.put,a3.trans he hb0,k5.of_kind rfl,a5⟩,?_⟩;refine ⟨by rw [q4];exact k4.next,fun b hb hn => ?_,fun b hb => ?_,by rw [q4];rfl,fun b => ?_⟩
  ·rw [q4];exact k4.keep b hb (by rw [q2];exact hn)
  ·have:=k3.wr b (by rw [q2];exact hb);rw [k4.base] at this;exact this
  ·rw [q4];show b ∈ noteAll _ _ _ ↔ _;rw [noteAll_iff,q2]
theorem text_run (g:GoodC E) (hst:StubOk E) (sF:SimF E callee) (sR:SimR E callee) (hops:ops.toList.all (okOper E)=true) {ρ0:Names} {w0:World} {c0:Frame} {cs0:List Frame}
 (hg:GlobR E ρ0) (hr:RoundR ρ0 fr.round c0.roundOf) (r0:HR E ρ0 (R 0).h w0) (ht:TR ρ0 fr.sz (R 0).tm c0.tmps) (hu:UR ρ0 u c0 cs0) (st:Steps1 E callee fr u ops.toList bs N R) :
 (∀ i,i ≤ N→At E fr u ρ0 (R 0).h w0 c0 (R i))∧∀ i,i < N→Go1 (R i) (R (i + 1)):=by
 have h0:At E fr u ρ0 (R 0).h w0 c0 (R 0):=⟨ρ0,w0,c0,cs0,r0,ht,Ev.refl _ _ _,hu,rfl⟩;have h1:∀ i,i ≤ N→At E fr u ρ0 (R 0).h w0 c0 (R i):=by
  intro i;induction i with
  | zero => exact fun _ => h0
  | succ i ih => exact fun hi => (text_step g hst sF sR hops hg hr r0.base st hi (ih (by omega))).1
 exact ⟨h1,fun i hi => (text_step g hst sF sR hops hg hr r0.base st hi (h1 i (by omega))).2⟩
end
end Go.Ab
namespace Go.Ab
section
variable (ops:Array Oper) (N:Nat) (R:Nat→Rec)
def nx (R:Nat→Rec) (i:Nat):Nat:=(R i).h.next
def touch (R:Nat→Rec) (i b:Nat):Bool:=(R i).on && (memN b (R i).wr || (Nat.ble (nx R i) b && Nat.ble (b + 1) (nx R (i + 1))))
def verAt (R:Nat→Rec) (D:Nat→Bool):Nat→Nat→Option Blk
 | 0,b => (R 0).h.blks.get b
 | i + 1,b => if (D i && touch R i b)=true then (R (i + 1)).h.blks.get b else verAt R D i b
def eyeAt (ops:Array Oper) (R:Nat→Rec) (i:Nat):Eye:=match ops[i]? with
 | some o => eyeOf (R i).h.next (R i).tm o.op
 | none => .all
def add (D:Nat→Bool) (i:Nat):Nat→Bool:=fun j => D j || Nat.beq j i
structure Txt (E:Env) (callee:RunF) (fr:Fr) (u:Mode?):Prop where
 st:Steps1 E callee fr u ops.toList (orderBits [] ops.toList) N R
 go:∀ i,i < N→Go1 (R i) (R (i + 1))
 live:∀ i b x,i ≤ N→(R i).h.blks.get b=some x→b < nx R i
 anc:∀ i b cs an es rw,i ≤ N→(R i).h.blks.get b=some (.cells cs an es rw)→∀ a,a ∈ an→a < b
 sn0:(R 0).sn=[]
end
theorem add_true {D:Nat→Bool} {i j:Nat}:add D i j=true ↔ D j=true ∨ j=i:=by
 unfold add;rw [Bool.or_eq_true];constructor
 ·rintro (h | h)
  ·exact .inl h
  ·exact .inr (Nat.eq_of_beq_eq_true h)
 ·rintro (h | rfl)
  ·exact .inl h
  ·exact .inr (by simp)
theorem touch_iff {R:Nat→Rec} {i b:Nat}:touch R i b=true ↔ (R i).on=true∧(b ∈ (R i).wr ∨ (nx R i ≤ b∧b < nx R (i + 1))):=by unfold touch;rw [Bool.and_eq_true,Bool.or_eq_true,Bool.and_eq_true,memN_iff,ble_iff,ble_iff];exact ⟨fun h => ⟨h.1,h.2.imp id fun h => ⟨h.1,by omega⟩⟩,fun h => ⟨h.1,h.2.imp id fun h => ⟨h.1,by omega⟩⟩⟩
theorem agrees_mem {bs:List Nat} {j:Nat} {e:Eye} {w:List Nat}:∀ {l:List Seen},agrees bs j e w l=true→∀ s,s ∈ l→bitOf bs j s.at_=true ∨ either s.eye s.wr e w=true
 | [],_,s,h => by cases h
 | x :: l,h,s,hs => by
  simp only [agrees,Bool.and_eq_true,Bool.or_eq_true] at h;rcases List.mem_cons.1 hs with rfl | hs
  ·exact h.1
  ·exact agrees_mem h.2 s hs
section
variable {ops:Array Oper} {N:Nat} {R:Nat→Rec} {E:Env} {callee:RunF} {fr:Fr} {u:Mode?}
theorem Txt.op (X:Txt ops N R E callee fr u) {i:Nat} (hi:i < N):∃ o,ops[i]?=some o∧StepF E callee fr u ops.toList (orderBits [] ops.toList) i o (R i) (R (i + 1)):=by obtain ⟨o,h1,h2⟩:=X.st i hi;exact ⟨o,by rw [← Array.getElem?_toList];exact h1,h2⟩
theorem Txt.offH (X:Txt ops N R E callee fr u) {i:Nat} (hi:i < N) (h:(R i).on=false):(R (i + 1)).h=(R i).h∧(R i).wr=[]:=by obtain ⟨o,_,s⟩:=X.op hi;have:=s.off h;exact ⟨this.2.2.1,this.2.1⟩
theorem Txt.mono (X:Txt ops N R E callee fr u) {i j:Nat} (hij:i ≤ j) (hj:j ≤ N):nx R i ≤ nx R j:=by
 induction j with
 | zero => have:i=0:=by omega
           subst this;exact Nat.le_refl _
 | succ j ih =>
  by_cases e:i=j + 1
  ·subst e;exact Nat.le_refl _
  ·exact Nat.le_trans (ih (by omega) (by omega)) (X.go j (by omega)).next
theorem Txt.sn (X:Txt ops N R E callee fr u) {i:Nat} (hi:i ≤ N):∀ j,j < i→(R j).on=true→⟨j,eyeAt ops R j,(R j).wr⟩ ∈ (R i).sn:=by
 induction i with
 | zero => intro j h;omega
 | succ i ih =>
  intro j hj hon;obtain ⟨o,ho,s⟩:=X.op (show i < N by omega);by_cases e:j=i
  ·subst e;obtain ⟨h',q1,q2,q3,q4,q5⟩:=s.onn hon;rw [q5];unfold eyeAt;rw [ho];exact List.mem_cons_self ..
  ·have:=ih (by omega) j (by omega) hon;cases hi':(R i).on with
   | false => rw [(s.off hi').2.2.2];exact this
   | true => obtain ⟨h',q1,q2,q3,q4,q5⟩:=s.onn hi';rw [q5];exact List.mem_cons_of_mem _ this
theorem Txt.pw (X:Txt ops N R E callee fr u) {j i:Nat} (hji:j < i) (hi:i < N) (hj1:(R j).on=true) (hi1:(R i).on=true) :
 bitOf (orderBits [] ops.toList) i j=true ∨ either (eyeAt ops R j) (R j).wr (eyeAt ops R i) (R i).wr=true:=by
 obtain ⟨o,ho,s⟩:=X.op hi;obtain ⟨h',q1,q2,q3,q4,q5⟩:=s.onn hi1;have:=agrees_mem q3 _ (X.sn (by omega) j hji hj1);rw [show eyeAt ops R i=eyeOf (R i).h.next (R i).tm o.op from by unfold eyeAt;rw [ho]];exact this
theorem Txt.loc (X:Txt ops N R E callee fr u) {i:Nat} (hi:i < N) (hon:(R i).on=true) (he:eyeAt ops R i ≠ .all):∃ o a,ops[i]?=some o∧(R i).wr=[]∧(R (i + 1)).h.blks=(upd (inner (R i).h) a).blks∧(R (i + 1)).h.next=(upd (inner (R i).h) a).next ∧
 (a ≠ none→eyeAt ops R i=.block (nx R i))∧∀ k:H,k.next=(R i).h.next→(∀ b,eyeAt ops R i=.block b→k.blks.get b=(R i).h.blks.get b)→aOp E callee fr u (R i).tm o.op k=some (.val (R i).v u (upd k a)):=by
 obtain ⟨o,ho,s⟩:=X.op hi;obtain ⟨h',q1,q2,q3,q4,q5⟩:=s.onn hon;have heq:eyeAt ops R i=eyeOf (R i).h.next (R i).tm o.op:=by unfold eyeAt;rw [ho]
 rw [heq] at he ⊢;obtain ⟨_,a,k1,k2,k3⟩:=aOp_local q1 he;refine ⟨o,a,ho,?_,by rw [q4,k1];rfl,by rw [q4,k1];rfl,k2,k3⟩;rw [← q2,k1];cases a with
 | none => rfl
 | some x => rfl
theorem Txt.loc_wr (X:Txt ops N R E callee fr u) {i:Nat} (hi:i < N) (h:(R i).wr ≠ []):(R i).on=true∧eyeAt ops R i=.all:=by
 cases hon:(R i).on with
 | false => exact absurd (X.offH hi hon).2 h
 | true =>
  refine ⟨rfl,?_⟩;cases he:eyeAt ops R i with
  | all => rfl
  | quiet => obtain ⟨_,_,_,k,_⟩:=X.loc hi hon (by rw [he];exact fun h => by cases h);exact absurd k h
  | block b => obtain ⟨_,_,_,k,_⟩:=X.loc hi hon (by rw [he];exact fun h => by cases h);exact absurd k h
theorem Txt.loc_nx (X:Txt ops N R E callee fr u) {i:Nat} (hi:i < N) (hon:(R i).on=true) (he:eyeAt ops R i ≠ .all):nx R (i + 1) ≤ nx R i + 1∧(nx R i < nx R (i + 1)→eyeAt ops R i=.block (nx R i)):=by
 obtain ⟨o,a,_,_,_,k3,k4,_⟩:=X.loc hi hon he;have:nx R (i + 1)=(upd (inner (R i).h) a).next:=k3
 rw [this];cases a with
 | none => exact ⟨Nat.le_succ _,fun h => absurd h (Nat.lt_irrefl _)⟩
 | some x => exact ⟨Nat.le_refl _,fun _ => k4 (fun h => by cases h)⟩
theorem Txt.on_of_lt (X:Txt ops N R E callee fr u) {i:Nat} (hi:i < N) (h:nx R i < nx R (i + 1)):(R i).on=true:=by
 cases hon:(R i).on with
 | true => rfl
 | false => have:=(X.offH hi hon).1;unfold nx at h;rw [this] at h;omega
theorem Txt.uniq (X:Txt ops N R E callee fr u) {i j b:Nat} (hi:i < N) (hj:j < N) (h1:nx R i ≤ b) (h2:b < nx R (i + 1)) (h3:nx R j ≤ b) (h4:b < nx R (j + 1)):i=j:=by
 rcases Nat.lt_trichotomy i j with h | h | h
 ·have:=X.mono (show i + 1 ≤ j by omega) (by omega);omega
 ·exact h
 ·have:=X.mono (show j + 1 ≤ i by omega) (by omega);omega
theorem Txt.same (X:Txt ops N R E callee fr u) {i b:Nat} (hi:i < N) (h:touch R i b=false):(R (i + 1)).h.blks.get b=(R i).h.blks.get b:=by
 cases hon:(R i).on with
 | false => rw [(X.offH hi hon).1]
 | true =>
  have hn:¬ (b ∈ (R i).wr ∨ (nx R i ≤ b∧b < nx R (i + 1))):=fun hh => by have:=touch_iff.2 ⟨hon,hh⟩;rw [h] at this;cases this
  by_cases hlt:b < nx R i
  ·exact (X.go i hi).keep b hlt fun hw => hn (.inl hw)
  ·have e1:(R i).h.blks.get b=none:=by
    cases hx:(R i).h.blks.get b with
    | none => rfl
    | some x => exact absurd (X.live i b x (by omega) hx) hlt
   have e2:(R (i + 1)).h.blks.get b=none:=by
    cases hx:(R (i + 1)).h.blks.get b with
    | none => rfl
    | some x => exact absurd (.inr ⟨by omega,X.live (i + 1) b x (by omega) hx⟩) hn
   rw [e1,e2]
theorem Txt.ver_text (X:Txt ops N R E callee fr u) {D:Nat→Bool} {b:Nat}:∀ {i:Nat},i ≤ N→(∀ j,j < i→touch R j b=true→D j=true)→verAt R D i b=(R i).h.blks.get b
 | 0,_,_ => rfl
 | i + 1,hi,h => by
  simp only [verAt];split
  ·rfl
  ·rename_i hc;have ht:touch R i b=false:=by
    cases ht:touch R i b with
    | false => rfl
    | true => rw [h i (Nat.lt_succ_self _) ht,ht] at hc;exact absurd rfl hc
   rw [Txt.ver_text X (by omega) fun j hj => h j (by omega),X.same (by omega) ht]
theorem ver_later {D:Nat→Bool} {b i:Nat}:∀ {k:Nat},i ≤ k→(∀ j,i ≤ j→j < k→D j=true→touch R j b=false)→verAt R D k b=verAt R D i b
 | 0, h, _ => by have:i=0:=by omega
                 rw [this]
 | k + 1,h,hn => by
  by_cases e:i=k + 1
  ·rw [e]
  ·simp only [verAt];rw [if_neg (by intro hc;rw [Bool.and_eq_true] at hc;rw [hn k (by omega) (Nat.lt_succ_self _) hc.1] at hc;cases hc.2)];exact ver_later (by omega) fun j h1 h2 => hn j h1 (by omega)
theorem ver_add_other {D:Nat→Bool} {b i:Nat}:∀ {k:Nat},(k ≤ i ∨ touch R i b=false)→verAt R (add D i) k b=verAt R D k b
 | 0,_ => rfl
 | k + 1,h => by
  simp only [verAt];have hd : (add D i k && touch R k b)=(D k && touch R k b):=by
   by_cases e:k=i
   ·subst e;rcases h with h | h
    ·omega
    ·rw [h];simp
   ·have:add D i k=D k:=by
     cases hx:D k with
     | true => exact add_true.2 (.inl hx)
     | false =>
      cases hy:add D i k with
      | false => rfl
      | true => rcases add_true.1 hy with h1 | h1
                ·rw [hx] at h1;cases h1
                ·exact absurd h1 e
    rw [this]
  rw [hd,ver_add_other (h.imp (fun h => by omega) id)]
theorem Txt.ver_add_at (X:Txt ops N R E callee fr u) {D:Nat→Bool} {b i:Nat} (hi:i < N) (ht:touch R i b=true) (hn:∀ j,i < j→j < N→D j=true→touch R j b=false):verAt R (add D i) N b=(R (i + 1)).h.blks.get b:=by
 have h1:verAt R (add D i) (i + 1) b=(R (i + 1)).h.blks.get b:=by simp only [verAt];rw [if_pos (by rw [ht,add_true.2 (.inr rfl)];rfl)]
 rw [← h1];refine ver_later (by omega) fun j h1 h2 h3 => ?_;rcases add_true.1 h3 with h3 | h3
 ·exact hn j (by omega) h2 h3
 ·omega
theorem Txt.ver_some (X:Txt ops N R E callee fr u) {D:Nat→Bool} {b:Nat}:∀ {i:Nat},i ≤ N→∃ j,j ≤ i∧verAt R D i b=(R j).h.blks.get b
 | 0,_ => ⟨0,Nat.le_refl _,rfl⟩
 | i + 1,hi => by
  simp only [verAt];split
  ·exact ⟨i + 1,Nat.le_refl _,rfl⟩
  ·obtain ⟨j,h1,h2⟩:=Txt.ver_some X (D:=D) (b:=b) (show i ≤ N by omega);exact ⟨j,by omega,h2⟩
end
end Go.Ab
namespace Go.Ab
structure RegF (ops:Array Oper):Prop where
 nrec:∀ (i:Nat) o,ops[i]?=some o→noRec o.op=true
 guard:∀ (i:Nat) o j w,ops[i]?=some o→o.guard=some (j,w)→j < i∧bitOf (orderBits [] ops.toList) i j=true
 after:∀ (i:Nat) o,ops[i]?=some o→∀ e,e ∈ o.after.toList→Region.binds .any e=true→e.on < i
 dst:∀ (i j:Nat) oi oj d,i ≠ j→ops[i]?=some oi→ops[j]?=some oj→oj.dst=some d→oi.dst ≠ some d
 use:∀ (i j:Nat) oi oj d,i ≠ j→ops[i]?=some oi→ops[j]?=some oj→oj.dst=some d→.tmp d ∈ opsOf oi.op→(j < i∧bitOf (orderBits [] ops.toList) i j=true) ∨ (i < j∧bitOf (orderBits [] ops.toList) j i=true)
theorem memNb_iff (b:Nat):∀ l:List Nat,memNb l b=true ↔ b ∈ l
 | [] => by simp [memNb]
 | m :: l => by
  simp only [memNb,List.mem_cons];cases hx:Nat.beq m b with
  | true => have:=Nat.eq_of_beq_eq_true hx;simp [this]
  | false => (have:b ≠ m:=by rintro rfl;simp at hx);simp only [this,false_or];exact memNb_iff b l
theorem regF_of {ops:Array Oper} (h:regOk (orderBits [] ops.toList) ops.toList=true):RegF ops:=by
 unfold regOk at h;rw [List.all_eq_true] at h;have at_:∀ (i:Nat) o,ops[i]?=some o→(o,i) ∈ ops.toList.zipIdx:=fun i o ho => by rw [List.mem_zipIdx_iff_getElem?];simpa using ho
 have bit:∀ (i j:Nat),Nat.testBit (((orderBits [] ops.toList)[i]?).getD 0) j=true→bitOf (orderBits [] ops.toList) i j=true:=fun i j hb => by
  unfold bitOf;rw [nth_eq];cases hx:(orderBits [] ops.toList)[i]? with
  | none => rw [hx] at hb;simp at hb
  | some b => rw [hx] at hb;exact hb
 have pair:∀ (i j:Nat) oi oj,i ≠ j→ops[i]?=some oi→ops[j]?=some oj→pairOk (orderBits [] ops.toList) i oi j oj=true:=fun i j oi oj hne hi hj => by
  have:=h _ (at_ i oi hi);simp only [Bool.and_eq_true,List.all_eq_true] at this;have:=this.2 _ (at_ j oj hj);simp only [Bool.or_eq_true] at this;rcases this with h1 | h1
  ·exact absurd (Nat.eq_of_beq_eq_true h1) hne
  ·exact h1
 refine ⟨fun i o ho => ?_,fun i o j w ho hg => ?_,fun i o ho e he hb => ?_,fun i j oi oj d hne hi hj hd hd2 => ?_,fun i j oi oj d hne hi hj hd hu => ?_⟩
 ·have:=h _ (at_ i o ho);simp only [Bool.and_eq_true] at this;exact this.1.1.1
 ·have:=h _ (at_ i o ho);simp only [Bool.and_eq_true,hg] at this;exact ⟨by have:=ble_iff.1 this.1.1.2.1;omega,bit i j this.1.1.2.2⟩
 ·have:=h _ (at_ i o ho);simp only [Bool.and_eq_true,List.all_eq_true] at this;have:=this.1.2 e he;rw [hb] at this;simp only [Bool.not_true,Bool.false_or] at this;have:=ble_iff.1 this;omega
 ·have:=pair i j oi oj hne hi hj;unfold pairOk at this;rw [hd,hd2] at this;simp at this
 ·have:=pair i j oi oj hne hi hj;unfold pairOk at this;rw [hd] at this;simp only [Bool.and_eq_true,Bool.or_eq_true,Bool.not_eq_true'] at this;have hm:memNb (tmpsOf oi.op) d=true:=by rw [memNb_iff];unfold tmpsOf;rw [List.mem_filterMap];exact ⟨.tmp d,hu,rfl⟩
  rw [hm] at this;rcases this.2 with (h1 | h1) | h1
  ·cases h1
  ·exact .inl ⟨by have:=ble_iff.1 h1.1;omega,bit i j h1.2⟩
  ·exact .inr ⟨by have:=ble_iff.1 h1.1;omega,bit j i h1.2⟩
section
variable {ops:Array Oper} {N:Nat} {R:Nat→Rec}
def TmAt (ops:Array Oper) (N:Nat) (R:Nat→Rec) (D:Nat→Bool) (tm:T Value):Prop :=
 (∀ t,(∀ (j:Nat) o,j < N→D j=true→ops[j]?=some o→o.dst ≠ some t)→tm.get t=(R 0).tm.get t) ∧
  ∀ (j:Nat) o t,j < N→D j=true→ops[j]?=some o→o.dst=some t→tm.get t=some (R j).v
theorem putD_some {sz:Nat} {tm tm':T Value} {d:Option Nat} {v:Value} (h:putD sz tm d v=some tm'):∀ tm2:T Value,∃ tm2',putD sz tm2 d v=some tm2'∧(∀ t,d ≠ some t→tm2'.get t=tm2.get t)∧∀ t,d=some t→tm2'.get t=some v:=by
 intro tm2;unfold putD at h ⊢;cases d with
 | none => exact ⟨tm2,rfl,fun _ _ => rfl,fun t h => by cases h⟩
 | some d =>
  simp only at h ⊢;split at h
  ·refine ⟨_,rfl,fun t ht => ?_,fun t ht => ?_⟩
   ·rw [T.get_put,if_neg (by rintro rfl;exact ht rfl)]
   ·cases ht;rw [T.get_put,if_pos rfl]
  ·cases h
theorem TmAt.step (F:RegF ops) {D:Nat→Bool} {tm tm':T Value} {i:Nat} {o:Oper} (h:TmAt ops N R D tm) (hi:i < N) (hD:D i=false) (ho:ops[i]?=some o)
 (h1:∀ t,o.dst ≠ some t→tm'.get t=tm.get t) (h2:∀ t,o.dst=some t→tm'.get t=some (R i).v):TmAt ops N R (add D i) tm':=by
 refine ⟨fun t ht => ?_,fun j oj t hj hDj hoj hd => ?_⟩
 ·rw [h1 t (ht i o hi (add_true.2 (.inr rfl)) ho)];exact h.1 t fun j oj hj hDj => ht j oj hj (add_true.2 (.inl hDj))
 ·rcases add_true.1 hDj with hDj | rfl
  ·(have hne:i ≠ j:=by rintro rfl;rw [hD] at hDj;cases hDj);rw [h1 t (F.dst i j o oj t hne ho hoj hd)];exact h.2 j oj t hj hDj hoj hd
  ·rw [ho] at hoj;cases hoj;exact h2 t hd
theorem TmAt.agree {D D':Nat→Bool} {tm tm':T Value} (h:TmAt ops N R D tm) (h':TmAt ops N R D' tm') (t:Nat) (ht:∀ (j:Nat) o,j < N→ops[j]?=some o→o.dst=some t→D j=D' j):tm.get t=tm'.get t:=by
 by_cases hx:∃ (j:Nat) (o:Oper),j < N∧ops[j]?=some o∧o.dst=some t∧D j=true
 ·obtain ⟨j,o,h1,h2,h3,h4⟩:=hx;rw [h.2 j o t h1 h4 h2 h3,h'.2 j o t h1 (by rw [← ht j o h1 h2 h3];exact h4) h2 h3]
 ·rw [h.1 t fun j o h1 h4 h2 h3 => hx ⟨j,o,h1,h2,h3,h4⟩,h'.1 t fun j o h1 h4 h2 h3 => hx ⟨j,o,h1,h2,h3,by rw [ht j o h1 h2 h3];exact h4⟩]
variable {E:Env} {callee:RunF} {fr:Fr} {u:Mode?}
theorem Txt.tmAt (X:Txt ops N R E callee fr u) (F:RegF ops):∀ {i:Nat},i ≤ N→TmAt ops N R (fun j => Nat.ble (j + 1) i) (R i).tm
 | 0,_ => ⟨fun _ _ => rfl,fun j o t h hD => by have:=ble_iff.1 hD;omega⟩
 | i + 1,hi => by
  obtain ⟨o,ho,s⟩:=X.op (show i < N by omega);have ih:=Txt.tmAt X F (i:=i) (by omega);have hp:=s.put;obtain ⟨tm2,q1,q2,q3⟩:=putD_some hp (R i).tm;rw [hp] at q1;cases q1;have:=ih.step F (by omega) (by
   cases hx:Nat.ble (i + 1) i with
   | false => rfl
   | true => have:=ble_iff.1 hx;omega) ho q2 q3
  have e:add (fun j => Nat.ble (j + 1) i) i=fun j => Nat.ble (j + 1) (i + 1):=by funext j;rw [Bool.eq_iff_iff,add_true,ble_iff,ble_iff];omega
  rw [← e];exact this
theorem Txt.operand (X:Txt ops N R E callee fr u) (F:RegF ops) {D:Nat→Bool} {tm:T Value} (h:TmAt ops N R D tm) {i:Nat} {o:Oper} (hi:i < N ∨ i=N) (ho:ops[i]?=some o) (hD:D i=false) (hclo:∀ a b,D a=true→bitOf (orderBits [] ops.toList) a b=true→D b=true)
 (hp:∀ j,bitOf (orderBits [] ops.toList) i j=true→D j=true) {t:Nat} (ht:.tmp t ∈ opsOf o.op):tm.get t=(R i).tm.get t:=by
 refine h.agree (X.tmAt F (by omega)) t fun j oj hj hoj hd => ?_;by_cases e:i=j
 ·subst e;rw [hD];cases hx:Nat.ble (i + 1) i with
  | false => rfl
  | true => have:=ble_iff.1 hx;omega
 ·rcases F.use i j o oj t e ho hoj hd ht with ⟨h1,h2⟩ | ⟨h1,h2⟩
  ·rw [hp j h2,ble_iff.2 (by omega)]
  ·cases hDj:D j with
   | true => have:=hclo j i hDj h2;rw [hD] at this;cases this
   | false =>
    cases hx:Nat.ble (j + 1) i with
    | false => rfl
    | true => have:=ble_iff.1 hx;omega
theorem Txt.wanted (X:Txt ops N R E callee fr u) (F:RegF ops) {D:Nat→Bool} {tm:T Value} (h:TmAt ops N R D tm) {i:Nat} {o:Oper} (hi:i < N ∨ i=N) (ho:ops[i]?=some o)
 (hp:∀ j,bitOf (orderBits [] ops.toList) i j=true→D j=true):wantedL ops.toList tm o.guard=wantedL ops.toList (R i).tm o.guard:=by
 unfold wantedL;cases hg:o.guard with
 | none => rfl
 | some jw =>
  obtain ⟨j,w⟩:=jw;obtain ⟨h1,h2⟩:=F.guard i o j w ho hg;simp only;cases hd:dstOf ops.toList j with
  | none => rfl
  | some d =>
   have:tm.get d=(R i).tm.get d:=by
    unfold dstOf at hd;rw [nth_eq,Array.getElem?_toList] at hd;cases hoj:ops[j]? with
    | none => rw [hoj] at hd;cases hd
    | some oj => rw [hoj] at hd;rw [h.2 j oj d (by omega) (hp j h2) hoj hd,(X.tmAt F (i:=i) (by omega)).2 j oj d (by omega) (ble_iff.2 (by omega)) hoj hd]
   simp only [this]
end
end Go.Ab
namespace Go.Ab
def hD (R:Nat→Rec) (N:Nat) (D:Nat→Bool):H:={ blks:=T.ofFn (verAt R D N) (nx R N),next:=nx R N,base:=nx R N,wr:=[] }
theorem Sep.of_cb {m n:Nm} {c:Nat} {x y:Blk} (h:m.cb ≠ n.cb):Sep m n c x y:=by cases x <;> cases y <;> simp only [Sep] <;> first | exact h | trivial | (split <;> first | trivial | exact .inr (.inl h))
def sees (e:Eye) (b:Nat):Prop:=e=.all ∨ e=.block b
theorem either_sees {e:Eye} {x y:List Nat} {b:Nat} (h:sees e b) (hb:b ∈ y):either e x .all y=true→False:=by
 intro k;rcases h with rfl | rfl
 ·unfold either at k;simp only at k;split at k
  ·cases hb
  ·cases k
 ·unfold either at k;simp only [Bool.not_eq_true'] at k;rw [(memN_iff _ _).2 hb] at k;cases k
theorem either_sees' {e:Eye} {x y:List Nat} {b:Nat} (h:sees e b) (hb:b ∈ y):either .all y e x=true→False:=by
 intro k;rcases h with rfl | rfl
 ·unfold either at k;simp only at k;split at k
  ·cases hb
  ·cases k
 ·unfold either at k;simp only [Bool.not_eq_true'] at k;rw [(memN_iff _ _).2 hb] at k;cases k
section
variable (E:Env) (ops:Array Oper) (N:Nat) (R:Nat→Rec) (fr:Fr) (u:Mode?) (dfs:List Deferred) (ρ0:Names) (w0:World) (c0:Frame) (cs0:List Frame)
structure SI (D:Nat→Bool) (ρ:Names) (tm:T Value) (w:World) (c:Frame) (cs:List Frame):Prop where
 hr:HR E ρ (hD R N D) w
 le:ρ0.le ρ
 nm:∀ b n,ρ b=some n→ρ0 b=none→∃ j,j < N∧D j=true∧nx R j ≤ b∧b < nx R (j + 1)
 tot:∀ j b,j < N→D j=true→nx R j ≤ b→b < nx R (j + 1)→(ρ b).isSome=true
 tr:TR ρ fr.sz tm c.tmps
 tma:TmAt ops N R D tm
 ur:UR ρ u c cs
 cs:CsR u cs0 cs
 df:DefsR ρ dfs c.defers
 onw:Onw c0 c
 mode:c.mode=.run
 un:∀ j,j < N→D j=true→(R j).on=true→eyeAt ops R j ≠ .all→(∀ l,l < N→D l=true→(R l).wr ≠ []→l < j)→∀ n b' n',ρ (nx R j)=some n→nx R j < nx R (j + 1)→b' ≠ nx R j→ρ b'=some n'→n'.cb ≠ n.cb
 size:w0.heap.size ≤ w.heap.size
 out:Outer w0 w
 same:∀ Pr:Nat→Prop,(∀ b n,ρ0 b=some n→((R 0).h.base ≤ b ∨ b ∈ (R N).h.wr)→¬ Pr n.cb)→(∀ b,Pr b→b < w0.heap.size) →
  (∀ b n,ρ b=some n→((R 0).h.base ≤ b ∨ b ∈ (R N).h.wr)→¬ Pr n.cb)∧∀ b,Pr b→w.heap[b]?=w0.heap[b]?
 clo:closedD (orderBits [] ops.toList) D
end
section
variable {E:Env} {ops:Array Oper} {N:Nat} {R:Nat→Rec} {fr:Fr} {u:Mode?} {dfs:List Deferred} {ρ0:Names} {w0:World} {c0:Frame} {cs0:List Frame} {callee:RunF}
theorem Txt.hD_get (X:Txt ops N R E callee fr u) (D:Nat→Bool) (b:Nat):(hD R N D).blks.get b=verAt R D N b:=by
 unfold hD;simp only;rw [T.get_ofFn];split
 ·rfl
 ·rename_i h;obtain ⟨j,h1,h2⟩:=X.ver_some (D:=D) (b:=b) (Nat.le_refl N);rw [h2];cases hx:(R j).h.blks.get b with
  | none => rfl
  | some x => have:=X.live j b x h1 hx;have:=X.mono h1 (Nat.le_refl N);omega
theorem Txt.baseN (X:Txt ops N R E callee fr u):∀ {i:Nat},i ≤ N→(R i).h.base=(R 0).h.base
 | 0,_ => rfl
 | i + 1,h => by rw [(X.go i (by omega)).base];exact Txt.baseN X (by omega)
theorem Txt.wrN (X : Txt ops N R E callee fr u) {i b:Nat} (hb:b ∈ (R i).h.wr):∀ {k:Nat},i ≤ k→k ≤ N→b ∈ (R k).h.wr
 | 0, h1, _ => by have:i=0:=by omega
                  subst this;exact hb
 | k + 1,h1,h2 => by
  by_cases e:i=k + 1
  ·subst e;exact hb
  ·exact ((X.go k (by omega)).wr b).2 (.inl (Txt.wrN X hb (by omega) (by omega)))
theorem Txt.noted (X:Txt ops N R E callee fr u) {i b:Nat} (hi:i < N) (hb:b ∈ (R i).wr):(R 0).h.base ≤ b ∨ b ∈ (R N).h.wr:=by
 by_cases h:(R 0).h.base ≤ b
 ·exact .inl h
 ·refine .inr (X.wrN (i:=i + 1) (((X.go i hi).wr b).2 (.inr ⟨hb,?_⟩)) hi (Nat.le_refl _));rw [X.baseN (by omega)];omega
variable {D:Nat→Bool}
theorem Txt.later (X:Txt ops N R E callee fr u) (hclo:closedD (orderBits [] ops.toList) D) {i j:Nat} (hij:i < j) (hj:j < N) (hDi:D i=false) (hDj:D j=true) (hi1:(R i).on=true) (hj1:(R j).on=true):either (eyeAt ops R i) (R i).wr (eyeAt ops R j) (R j).wr=true:=by
 rcases X.pw hij hj hi1 hj1 with h | h
 ·have:=hclo j i hDj h;rw [hDi] at this;cases this
 ·exact h
theorem Txt.earlier (X:Txt ops N R E callee fr u) {i j:Nat} (hji:j < i) (hi:i < N) (hp:∀ j,bitOf (orderBits [] ops.toList) i j=true→D j=true) (hDj:D j=false) (hj1:(R j).on=true) (hi1:(R i).on=true) :
 either (eyeAt ops R j) (R j).wr (eyeAt ops R i) (R i).wr=true:=by
 rcases X.pw hji hi hj1 hi1 with h | h
 ·have:=hp j h;rw [hDj] at this;cases this
 ·exact h
theorem Txt.agreeA (X:Txt ops N R E callee fr u) (hclo:closedD (orderBits [] ops.toList) D) {ρ:Names} (hnm:∀ b n,ρ b=some n→ρ0 b=none→∃ j,j < N∧D j=true∧nx R j ≤ b∧b < nx R (j + 1)) (hd0:∀ b n,ρ0 b=some n→b < nx R 0)
 {i:Nat} (hi:i < N) (hDi:D i=false) (hp:∀ j,bitOf (orderBits [] ops.toList) i j=true→D j=true) (hi1:(R i).on=true) {b:Nat} {n:Nm} (hb:ρ b=some n) (hlt:b < nx R i) (hs:sees (eyeAt ops R i) b) :
 verAt R D N b=(R i).h.blks.get b:=by
 rw [ver_later (i:=i) (by omega) fun j h1 h2 h3 => ?_]
 ·refine X.ver_text (by omega) fun j hj ht => ?_;obtain ⟨hj1,hor⟩:=touch_iff.1 ht;cases hDj:D j with
  | true => rfl
  | false =>
   exfalso;have hpw:=X.earlier hj hi hp hDj hj1 hi1;rcases hor with hw | ⟨k1,k2⟩
   ·have he:=(X.loc_wr (show j < N by omega) (fun h => by rw [h] at hw;cases hw)).2;rw [he] at hpw;exact either_sees' hs hw hpw
   ·have h0:ρ0 b=none:=by
     cases h0:ρ0 b with
     | none => rfl
     | some m => have:=hd0 b m h0;have:=X.mono (Nat.zero_le j) (show j ≤ N by omega);omega
    obtain ⟨j',q1,q2,q3,q4⟩:=hnm b n hb h0;have:=X.uniq q1 (show j < N by omega) q3 q4 k1 k2;subst this;rw [hDj] at q2;cases q2
 ·cases ht:touch R j b with
  | false => rfl
  | true =>
   exfalso;obtain ⟨hj1,hor⟩:=touch_iff.1 ht;(have hne:i ≠ j:=by rintro rfl;rw [hDi] at h3;cases h3);have hpw:=X.later hclo (show i < j by omega) h2 hDi h3 hi1 hj1;have hmono:=X.mono h1 (show j ≤ N by omega);rcases hor with hw | ⟨k1,k2⟩
   ·have he:=(X.loc_wr h2 (fun h => by rw [h] at hw;cases hw)).2;rw [he] at hpw;exact either_sees hs hw hpw
   ·omega
theorem Txt.notouch (X:Txt ops N R E callee fr u) (hclo:closedD (orderBits [] ops.toList) D) {i:Nat} (hi:i < N) (hDi:D i=false) {b:Nat} (ht:touch R i b=true):∀ j,i < j→j < N→D j=true→touch R j b=false:=by
 intro j hij hj hDj;cases htj:touch R j b with
 | false => rfl
 | true =>
  exfalso;obtain ⟨hi1,hori⟩:=touch_iff.1 ht;obtain ⟨hj1,horj⟩:=touch_iff.1 htj;have hlt:b < nx R (i + 1):=by
   rcases hori with h | h
   ·exact Nat.lt_of_lt_of_le ((X.go i hi).low b h) (X.go i hi).next
   ·exact h.2
  have hmono:=X.mono (show i + 1 ≤ j by omega) (show j ≤ N by omega);rcases horj with hw | ⟨k1,k2⟩
  ·have he:=(X.loc_wr hj (fun h => by rw [h] at hw;cases hw)).2;have hpw:=X.later hclo hij hj hDi hDj hi1 hj1;rw [he] at hpw;refine either_sees (b:=b) ?_ hw hpw;by_cases hall:eyeAt ops R i=.all
   ·exact .inl hall
   ·rcases hori with h | h
    ·exact absurd (X.loc_wr hi (fun hh => by rw [hh] at h;cases h)).2 hall
    ·have:=X.loc_nx hi hi1 hall;(have hb:b=nx R i:=by omega);rw [hb];exact .inr (this.2 (by omega))
  ·omega
end
end Go.Ab
namespace Go.Ab
section
variable {E:Env} {ops:Array Oper} {N:Nat} {R:Nat→Rec} {fr:Fr} {u:Mode?} {dfs:List Deferred} {ρ0:Names} {w0:World} {c0:Frame} {cs0:List Frame} {callee:RunF}
structure Alone (E:Env) (callee:RunF) (fr:Fr) (u:Mode?) (ops:Array Oper) (N:Nat) (R:Nat→Rec) (i:Nat) (o:Oper) (k k':H):Prop where
 next:k.next=nx R i
 base:k.base=nx R i
 wr:k.wr=[]
 sub:∀ b x,k.blks.get b=some x→(R i).h.blks.get b=some x∧sees (eyeAt ops R i) b
 op:aOp E callee fr u (R i).tm o.op k=some (.val (R i).v u k')
 next':k'.next=nx R (i + 1)
 wr':k'.wr=(R i).wr
 tch:∀ b,touch R i b=true→k'.blks.get b=(R (i + 1)).h.blks.get b
 all:(R i).wr ≠ []→∀ b,k'.blks.get b=(R (i + 1)).h.blks.get b
theorem Txt.aside (X:Txt ops N R E callee fr u) {i:Nat} (hi:i < N) (hon:(R i).on=true) {o:Oper} (ho:ops[i]?=some o):∃ k k',Alone E callee fr u ops N R i o k k':=by
 obtain ⟨o',ho',s⟩:=X.op hi;rw [ho] at ho';cases ho';obtain ⟨h',q1,q2,q3,q4,q5⟩:=s.onn hon;by_cases hall:eyeAt ops R i=.all
 ·refine ⟨inner (R i).h,h',rfl,rfl,rfl,fun b x hx => ⟨hx,.inl hall⟩,q1,?_,q2,fun b _ => by rw [q4];rfl,fun _ b => by rw [q4];rfl⟩;unfold nx;rw [q4];rfl
 ·obtain ⟨o',a,ho',k1,k2,k3,k4,k5⟩:=X.loc hi hon hall;rw [ho] at ho';cases ho';have main:∀ k:H,k.next=nx R i→k.base=nx R i→k.wr=[]→(∀ b x,k.blks.get b=some x→(R i).h.blks.get b=some x∧sees (eyeAt ops R i) b) →
   (∀ b,eyeAt ops R i=.block b→k.blks.get b=(R i).h.blks.get b)→∃ k k',Alone E callee fr u ops N R i o k k':=by
   intro k e1 e2 e3 e4 e5;refine ⟨k,upd k a,e1,e2,e3,e4,k5 k e1 e5,?_,?_,fun b hb => ?_,fun h => absurd k1 h⟩
   ·(have:nx R (i + 1)=(upd (inner (R i).h) a).next:=k3);rw [this];cases a with
    | none => exact e1
    | some x => show Nat.succ k.next=Nat.succ (R i).h.next;rw [e1];rfl
   ·rw [k1];cases a with
    | none => exact e3
    | some x => exact e3
   ·obtain ⟨_,hor⟩:=touch_iff.1 hb;rw [k1] at hor;rcases hor with hor | ⟨m1,m2⟩
    ·cases hor
    ·rw [k2];(have m2':b < (upd (inner (R i).h) a).next:=by rw [← k3];exact m2);cases a with
     | none => exact absurd m2' (by show ¬ b < (R i).h.next;unfold nx at m1;omega)
     | some x => have m3:b < Nat.succ (R i).h.next:=m2';(have hb':b=(R i).h.next:=by unfold nx at m1;omega);have hk:k.next=(R i).h.next:=e1;show (k.blks.put k.next _).get b=((R i).h.blks.put (R i).h.next _).get b;rw [T.get_put,T.get_put,if_pos (by omega),if_pos hb']
  cases he:eyeAt ops R i with
  | all => exact absurd he hall
  | quiet => exact main ⟨.leaf,nx R i,nx R i,[]⟩ rfl rfl rfl (fun b x hx => by cases hx) (fun b hb => by rw [he] at hb;cases hb)
  | block b0 =>
   refine main ⟨T.put .leaf b0 ((R i).h.blks.get b0),nx R i,nx R i,[]⟩ rfl rfl rfl (fun b x hx => ?_) (fun b hb => ?_)
   ·have hx:(T.put .leaf b0 ((R i).h.blks.get b0)).get b=some x:=hx;rw [T.get_put] at hx;split at hx
    ·rename_i e;subst e;exact ⟨hx,.inr he⟩
    ·cases hx
   ·rw [he] at hb;cases hb;show (T.put .leaf b0 ((R i).h.blks.get b0)).get b0=_;rw [T.get_put,if_pos rfl]
theorem SI.stepOff (g:GoodC E) (hst:StubOk E) (sF:SimF E callee) (sR:SimR E callee) (hops:ops.toList.all (okOper E)=true) (X:Txt ops N R E callee fr u) (F:RegF ops)
 (A:∀ i,i ≤ N→At E fr u ρ0 (R 0).h w0 c0 (R i)) (hg:GlobR E ρ0) (hrd:RoundR ρ0 fr.round c0.roundOf) (hd0:∀ b n,ρ0 b=some n→b < nx R 0)
 {D:Nat→Bool} {ρ:Names} {tm:T Value} {w:World} {c:Frame} {cs:List Frame} (S:SI E ops N R fr u dfs ρ0 w0 c0 cs0 D ρ tm w c cs) {i:Nat} {o:Oper} (hi:i < N) (ho:ops[i]?=some o) (hDi:D i=false)
  (hp:∀ j,bitOf (orderBits [] ops.toList) i j=true→D j=true) {rest:List Nat} {k:List Item} (ht:c.todo=.inRegion ops (i :: rest) :: k) (hon:(R i).on=false) :
  ∃ ρ' tm' w' c' cs',Steps E.P (lone c cs w) (lone c' cs' w')∧c'.todo=.inRegion ops rest :: k∧SI E ops N R fr u dfs ρ0 w0 c0 cs0 (add D i) ρ' tm' w' c' cs':=by
 obtain ⟨o',ho',s⟩:=X.op hi;rw [ho] at ho';cases ho';have hw:Region.wanted o (yielded ops c.tmps)=false:=by rw [wanted_ok S.tr,X.wanted F S.tma (.inl hi) ho hp,s.want,hon]
 obtain ⟨q1,q2,q3,q4⟩:=s.off hon;obtain ⟨tm',p1,p2,p3⟩:=putD_some s.put tm;have hv:(R i).v=undef:=q1;have hfin:=finish_op (v:=undef) ht ho;have hver:verAt R (add D i) N=verAt R D N:=by
  funext b;refine ver_add_other (.inr ?_);cases ht:touch R i b with
  | false => rfl
  | true => rw [(touch_iff.1 ht).1] at hon;cases hon
 have hH:hD R N (add D i)=hD R N D:=by unfold hD;rw [hver]
 have hnx:nx R (i + 1)=nx R i:=by unfold nx;rw [q3]
 refine ⟨ρ,tm',w,c.finish undef,cs,.one (step_unwanted S.mode ht ho hw),by rw [hfin],?_⟩;exact
  { hr:=by rw [hH];exact S.hr
    le:=S.le
    nm:=fun b n hb h0 => let ⟨j,h1,h2,h3⟩:=S.nm b n hb h0;⟨j,h1,add_true.2 (.inl h2),h3⟩
    tot:=fun j b hj hD h1 h2 => by
     rcases add_true.1 hD with hD | rfl
     ·exact S.tot j b hj hD h1 h2
     ·rw [hnx] at h2;omega
    tr:=by rw [hfin];rw [hv] at p1;exact S.tr.put (.tuple _ _ .nil) p1
    tma:=S.tma.step F hi hDi ho p2 p3
    ur:=S.ur.of_kind (by rw [hfin])
    cs:=S.cs
    df:=by rw [hfin];exact S.df
    onw:=S.onw.trans (by rw [hfin];exact ⟨rfl,rfl,rfl⟩)
    mode:=by rw [hfin];exact S.mode
    un:=fun j hj hD hjon he hl n b' n' h1 h2 h3 h4 => by
     rcases add_true.1 hD with hD | rfl
     ·exact S.un j hj hD hjon he (fun l h1 h2 h3 => hl l h1 (add_true.2 (.inl h2)) h3) n b' n' h1 h2 h3 h4
     ·rw [hon] at hjon;cases hjon
    size:=S.size
    out:=S.out
    same:=S.same
    clo:=fun a b ha hb => by
     rcases add_true.1 ha with ha | rfl
     ·exact add_true.2 (.inl (S.clo a b ha hb))
     ·exact add_true.2 (.inl (hp b hb)) }
end
end Go.Ab
namespace Go.Ab
section
variable {E:Env} {ops:Array Oper} {N:Nat} {R:Nat→Rec} {fr:Fr} {u:Mode?} {dfs:List Deferred} {ρ0:Names} {w0:World} {c0:Frame} {cs0:List Frame} {callee:RunF}
theorem SI.stepOn (g:GoodC E) (hst:StubOk E) (sF:SimF E callee) (sR:SimR E callee) (hops:ops.toList.all (okOper E)=true) (X:Txt ops N R E callee fr u) (F:RegF ops)
 (A:∀ i,i ≤ N→At E fr u ρ0 (R 0).h w0 c0 (R i)) (hg:GlobR E ρ0) (hrd:RoundR ρ0 fr.round c0.roundOf) (hd0:∀ b n,ρ0 b=some n→b < nx R 0) (hu0:UR ρ0 u c0 cs0)
 {D:Nat→Bool} {ρ:Names} {tm:T Value} {w:World} {c:Frame} {cs:List Frame} (S:SI E ops N R fr u dfs ρ0 w0 c0 cs0 D ρ tm w c cs) {i:Nat} {o:Oper} (hi:i < N) (ho:ops[i]?=some o) (hDi:D i=false)
  (hp:∀ j,bitOf (orderBits [] ops.toList) i j=true→D j=true) {rest:List Nat} {k:List Item} (ht:c.todo=.inRegion ops (i :: rest) :: k) (hon:(R i).on=true) :
  ∃ ρ' tm' w' c' cs',Steps E.P (lone c cs w) (lone c' cs' w')∧c'.todo=.inRegion ops rest :: k∧SI E ops N R fr u dfs ρ0 w0 c0 cs0 (add D i) ρ' tm' w' c' cs':=by
 obtain ⟨o',ho',s⟩:=X.op hi;rw [ho] at ho';cases ho';obtain ⟨K,K',L⟩:=X.aside hi hon ho;obtain ⟨ρT,wT,cT,csT,t1,t2,t3,t4,t5⟩:=(A i (by omega)).ex;have h0i:nx R 0 ≤ nx R i:=X.mono (Nat.zero_le i) (by omega);have hTdom:∀ b n,ρT b=some n→b < nx R i:=fun b n hb => (t1.dom b n hb).1;have hboth:Both ρ ρT (ρ.below (nx R i)):=Both.below hTdom;have h0:ρ0.le (ρ.below (nx R i)):=fun b n hb => Names.below_eq.2 ⟨by have:=hd0 b n hb;omega,S.le b n hb⟩;have hTnamed:∀ b n,ρ b=some n→b < nx R i→∃ m,ρT b=some m:=by
  intro b n hb hlt;cases hb0:ρ0 b with
  | some m => exact ⟨m,t3.le b m hb0⟩
  | none =>
   obtain ⟨j,j1,j2,j3,j4⟩:=S.nm b n hb hb0;have:=t3.named b (by have:=X.mono (Nat.zero_le j) (show j ≤ N by omega);unfold nx at *;omega) hlt;cases hx:ρT b with
   | none => rw [hx] at this;cases this
   | some m => exact ⟨m,rfl⟩
 have hagree:∀ b n x,ρ b=some n→b < nx R i→K.blks.get b=some x→verAt R D N b=some x:=by intro b n x hb hlt hx;obtain ⟨e1,e2⟩:=L.sub b x hx;rw [X.agreeA S.clo S.nm hd0 hi hDi hp hon hb hlt e2,e1]
 have hK:HR E (ρ.below (nx R i)) K w:=by
  refine ⟨fun b x hx => ?_,fun b cs' an es rw' hx => ?_,fun b n hb => ?_,fun b n x hb hx => ?_,fun b b' m n x y hne hb hb' hx hy => ?_,by rw [L.base,L.next];exact Nat.le_refl _,fun b hb => by rw [L.wr] at hb;cases hb⟩
  ·rw [L.next];exact X.live i b x (by omega) (L.sub b x hx).1
  ·exact X.anc i b cs' an es rw' (by omega) (L.sub b _ hx).1
  ·obtain ⟨h1,h2⟩:=Names.below_eq.1 hb;exact ⟨by rw [L.next];exact h1,(S.hr.dom b n h2).2⟩
  ·obtain ⟨h1,h2⟩:=Names.below_eq.1 hb;obtain ⟨m,hm⟩:=hTnamed b n h2 h1;have hbr:=S.hr.blk b n x h2 (by rw [X.hD_get];exact hagree b n x h2 h1 hx);exact BR.restrict hboth hbr (t1.blk b m x hm (L.sub b x hx).1)
  ·obtain ⟨h1,h2⟩:=Names.below_eq.1 hb;obtain ⟨h3,h4⟩:=Names.below_eq.1 hb';exact S.hr.sep b b' m n x y hne h2 h4 (by rw [X.hD_get];exact hagree b m x h2 h1 hx) (by rw [X.hD_get];exact hagree b' n y h4 h3 hy)
 have hev:EvR (fun x => okO E x=true∧x ∈ opsOf o.op) (ρ.below (nx R i)) (R i).tm c.eval:=by
  intro x hx;have e1:ev (R i).tm x=ev tm x:=by
   cases x with
   | tmp t => show tget (R i).tm t=tget tm t;unfold tget;rw [X.operand F S.tma (.inl hi) ho hDi S.clo hp hx.2]
   | _ => rfl
  have v1:VR ρ (ev (R i).tm x) (c.eval x):=by rw [e1];exact (S.tr.evR (hg.mono S.le)) x hx.1
  have v2:VR ρT (ev (R i).tm x) (cT.eval x):=(t2.evR (hg.mono t3.le)) x hx.1;exact v1.restrict hboth v2
 have hw:Region.wanted o (yielded ops c.tmps)=true:=by rw [wanted_ok S.tr,X.wanted F S.tma (.inl hi) ho hp,s.want,hon]
 have hop:=aOp_ok (fr:=fr) g hst sF sR L.op hK (hg.mono h0) hev (okQ hops (by rw [Array.getElem?_toList];exact ho)) (UR.restrict hboth S.ur t4) (by rw [S.onw.round];exact hrd.mono h0) S.mode ht ho hw;obtain ⟨ρ',w',v',cs',k1,k2,k3,k4,k5,k6⟩:=hop;obtain ⟨tm',p1,p2,p3⟩:=putD_some s.put tm;have hfin:=finish_op (v:=v') ht ho;have hkind:(c.finish v').kind=c.kind:=by rw [hfin]
 have hdis:∀ b n,ρ b=some n→nx R i ≤ b→b < nx R (i + 1)→False:=by
  intro b n hb h1 h2;have hb0:ρ0 b=none:=by
   cases hb0:ρ0 b with
   | none => rfl
   | some m => have:=hd0 b m hb0;omega
  obtain ⟨j,j1,j2,j3,j4⟩:=S.nm b n hb hb0;have:=X.uniq j1 hi j3 j4 h1 h2;subst this;rw [hDi] at j2;cases j2
 have hdom':∀ b n,ρ' b=some n→b < nx R (i + 1):=fun b n hb => by have:=(k3.dom b n hb).1;rw [L.next'] at this;exact this
 have hold:∀ b n,ρ' b=some n→b < nx R i→ρ b=some n:=by
  intro b n hb hlt;cases hx:ρ.below (nx R i) b with
  | none => have:=k4.fresh b n hb hx;rw [L.next] at this;omega
  | some m => have:=k4.le b m hx;rw [hb] at this;cases this;exact (Names.below_eq.1 hx).2
 have hnew:∀ b n,ρ b=some n→b < nx R i→ρ' b=some n:=fun b n hb hlt => k4.le b n (Names.below_eq.2 ⟨hlt,hb⟩);have hcomp:∀ b n n',ρ b=some n→ρ' b=some n'→n=n':=by
  intro b n n' hb hb';by_cases hlt:b < nx R i
  ·have:=hold b n' hb' hlt;rw [hb] at this;cases this;rfl
  ·exact (hdis b n hb (by omega) (hdom' b n' hb')).elim
 have hle1:ρ.le (ρ.or ρ'):=Names.le_or ρ ρ';have hle2:ρ'.le (ρ.or ρ'):=Names.or_le hcomp;have hcase:∀ b n,(ρ.or ρ') b=some n→ρ b=some n ∨ (ρ b=none∧ρ' b=some n∧nx R i ≤ b∧b < nx R (i + 1)):=by
  intro b n hb;rcases Names.or_eq hb with h | ⟨h1,h2⟩
  ·exact .inl h
  ·refine .inr ⟨h1,h2,?_,hdom' b n h2⟩;by_cases hlt:b < nx R i
   ·rw [hold b n h2 hlt] at h1;cases h1
   ·omega
 have hcase':∀ b n,(ρ.or ρ') b=some n→b < nx R (i + 1)→ρ' b=some n:=by
  intro b n hb hlt;rcases hcase b n hb with h | ⟨_,h,_⟩
  ·by_cases h2:b < nx R i
   ·exact hnew b n h h2
   ·exact (hdis b n h (by omega) hlt).elim
  ·exact h
 have hsame0:(R i).wr=[]→(∀ b n,ρ' b=some n→nx R i ≤ b→w.heap.size ≤ n.cb)∧∀ b,b < w.heap.size→w'.heap[b]?=w.heap[b]?:=by
  intro hwr;obtain ⟨a1,a2⟩:=k4.same (fun b => b < w.heap.size) (fun b n hb hor => by
   rw [L.base,L.wr',hwr] at hor;rcases hor with hor | hor
   ·have:=(Names.below_eq.1 hb).1;omega
   ·cases hor) (fun b hb => hb)
  refine ⟨fun b n hb hge => ?_,a2⟩;have:=a1 b n hb (.inl (by rw [L.base];exact hge));omega
 have hLU:(R i).wr ≠ []→∀ b n,ρ b=some n→nx R i ≤ b→∀ b' n',b' ≠ b→ρ b'=some n'→n'.cb ≠ n.cb:=by
  intro hwr b n hb hge b' n' hne hb';have hall:=(X.loc_wr hi hwr).2;have hb0:ρ0 b=none:=by
   cases hb0:ρ0 b with
   | none => rfl
   | some m => have:=hd0 b m hb0;omega
  obtain ⟨j,j1,j2,j3,j4⟩:=S.nm b n hb hb0;have hij:i < j:=by
   rcases Nat.lt_trichotomy i j with h | h | h
   ·exact h
   ·subst h;rw [hDi] at j2;cases j2
   ·have:=X.mono (show j + 1 ≤ i by omega) (by omega);omega
  have hjon:=X.on_of_lt j1 (by omega);have hpw:=X.later S.clo hij j1 hDi j2 hon hjon;have hne':eyeAt ops R j ≠ .all:=by
   intro he;rw [hall,he] at hpw;unfold either at hpw;simp only at hpw;split at hpw
   ·rename_i h1 _;exact hwr h1
   ·cases hpw
  have hone:=X.loc_nx j1 hjon hne';have hbj:b=nx R j:=by omega
  subst hbj;refine S.un j j1 j2 hjon hne' (fun l l1 l2 l3 => ?_) n b' n' hb (by omega) hne hb';have hlall:=X.loc_wr l1 l3;rcases Nat.lt_trichotomy l i with h | h | h
  ·omega
  ·omega
  ·have hpl:=X.later S.clo h l1 hDi l2 hon hlall.1;rw [hall,hlall.2] at hpl;unfold either at hpl;simp only at hpl;split at hpl
   ·rename_i h1 _;exact absurd h1 hwr
   ·cases hpl
 have hLU':(R i).wr ≠ []→∀ b n,ρ b=some n→nx R i ≤ b→(∀ b' n',ρ' b'=some n'→nx R i ≤ b'→n'.cb ≠ n.cb)∧w'.heap[n.cb]?=w.heap[n.cb]?:=by intro hwr b n hb hge;obtain ⟨a1,a2⟩:=k4.same (fun x => x=n.cb) (fun b' n' hb' _ => by obtain ⟨h1,h2⟩:=Names.below_eq.1 hb';exact hLU hwr b n hb hge b' n' (by omega) h2) (fun x hx => by rw [hx];exact (S.hr.dom b n hb).2);exact ⟨fun b' n' hb' hge' => a1 b' n' hb' (.inl (by rw [L.base];exact hge')),a2 n.cb rfl⟩
 have hverT:∀ b,touch R i b=true→verAt R (add D i) N b=K'.blks.get b:=fun b htc => by rw [X.ver_add_at hi htc (X.notouch S.clo hi hDi htc),L.tch b htc]
 have hverO:∀ b,touch R i b=false→verAt R (add D i) N b=verAt R D N b:=fun b htc => ver_add_other (.inr htc);have hverB:(R i).wr ≠ []→∀ b n,(ρ.or ρ') b=some n→b < nx R (i + 1)→verAt R (add D i) N b=K'.blks.get b:=by
  intro hwr b n hb hlt;cases htc:touch R i b with
  | true => exact hverT b htc
  | false =>
   rw [hverO b htc,L.all hwr b,X.same hi htc];rcases hcase b n hb with h | ⟨_,_,h3,h4⟩
   ·by_cases h2:b < nx R i
    ·exact X.agreeA S.clo S.nm hd0 hi hDi hp hon h h2 (.inl (X.loc_wr hi hwr).2)
    ·exact (hdis b n h (by omega) hlt).elim
   ·have:=touch_iff.2 ⟨hon,.inr ⟨h3,h4⟩⟩;rw [htc] at this;cases this
 have hHR:HR E (ρ.or ρ') (hD R N (add D i)) w':=by
  refine ⟨fun b x hx => ?_,fun b cs1 an es rw' hx a ha => ?_,fun b n hb => ?_,fun b n x hb hx => ?_,fun b b' m n x y hne hb hb' hx hy => ?_,Nat.le_refl _,fun b hb => by cases hb⟩
  ·rw [X.hD_get] at hx;obtain ⟨j,j1,j2⟩:=X.ver_some (D:=add D i) (b:=b) (Nat.le_refl N);rw [j2] at hx;have:=X.live j b x j1 hx;have:=X.mono j1 (Nat.le_refl N);show b < nx R N;omega
  ·rw [X.hD_get] at hx;obtain ⟨j,j1,j2⟩:=X.ver_some (D:=add D i) (b:=b) (Nat.le_refl N);rw [j2] at hx;exact X.anc j b cs1 an es rw' j1 hx a ha
  ·show b < nx R N∧_;rcases hcase b n hb with h | ⟨_,h,_,h4⟩
   ·have:=S.hr.dom b n h;exact ⟨this.1,Nat.lt_of_lt_of_le this.2 k4.size⟩
   ·have:=X.mono (show i + 1 ≤ N by omega) (Nat.le_refl N);exact ⟨by omega,(k3.dom b n h).2⟩
  ·rw [X.hD_get] at hx;cases htc:touch R i b with
   | true =>
    rw [hverT b htc] at hx;have hlt:b < nx R (i + 1):=by
     rcases (touch_iff.1 htc).2 with h | h
     ·exact Nat.lt_of_lt_of_le ((X.go i hi).low b h) (X.go i hi).next
     ·exact h.2
    exact (k3.blk b n x (hcase' b n hb hlt) hx).same hle2 rfl
   | false =>
    rcases hcase b n hb with h | ⟨_,_,h3,h4⟩
    ·by_cases hwr:(R i).wr=[]
     ·rw [hverO b htc] at hx;exact (S.hr.blk b n x h (by rw [X.hD_get];exact hx)).same hle1 ((hsame0 hwr).2 _ (S.hr.dom b n h).2)
     ·by_cases hlt:b < nx R i
      ·rw [hverB hwr b n hb (Nat.lt_of_lt_of_le hlt (X.go i hi).next)] at hx;exact (k3.blk b n x (hnew b n h hlt) hx).same hle2 rfl
      ·rw [hverO b htc] at hx;exact (S.hr.blk b n x h (by rw [X.hD_get];exact hx)).same hle1 (hLU' hwr b n h (by omega)).2
    ·have:=touch_iff.2 ⟨hon,.inr ⟨h3,h4⟩⟩;rw [htc] at this;cases this
  ·rw [X.hD_get] at hx hy;by_cases hwr:(R i).wr=[]
   ·have hnt:∀ b n,ρ b=some n→touch R i b=false:=by
     intro b n hb;cases htc:touch R i b with
     | false => rfl
     | true =>
      rcases (touch_iff.1 htc).2 with h | h
      ·rw [hwr] at h;cases h
      ·exact (hdis b n hb h.1 h.2).elim
    have htn:∀ b,nx R i ≤ b→b < nx R (i + 1)→touch R i b=true:=fun b h1 h2 => touch_iff.2 ⟨hon,.inr ⟨h1,h2⟩⟩;rcases hcase b m hb with h | ⟨_,h,h3,h4⟩
    ·rcases hcase b' n hb' with h' | ⟨_,h',h3',h4'⟩
     ·rw [hverO b (hnt b m h)] at hx;rw [hverO b' (hnt b' n h')] at hy;exact S.hr.sep b b' m n x y hne h h' (by rw [X.hD_get];exact hx) (by rw [X.hD_get];exact hy)
     ·refine Sep.of_cb ?_;have:=(S.hr.dom b m h).2;have:=(hsame0 hwr).1 b' n h' h3';omega
    ·rcases hcase b' n hb' with h' | ⟨_,h',h3',h4'⟩
     ·refine Sep.of_cb ?_;have:=(S.hr.dom b' n h').2;have:=(hsame0 hwr).1 b m h h3;omega
     ·rw [hverT b (htn b h3 h4)] at hx;rw [hverT b' (htn b' h3' h4')] at hy;exact k3.sep b b' m n x y hne h h' hx hy
   ·by_cases h1:b < nx R (i + 1)
    ·by_cases h2:b' < nx R (i + 1)
     ·rw [hverB hwr b m hb h1] at hx;rw [hverB hwr b' n hb' h2] at hy;exact k3.sep b b' m n x y hne (hcase' b m hb h1) (hcase' b' n hb' h2) hx hy
     ·(have hge:nx R i ≤ b':=by have:=(X.go i hi).next;unfold nx at *;omega);rcases hcase b' n hb' with h' | ⟨_,_,_,h4'⟩
      ·refine Sep.of_cb ?_;rcases hcase b m hb with h | ⟨_,h,h3,_⟩
       ·exact hLU hwr b' n h' hge b m hne h
       ·exact (hLU' hwr b' n h' hge).1 b m h h3
      ·exact absurd h4' h2
    ·(have hge:nx R i ≤ b:=by have:=(X.go i hi).next;unfold nx at *;omega);rcases hcase b m hb with h | ⟨_,_,_,h4⟩
     ·refine Sep.of_cb (Ne.symm ?_);rcases hcase b' n hb' with h' | ⟨_,h',h3',_⟩
      ·exact hLU hwr b m h hge b' n (Ne.symm hne) h'
      ·exact (hLU' hwr b m h hge).1 b' n h' h3'
     ·exact absurd h4 h1
 refine ⟨ρ.or ρ',tm',w',c.finish v',cs',k1,by rw [hfin],?_⟩;exact
  { hr := hHR
    le:=Names.le_trans S.le hle1
    nm:=fun b n hb hb0 => by
     rcases hcase b n hb with h | ⟨_,_,h3,h4⟩
     ·obtain ⟨j,j1,j2,j3⟩:=S.nm b n h hb0;exact ⟨j,j1,add_true.2 (.inl j2),j3⟩
     ·exact ⟨i,hi,add_true.2 (.inr rfl),h3,h4⟩
    tot := fun j b hj hD h1 h2 => by
     rcases add_true.1 hD with hD | rfl
     ·have:=S.tot j b hj hD h1 h2;cases hx:ρ b with
      | none => rw [hx] at this;cases this
      | some n => rw [hle1 b n hx];rfl
     ·have:=k4.named b (by rw [L.next];exact h1) (by rw [L.next'];exact h2);cases hx:ρ' b with
      | none => rw [hx] at this;cases this
      | some n => rw [hle2 b n hx];rfl
    tr:=by rw [hfin];exact (S.tr.mono hle1).put (k2.mono hle2) p1
    tma:=S.tma.step F hi hDi ho p2 p3
    ur:=(k5.mono hle2).of_kind hkind
    cs:=CsR.trans hu0 S.ur S.onw.kind S.cs k6
    df:=by rw [hfin];exact S.df.mono hle1
    onw:=S.onw.trans (by rw [hfin];exact ⟨rfl,rfl,rfl⟩)
    mode:=by rw [hfin];exact S.mode
    un := fun j hj hD hjon he hl n b' n' h1 h2 h3 h4 => by
     rcases add_true.1 hD with hDj | rfl
     ·have hx:=S.tot j (nx R j) hj hDj (Nat.le_refl _) h2;obtain ⟨n0,hn0⟩:=Option.isSome_iff_exists.1 hx;(have:n0=n:=by have:=hle1 _ _ hn0;rw [h1] at this;cases this;rfl);subst this;have hU:=S.un j hj hDj hjon he (fun l h1 h2 h3 => hl l h1 (add_true.2 (.inl h2)) h3) n0;rcases hcase b' n' h4 with h | ⟨_,h,h3',_⟩
      ·exact hU b' n' hn0 h2 h3 h
      ·by_cases hwr:(R i).wr=[]
       ·have:=(hsame0 hwr).1 b' n' h h3';have:=(S.hr.dom _ _ hn0).2;omega
       ·have hij:i < j:=hl i hi (add_true.2 (.inr rfl)) hwr;have hge:nx R i ≤ nx R j:=X.mono (by omega) (by omega);exact (hLU' hwr _ _ hn0 hge).1 b' n' h h3'
     ·(have hwr:(R j).wr=[]:=by obtain ⟨_,_,_,q,_⟩:=X.loc hj hjon he;exact q);have hone:=(X.loc_nx hj hjon he).1;rcases hcase (nx R j) n h1 with h | ⟨_,h,_,_⟩
      ·exact (hdis _ n h (Nat.le_refl _) h2).elim
      ·have hcb:=(hsame0 hwr).1 _ n h (Nat.le_refl _);rcases hcase b' n' h4 with h' | ⟨_,_,h3',h4'⟩
       ·have:=(S.hr.dom _ _ h').2;omega
       ·omega
    size:=Nat.le_trans S.size k4.size
    out:=S.out.trans k4.out
    same:=fun Pr h1 h2 => by
     obtain ⟨a1,a2⟩:=S.same Pr h1 h2;obtain ⟨b1,b2⟩:=k4.same Pr (fun b n hb hor => by
      obtain ⟨q1,q2⟩:=Names.below_eq.1 hb;rcases hor with hor | hor
      ·rw [L.base] at hor;omega
      ·rw [L.wr'] at hor;exact a1 b n q2 (X.noted hi hor)) (fun b hb => Nat.lt_of_lt_of_le (h2 b hb) S.size)
     refine ⟨fun b n hb hor => ?_,fun b hb => (b2 b hb).trans (a2 b hb)⟩;rcases hcase b n hb with h | ⟨_,h,h3,_⟩
     ·exact a1 b n h hor
     ·exact b1 b n h (.inl (by rw [L.base];exact h3))
    clo:=fun a b ha hb => by
     rcases add_true.1 ha with ha | rfl
     ·exact add_true.2 (.inl (S.clo a b ha hb))
     ·exact add_true.2 (.inl (hp b hb)) }
end
end Go.Ab
namespace Go.Ab
theorem bit_lt {ops:Array Oper} (F:RegF ops):∀ {i j:Nat},i < ops.size→bitOf (orderBits [] ops.toList) i j=true→j < i:=by
 intro i;induction i using Nat.strongRecOn with
 | ind i ih =>
  intro j hi h;have ho:ops[i]?=some ops[i]:=by simp [hi]
  obtain ⟨e,h1,h2,h3⟩:=bit_mem (by rw [Array.getElem?_toList];exact ho) h;have hlt:=F.after i _ ho e h1 h2;rcases h3 with rfl | ⟨_,h4⟩
  ·exact hlt
  ·have:=ih e.on hlt (by omega) h4;omega
theorem alone_all {bs:List Nat} {i:Nat}:∀ {l:List Oper} {a:Nat},alone bs i a l=true→∀ k,k < l.length→a + k=i ∨ bitOf bs i (a + k)=true ∨ bitOf bs (a + k) i=true
 | [],_,_,k,hk => by simp at hk
 | o :: l,a,h,k,hk => by
  simp only [alone,Bool.and_eq_true,Bool.or_eq_true] at h;cases k with
  | zero =>
   rcases h.1 with (h1 | h1) | h1
   ·exact .inl (Nat.eq_of_beq_eq_true h1)
   ·exact .inr (.inl h1)
   ·exact .inr (.inr h1)
  | succ k => have:=alone_all h.2 k (by simpa using hk);rw [show a + (k + 1)=Nat.succ a + k from by omega];exact this
section
variable {E:Env} {ops:Array Oper} {N:Nat} {R:Nat→Rec} {fr:Fr} {u:Mode?} {dfs:List Deferred} {ρ0:Names} {w0:World} {c0:Frame} {cs0:List Frame} {callee:RunF}
theorem Txt.cover (X:Txt ops N R E callee fr u) {b:Nat}:∀ {k:Nat},k ≤ N→nx R 0 ≤ b→b < nx R k→∃ j,j < k∧nx R j ≤ b∧b < nx R (j + 1)
 | 0,_,h1,h2 => by omega
 | k + 1,hk,h1,h2 => by
  by_cases h:b < nx R k
  ·obtain ⟨j,j1,j2⟩:=Txt.cover X (show k ≤ N by omega) h1 h;exact ⟨j,by omega,j2⟩
  ·exact ⟨k,Nat.lt_succ_self _,by omega,h2⟩
theorem SI.final (X:Txt ops N R E callee fr u) (A:∀ i,i ≤ N→At E fr u ρ0 (R 0).h w0 c0 (R i)) {D:Nat→Bool} {ρ:Names} {tm:T Value} {w:World} {c:Frame} {cs:List Frame} (F:RegF ops) (S:SI E ops N R fr u dfs ρ0 w0 c0 cs0 D ρ tm w c cs) (hall:∀ j,j < N→D j=true) (hin:∀ j,D j=true→j < N) :
 HR E ρ (R N).h w∧Ev ρ0 (R 0).h w0 ρ (R N).h w∧TR ρ fr.sz (R N).tm c.tmps:=by
 obtain ⟨ρT,wT,cT,csT,t1,t2,t3,t4,t5⟩:=(A N (Nat.le_refl N)).ex;have hver:∀ b,verAt R D N b=(R N).h.blks.get b:=fun b => X.ver_text (Nat.le_refl N) fun j hj _ => hall j hj;have htm:∀ t,tm.get t=(R N).tm.get t:=fun t => S.tma.agree (X.tmAt F (Nat.le_refl N)) t fun j o hj _ _ => by rw [hall j hj,ble_iff.2 (by omega)]
 refine ⟨⟨fun b x hx => X.live N b x (Nat.le_refl N) hx,fun b cs1 an es rw' hx => X.anc N b cs1 an es rw' (Nat.le_refl N) hx,S.hr.dom,fun b n x hb hx => S.hr.blk b n x hb (by rw [X.hD_get,hver];exact hx),
  fun b b' m n x y hne hb hb' hx hy => S.hr.sep b b' m n x y hne hb hb' (by rw [X.hD_get,hver];exact hx) (by rw [X.hD_get,hver];exact hy),t1.base,t1.wr⟩,?_,?_⟩
 ·exact
   { le:=S.le
     fresh:=fun b n hb h0 => by obtain ⟨j,j1,j2,j3,j4⟩:=S.nm b n hb h0;have:=X.mono (Nat.zero_le j) (show j ≤ N by omega);unfold nx at *;omega
     named:=fun b h1 h2 => by obtain ⟨j,j1,j2,j3⟩:=X.cover (Nat.le_refl N) h1 h2;exact S.tot j b j1 (hall j j1) j2 j3
     next:=t3.next
     base:=t3.base
     wr:=t3.wr
     keep:=t3.keep
     size:=S.size
     out:=S.out
     same:=S.same }
 ·obtain ⟨h1,h2,h3⟩:=S.tr;exact ⟨h1,fun t v hv => h2 t v (by rw [htm];exact hv),fun t ht => by have:=h3 t ht;unfold tget at *;rw [← htm];exact this⟩
theorem SI.all (g:GoodC E) (hst:StubOk E) (sF:SimF E callee) (sR:SimR E callee) (hops:ops.toList.all (okOper E)=true) (X:Txt ops N R E callee fr u) (F:RegF ops)
 (A:∀ i,i ≤ N→At E fr u ρ0 (R 0).h w0 c0 (R i)) (hg:GlobR E ρ0) (hrd:RoundR ρ0 fr.round c0.roundOf) (hd0:∀ b n,ρ0 b=some n→b < nx R 0) (hu0:UR ρ0 u c0 cs0)
 {bs : List Nat} (hbs:bs=orderBits [] ops.toList) {rr:RR} (hfin:FinF E callee fr u ops.toList bs dfs N (R N) rr) {k:List Item}:∀ {D:Nat→Bool} {S:List Nat},Sched ops.size (bitOf (orderBits [] ops.toList)) D S →
  ∀ {ρ:Names} {tm:T Value} {w:World} {c:Frame} {cs:List Frame},SI E ops N R fr u dfs ρ0 w0 c0 cs0 D ρ tm w c cs→(∀ j,D j=true→j < N)→c.todo=.inRegion ops S :: k →
   (match rr with
    | .fin tm' dfs' u' h' => ∃ ρ' w' c' cs',Steps E.P (lone c cs w) (lone c' cs' w')∧Onw c0 c'∧c'.mode=.run∧c'.todo=k∧TR ρ' fr.sz tm' c'.tmps∧DefsR ρ' dfs' c'.defers∧HR E ρ' h' w'∧Ev ρ0 (R 0).h w0 ρ' h' w'∧UR ρ' u' c' cs'∧CsR u cs0 cs'
    | .pan ch tm' dfs' u' h' => ∃ ρ' w' c' cs' ch',Steps E.P (lone c cs w) (lone c' cs' w')∧Onw c0 c'∧c'.mode=.panicking ch'∧ChainR ρ' ch ch'∧TR ρ' fr.sz tm' c'.tmps∧DefsR ρ' dfs' c'.defers∧HR E ρ' h' w' ∧
     Ev ρ0 (R 0).h w0 ρ' h' w'∧UR ρ' u' c' cs'∧CsR u cs0 cs'):=by
 subst hbs;intro D S hs;induction hs with
 | nil D hD =>
  intro ρ tm w c cs I hin ht;rcases hfin with ⟨hN,rfl⟩ | ⟨o,ch,u1,h',ho,_⟩
  ·(have hN':N=ops.size:=by simpa using hN);obtain ⟨f1,f2,f3⟩:=I.final X A F (fun j hj => hD j (by omega)) hin;exact ⟨ρ,w,{ c with todo:=k },cs,.one (step_over I.mode ht),I.onw.trans ⟨rfl,rfl,rfl⟩,I.mode,rfl,f3,I.df,f1,f2,I.ur.of_kind rfl,I.cs⟩
  ·have:=(List.getElem?_eq_some_iff.1 ho).1;have:=hin N (hD N (by simpa using this));omega
 | cons D i rest hi hDi hp hs ih =>
  intro ρ tm w c cs I hin ht;have ho:ops[i]?=some ops[i]:=by simp [hi]
  by_cases hlt:i < N
  ·have hst1:∃ ρ' tm' w' c' cs',Steps E.P (lone c cs w) (lone c' cs' w')∧c'.todo=.inRegion ops rest :: k∧SI E ops N R fr u dfs ρ0 w0 c0 cs0 (add D i) ρ' tm' w' c' cs':=by
    cases hon:(R i).on with
    | false => exact I.stepOff g hst sF sR hops X F A hg hrd hd0 hlt ho hDi hp ht hon
    | true => exact I.stepOn g hst sF sR hops X F A hg hrd hd0 hu0 hlt ho hDi hp ht hon
   obtain ⟨ρ1,tm1,w1,c1,cs1,s1,t1,I1⟩:=hst1;have out:=ih I1 (fun j hj => by
    rcases add_true.1 hj with hj | rfl
    ·exact hin j hj
    ·exact hlt) t1
   cases rr with
   | fin tm' dfs' u' h' => obtain ⟨ρ',w',c',cs',o1,o2⟩:=out;exact ⟨ρ',w',c',cs',Steps.trans s1 o1,o2⟩
   | pan ch tm' dfs' u' h' => obtain ⟨ρ',w',c',cs',ch',o1,o2⟩:=out;exact ⟨ρ',w',c',cs',ch',Steps.trans s1 o1,o2⟩
  ·rcases hfin with ⟨hN,rfl⟩ | ⟨o,ch,u1,h',hoN,hwant,hop,hal,rfl⟩
   ·(have:N=ops.size:=by simpa using hN);omega
   ·(have hNs:N < ops.size:=by have:=(List.getElem?_eq_some_iff.1 hoN).1;simpa using this);have hiN:i=N:=by
     rcases alone_all hal i (by simpa using hi) with h | h | h
     ·omega
     ·rw [Nat.zero_add] at h;have:=bit_lt F hNs h;omega
     ·rw [Nat.zero_add] at h;have:=hin N (hp N h);omega
    subst hiN;have hall:∀ j,j < i→D j=true:=by
     intro j hj;rcases alone_all hal j (by simp;omega) with h | h | h
     ·omega
     ·rw [Nat.zero_add] at h;exact hp j h
     ·rw [Nat.zero_add] at h;have:=bit_lt F (by omega) h;omega
    obtain ⟨f1,f2,f3⟩:=I.final X A F hall hin;(have hoA:ops[i]?=some o:=by rw [← Array.getElem?_toList];exact hoN);(have hw:Region.wanted o (yielded ops c.tmps)=true:=by rw [wanted_ok f3];exact hwant);have out:=aOp_ok (fr:=fr) g hst sF sR hop f1.inner (hg.mono I.le) (Q:=fun x => okO E x=true∧x ∈ opsOf o.op) (fun x hx => (f3.evR (hg.mono I.le)) x hx.1) (okQ hops hoN) I.ur
     (by rw [I.onw.round];exact hrd.mono I.le) I.mode ht hoA hw
    obtain ⟨rfl,ρ1,w1,ch',k1,k2,k3,k4⟩:=out;have hdom:∀ b n,ρ b=some n→b < (R i).h.next:=fun b n hb => (f1.dom b n hb).1;have hc:=HR.comb f1.base f1.wr k4.next k3;have he:=Ev.comb f1.base hdom k4;refine ⟨ρ1,w1,c.raise ch',cs,ch',k1,?_,?_,k2,?_,?_,hc,f2.trans he ?_,?_,I.cs⟩
    ·refine I.onw.trans ?_;rw [Frame.raise_mode];exact ⟨rfl,rfl,rfl⟩
    ·rw [Frame.raise_mode];simp [raised,I.mode]
    ·rw [Frame.raise_mode];exact f3.mono k4.le
    ·rw [Frame.raise_mode];exact I.df.mono k4.le
    ·obtain ⟨ρT,wT,cT,csT,t1,t2,t3,t4,t5⟩:=(A 0 (Nat.zero_le _)).ex;exact t1.base
    ·rw [Frame.raise_mode];exact (I.ur.mono k4.le).of_kind rfl
end
theorem drawn_ok {E:Env} (g:GoodC E) (hst:StubOk E) (callee:RunF) (sF:SimF E callee) (sR:SimR E callee):DrawnOk E callee:=by
 intro fr id ops k hops hreg tm dfs u h rr e ρ w c cs hm ht htm hdf hg r hu hr;have F:=regF_of hreg;obtain ⟨N,R,_,n2,n3,n4,n5,n6,n7⟩:=trace (bs:=orderBits [] ops.toList) (fun o ho => by obtain ⟨i,hi⟩:=List.mem_iff_getElem?.1 ho;exact F.nrec i o (by rw [← Array.getElem?_toList];exact hi)) ops.toList 0 [] tm h rr rfl (Nat.zero_le _) e;have st:Steps1 E callee fr u ops.toList (orderBits [] ops.toList) N R:=fun j hj => n6 j (Nat.zero_le _) hj;obtain ⟨A,G⟩:=text_run (w0:={ w with drawn:=w.drawn + 1 }) (c0:=c) (cs0:=cs) g hst sF sR hops hg hr (by rw [n4];exact r.world rfl) (by rw [n3];exact htm) hu st;have X:Txt ops N R E callee fr u :=
  { st:=st
    go:=G
    live:=fun i b x hi hx => by obtain ⟨ρ',w',c',cs',t1,_⟩:=(A i hi).ex;exact t1.live b x hx
    anc:=fun i b cs1 an es rw' hi hx => by obtain ⟨ρ',w',c',cs',t1,_⟩:=(A i hi).ex;exact t1.anc b cs1 an es rw' hx
    sn0:=n5 }
 have hd0:∀ b n,ρ b=some n→b < nx R 0:=fun b n hb => by unfold nx;rw [n4];exact (r.dom b n hb).1
 have hstep:=stepR_region_draw (P:=E.P) (b:=c) (a:=⟨c.tmps,c.defers⟩) (id:=id) (ops:=ops) (k:=k) (cs:=cs) (w:=w);rw [atR_eq hm,atR_eq hm,← ht] at hstep;have hsch:Region.schedule (E.P.follows .mixedOrders) ops (w.tape w.drawn (.order c.fn id))=Region.linearise .any ops (w.tape w.drawn (.order c.fn id)):=by unfold Region.schedule;rw [g.mixed];simp
 rw [hsch] at hstep;have hS:=sched_of (ops:=ops) F.after ops.size (w.tape w.drawn (.order c.fn id)) (Array.replicate ops.size false) (List.range ops.size) (by simp) (by simp) (fun i hi _ => List.mem_range.2 hi) (by intro i j hi _;simp only [Array.getD_eq_getD_getElem?,Array.getElem?_replicate] at hi;split at hi <;> cases hi);have hD:(fun j => (Array.replicate ops.size false).getD j false)=fun _ => false:=by funext j;simp only [Array.getD_eq_getD_getElem?,Array.getElem?_replicate];split <;> rfl
 rw [hD] at hS;have I0 : SI E ops N R fr u dfs ρ { w with drawn:=w.drawn + 1 } c cs (fun _ => false) ρ tm { w with drawn:=w.drawn + 1 } { c with todo:=.inRegion ops (Region.linearise .any ops (w.tape w.drawn (.order c.fn id))) :: k } cs:=by
  have hv:∀ b,verAt R (fun _ => false) N b=h.blks.get b:=fun b => by rw [ver_later (i:=0) (Nat.zero_le _) fun j _ _ hj => by cases hj];show (R 0).h.blks.get b=_;rw [n4]
  have hmono:=X.mono (Nat.zero_le N) (Nat.le_refl N);have hn0:nx R 0=h.next:=by unfold nx;rw [n4]
  have r':HR E ρ h { w with drawn:=w.drawn + 1 }:=r.world rfl;exact
   { hr:=⟨fun b x hx => by
    rw [X.hD_get,hv] at hx;have:=r.live b x hx;show b < nx R N;omega,fun b cs1 an es rw' hx => r.anc b cs1 an es rw' (by rw [X.hD_get,hv] at hx;exact hx),fun b n hb => ⟨by
    have:=(r.dom b n hb).1;show b < nx R N;omega,(r'.dom b n hb).2⟩,fun b n x hb hx => r'.blk b n x hb (by rw [X.hD_get,hv] at hx;exact hx),
    fun b b' m n x y hne hb hb' hx hy => r'.sep b b' m n x y hne hb hb' (by rw [X.hD_get,hv] at hx;exact hx) (by rw [X.hD_get,hv] at hy;exact hy),Nat.le_refl _,fun b hb => by cases hb⟩
     le:=Names.le_refl _
     nm:=fun b n hb h0 => by rw [h0] at hb;cases hb
     tot:=fun j b _ hD => by cases hD
     tr:=htm
     tma:=⟨fun t _ => by rw [n3],fun j o t _ hD => by cases hD⟩
     ur:=hu.of_kind rfl
     cs:=CsR.refl u hu
     df:=hdf
     onw:=⟨rfl,rfl,rfl⟩
     mode:=hm
     un:=fun j _ hD => by cases hD
     size:=Nat.le_refl _
     out:=⟨rfl,rfl,rfl⟩
     same:=fun Pr h1 h2 => ⟨h1,fun b _ => rfl⟩
     clo:=fun a b ha => by cases ha }
 have out:=SI.all g hst sF sR hops X F A hg hr hd0 hu rfl n7 hS I0 (fun j hj => by cases hj) rfl;have hev:Ev ρ h w ρ (R 0).h { w with drawn:=w.drawn + 1 }:=by rw [n4];exact Ev.world rfl ⟨rfl,rfl,rfl⟩
 cases rr with
 | fin tm' dfs' u' h' => obtain ⟨ρ',w',c',cs',o1,o2,o3,o4,o5,o6,o7,o8,o9,o10⟩:=out;exact ⟨ρ',w',c',cs',.head hstep o1,o2,o3,o4,o5,o6,o7,hev.trans o8 r.base,o9,o10⟩
 | pan ch tm' dfs' u' h' => obtain ⟨ρ',w',c',cs',ch',o1,o2,o3,o4,o5,o6,o7,o8,o9,o10⟩:=out;exact ⟨ρ',w',c',cs',ch',.head hstep o1,o2,o3,o4,o5,o6,o7,hev.trans o8 r.base,o9,o10⟩
end Go.Ab
namespace Go.Ab
def CallPost (E:Env) (ρ:Names) (h:H) (w:World) (v:Value) (h':H):Ending→World→Prop :=
 fun e w' => ∃ ρ' v',e=.returned v'∧HR E ρ' h' w'∧Ev ρ h w ρ' h' w'∧VR ρ' v v'
theorem call_ok {E:Env} (g:GoodC E) (hst:StubOk E) {n d f:Nat} {args args':List Value} {h h':H} {v:Value} {u':Mode?} (hs:E.stub f args h=none) (e:call E n d f args h=some (.ret v,u',h'))
 {ρ:Names} {w:World} (r:HR E ρ h w) (hg:GlobR E ρ) (ha:VRs ρ args args') :
 (callFunc f args'.toArray).run E.P w=.ok (.enter f args'.toArray) w∧Calls E.P f args'.toArray w (CallPost E ρ h w v h'):=by
 obtain ⟨sF,sR⟩:=run_ok g hst (drawn_ok g hst) n d;unfold call runTg at e;simp only [hs] at e;split at e
 ·rename_i fr hfr;obtain ⟨k1,k2,k3⟩:=enter_ok g hfr ha .normal;refine ⟨k3 w,fun cs => ?_⟩;obtain ⟨ρ',w',c',cs',q1,q2,q3,q4,q5,q6,q7⟩:=sF fr none h _ _ _ e k2 ρ w _ cs k1 hg r (show (Frame.enter E.P f args'.toArray .normal).kind=.normal from by unfold Frame.enter;rfl);obtain ⟨v',y1,y2,y3,fn,y4,y5⟩:=q7;have hcs:cs'=cs:=q5;subst hcs;exact ⟨.returned v',w',c',⟨ρ',v',rfl,q2,q3,y1⟩,q1,q6.2,y2,y3,q6.1,fn,y4,y5⟩
 ·cases e
end Go.Ab
