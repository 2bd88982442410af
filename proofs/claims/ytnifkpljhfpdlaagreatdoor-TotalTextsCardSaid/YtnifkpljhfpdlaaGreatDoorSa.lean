/- What is proved: a part of the soundness of the abstract machine (a run of it stands for the run of the model, whatever the tape). Conditions stand in each theorem. -/
import Derived.Test.YtnifkpljhfpdlaaGreatDoorAb
import Derived.Calls
import Derived.Laws.Sem
import Derived.MapKept
set_option linter.unusedVariables false
set_option linter.unusedSimpArgs false
namespace Go.Ab
namespace T
variable {α:Type}
theorem get_single:∀ (n k:Nat) (v:Option α) (j:Nat),k < n→(single n k v).get j=if j=k then v else none:=by
 intro n;induction n with
 | zero => intro k v j h;omega
 | succ n ih =>
  intro k v j h;cases k with
  | zero =>
   cases j with
   | zero => simp [single,get]
   | succ j => simp only [single,get];split <;> simp
  | succ k =>
   (have hk:k / 2 < n:=by omega);have e1:Nat.mod k 2=k % 2:=rfl;have e2:Nat.div k 2=k / 2:=rfl;have e3:Nat.mod j 2=j % 2:=rfl;simp only [single,e1,e2];cases j with
   | zero => split <;> simp [get]
   | succ j =>
    have e4:Nat.mod j 2=j % 2:=rfl;have e5:Nat.div j 2=j / 2:=rfl;split
    ·rename_i hm;simp only [get,e4,e5];split
     ·rename_i hj;rw [ih _ _ _ hk];by_cases e:j=k
      ·simp [e]
      ·rw [if_neg (by omega),if_neg (by omega)]
     ·rename_i hj;rw [if_neg (by omega)]
    ·rename_i m hm;simp only [get,e4,e5];split
     ·rename_i hj;rw [if_neg (by omega)]
     ·rename_i m' hj;rw [ih _ _ _ hk];by_cases e:j=k
      ·simp [e]
      ·rw [if_neg (by omega),if_neg (by omega)]
theorem get_put (t:T α):∀ (k:Nat) (v:Option α) (j:Nat),(t.put k v).get j=if j=k then v else t.get j:=by
 induction t with
 | leaf => intro k v j;simp only [put];rw [get_single _ _ _ _ (Nat.lt_succ_self _)];simp [get]
 | node w l r ihl ihr =>
  intro k v j;cases k with
  | zero =>
   cases j with
   | zero => simp [put,get]
   | succ j => simp [put,get]
  | succ k =>
   have e1:Nat.mod k 2=k % 2:=rfl;have e2:Nat.div k 2=k / 2:=rfl;simp only [put,e1,e2];cases j with
   | zero => split <;> simp [get]
   | succ j =>
    have e4:Nat.mod j 2=j % 2:=rfl;have e5:Nat.div j 2=j / 2:=rfl;split
    ·rename_i hm;simp only [get,e4,e5];split
     ·rename_i hj;rw [ihl];by_cases e:j=k
      ·simp [e]
      ·rw [if_neg (by omega),if_neg (by omega)]
     ·rename_i hj;rw [if_neg (by omega)]
    ·rename_i m hm;simp only [get,e4,e5];split
     ·rename_i hj;rw [if_neg (by omega)]
     ·rename_i m' hj;rw [ihr];by_cases e:j=k
      ·simp [e]
      ·rw [if_neg (by omega),if_neg (by omega)]
theorem get_put_same (t:T α) (k:Nat) (v:Option α):(t.put k v).get k=v:=by simp [get_put]
theorem get_put_other (t:T α) {k j:Nat} (v:Option α) (h:j ≠ k):(t.put k v).get j=t.get j:=by simp [get_put,h]
theorem evens_get:∀ (l:List α) (k:Nat),(evens l)[k]?=l[2 * k]?:=by
 intro l;induction l using evens.induct with
 | case1 => intro k;simp [evens]
 | case2 x => intro k;cases k <;> simp [evens]
 | case3 x y l ih =>
  intro k;cases k with
  | zero => simp [evens]
  | succ k => simp only [evens,List.getElem?_cons_succ,ih];rw [show 2 * (k + 1)=2 * k + 1 + 1 from by omega];simp
theorem odds_get:∀ (l:List α) (k:Nat),(odds l)[k]?=l[2 * k + 1]?:=by
 intro l;induction l using odds.induct with
 | case1 => intro k;simp [odds]
 | case2 x => intro k;simp [odds]
 | case3 x y l ih =>
  intro k;cases k with
  | zero => simp [odds]
  | succ k => simp only [odds,List.getElem?_cons_succ,ih];rw [show 2 * (k + 1)=2 * k + 1 + 1 from by omega];simp
theorem evens_len:∀ (l:List α),(evens l).length ≤ l.length:=by
 intro l;induction l using evens.induct with
 | case1 => simp [evens]
 | case2 x => simp [evens]
 | case3 x y l ih => simp only [evens,List.length_cons];omega
theorem odds_len:∀ (l:List α),(odds l).length ≤ l.length:=by
 intro l;induction l using odds.induct with
 | case1 => simp [odds]
 | case2 x => simp [odds]
 | case3 x y l ih => simp only [odds,List.length_cons];omega
theorem get_ofListN:∀ (n:Nat) (l:List α) (k:Nat),l.length < n→(ofListN n l).get k=l[k]?:=by
 intro n;induction n with
 | zero => intro l k h;omega
 | succ n ih =>
  intro l k h;cases l with
  | nil => simp [ofListN,get]
  | cons x xs =>
   simp only [ofListN];simp only [List.length_cons] at h;have h1:=evens_len xs;have h2:=odds_len xs;cases k with
   | zero => simp [get]
   | succ k =>
    have e1:Nat.mod k 2=k % 2:=rfl;have e2:Nat.div k 2=k / 2:=rfl;simp only [get,e1,e2];split
    ·rw [ih _ _ (by omega),evens_get];simp;congr 1;omega
    ·rw [ih _ _ (by omega),odds_get];simp;congr 1;omega
theorem get_ofList (l:List α) (k:Nat):(ofList l).get k=l[k]?:=get_ofListN _ _ _ (Nat.lt_succ_self _)
end T
structure Nm where
 cb:Nat
 co:Nat
 ce:Nat
 es:Nat
abbrev Names:=Nat→Option Nm
def Names.le (ρ ρ':Names):Prop:=∀ b n,ρ b=some n→ρ' b=some n
theorem Names.le_refl (ρ:Names):ρ.le ρ:=fun _ _ h => h
theorem Names.le_trans {a b c:Names} (h:a.le b) (k:b.le c):a.le c:=fun x n e => k x n (h x n e)
def capOk (n:Nm) (o len cap cap':Nat):Prop :=
 len ≤ cap'∧if knownCap cap then cap'=cap else cap=capU∧n.co + o + cap' * n.es=n.ce
mutual
inductive VR (ρ:Names):Value→Value→Prop
 | bool (b:Bool):VR ρ (.bool b) (.bool b)
 | int (k:IntKind) (n:Int):VR ρ (.int k n) (.int k n)
 | string (s:ByteArray):VR ρ (.string s) (.string s)
 | ptrN:VR ρ (.pointer none) (.pointer none)
 | ptr (b o:Nat) (n:Nm) (h:ρ b=some n):VR ρ (.pointer (some ⟨b,o,none⟩)) (.pointer (some ⟨n.cb,n.co + o,none⟩))
 | sliceN:VR ρ (.slice none 0 0) (.slice none 0 0)
 | slice (b o l c c':Nat) (a':Addr) (n:Nm) (h:ρ b=some n) (hc:capOk n o l c c') (ha:a'=⟨n.cb,n.co + o,none⟩ ∨ c'=0) :
  VR ρ (.slice (some ⟨b,o,none⟩) l c) (.slice (some a') l c')
 | mapN:VR ρ (.map none) (.map none)
 | map (r:Nat) (n:Nm) (h:ρ r=some n):VR ρ (.map (some r)) (.map (some n.cb))
 | nilFunc:VR ρ .nilFunc .nilFunc
 | func (f:Fn) (as bs as' bs':Array Value) (hf:∀ l,f ≠ .yield l) (ha:VRs ρ as.toList as'.toList) (hb:VRs ρ bs.toList bs'.toList) :
  VR ρ (.func f as bs) (.func f as' bs')
 | yield (l:Nat) (n:Nm) (h:ρ l=some n):VR ρ (.func (.yield l) #[] #[]) (.func (.yield n.cb) #[] #[])
 | nilIface:VR ρ .nilIface .nilIface
 | iface (t:Nat) (v v':Value) (h:VR ρ v v'):VR ρ (.iface t v) (.iface t v')
 | agg (as as':Array Value) (h:VRs ρ as.toList as'.toList) (hn:∀ v,v ∈ as.toList→notAgg v=true):VR ρ (.agg as) (.agg as')
 | tuple (as as':Array Value) (h:VRs ρ as.toList as'.toList):VR ρ (.tuple as) (.tuple as')
inductive VRs (ρ:Names):List Value→List Value→Prop
 | nil:VRs ρ [] []
 | cons (v v':Value) (l l':List Value) (h:VR ρ v v') (hs:VRs ρ l l'):VRs ρ (v :: l) (v' :: l')
end
mutual
theorem VR.mono {ρ ρ':Names} (hle:ρ.le ρ'):∀ {v v':Value},VR ρ v v'→VR ρ' v v'
 | _,_,.bool b => .bool b
 | _,_,.int k n => .int k n
 | _,_,.string s => .string s
 | _,_,.ptrN => .ptrN
 | _,_,.ptr b o n h => .ptr b o n (hle _ _ h)
 | _,_,.sliceN => .sliceN
 | _,_,.slice b o l c c' a' n h hc ha => .slice b o l c c' a' n (hle _ _ h) hc ha
 | _,_,.mapN => .mapN
 | _,_,.map r n h => .map r n (hle _ _ h)
 | _,_,.nilFunc => .nilFunc
 | _,_,.func f as bs as' bs' hf ha hb => .func f as bs as' bs' hf (VRs.mono hle ha) (VRs.mono hle hb)
 | _,_,.yield l n h => .yield l n (hle _ _ h)
 | _,_,.nilIface => .nilIface
 | _,_,.iface t v v' h => .iface t v v' (VR.mono hle h)
 | _,_,.agg as as' h hn => .agg as as' (VRs.mono hle h) hn
 | _,_,.tuple as as' h => .tuple as as' (VRs.mono hle h)
theorem VRs.mono {ρ ρ':Names} (hle:ρ.le ρ'):∀ {v v':List Value},VRs ρ v v'→VRs ρ' v v'
 | _,_,.nil => .nil
 | _,_,.cons v v' l l' h hs => .cons v v' l l' (VR.mono hle h) (VRs.mono hle hs)
end
theorem VRs.length {ρ:Names}:∀ {l l':List Value},VRs ρ l l'→l.length=l'.length
 | _,_,.nil => rfl
 | _,_,.cons _ _ _ _ _ hs => by simp [VRs.length hs]
theorem VRs.get {ρ:Names}:∀ {l l':List Value},VRs ρ l l'→∀ {i:Nat} {v:Value},l[i]?=some v→∃ v',l'[i]?=some v'∧VR ρ v v'
 | _,_,.nil,i,v,h => by simp at h
 | _,_,.cons a a' l l' h hs,i,v,he => by
  cases i with
  | zero => simp at he;subst he;exact ⟨a',by simp,h⟩
  | succ i => simp at he;obtain ⟨v',h1,h2⟩:=VRs.get hs he;exact ⟨v',by simpa using h1,h2⟩
theorem VRs.append {ρ:Names}:∀ {l l' m m':List Value},VRs ρ l l'→VRs ρ m m'→VRs ρ (l ++ m) (l' ++ m')
 | _,_,_,_,.nil,h => h
 | _,_,_,_,.cons a a' l l' h hs,k => .cons a a' _ _ h (VRs.append hs k)
theorem VRs.of_get {ρ:Names}:∀ {l l':List Value},l.length=l'.length→(∀ (i:Nat) (v v':Value),l[i]?=some v→l'[i]?=some v'→VR ρ v v')→VRs ρ l l'
 | [],[],_,_ => .nil
 | [],_ :: _,h,_ => by simp at h
 | _ :: _,[],h,_ => by simp at h
 | a :: l,a' :: l',h,k => .cons a a' l l' (k 0 a a' rfl rfl) (VRs.of_get (by simpa using h) fun i v v' h1 h2 => k (i + 1) v v' (by simpa using h1) (by simpa using h2))
theorem VRs.drop {ρ:Names} {l l':List Value} (h:VRs ρ l l') (n:Nat):VRs ρ (l.drop n) (l'.drop n):=by refine VRs.of_get (by simp [VRs.length h]) fun i v v' h1 h2 => ?_;rw [List.getElem?_drop] at h1 h2;obtain ⟨w,hw,r⟩:=VRs.get h h1;rw [hw] at h2;cases h2;exact r
theorem VRs.take {ρ:Names} {l l':List Value} (h:VRs ρ l l') (n:Nat):VRs ρ (l.take n) (l'.take n):=by
 refine VRs.of_get (by simp [VRs.length h]) fun i v v' h1 h2 => ?_;rw [List.getElem?_take] at h1 h2;split at h1
 ·rename_i hi;rw [if_pos hi] at h2;obtain ⟨w,hw,r⟩:=VRs.get h h1;rw [hw] at h2;cases h2;exact r
 ·cases h1
theorem VR.undef {ρ:Names}:VR ρ undef undef:=.tuple _ _ .nil
theorem VR.cells {ρ:Names} {v v':Value} (h:VR ρ v v'):VRs ρ (cellsL v) v'.cells.toList:=by cases h <;> first | (rename_i hs _;exact hs) | (refine .cons _ _ _ _ ?_ .nil;constructor <;> assumption) | skip
theorem VR.noAgg {ρ:Names} {v v':Value} (h:VR ρ v v'):notAgg v'=notAgg v:=by cases h <;> rfl
theorem VR.cellsNo {ρ:Names} {v v':Value} (h:VR ρ v v') (ht:noTup v=true):∀ x,x ∈ cellsL v→notAgg x=true:=by
 cases h <;> simp only [cellsL,List.mem_singleton] <;> first | (rintro x rfl;rfl) | assumption | skip
 all_goals (simp [noTup] at ht)
theorem VRs.noAgg {ρ:Names} {l l':List Value} (h:VRs ρ l l') (hn:∀ v,v ∈ l→notAgg v=true):∀ v,v ∈ l'→notAgg v=true:=by
 intro v hv;obtain ⟨i,hi⟩:=List.mem_iff_getElem?.1 hv;have hlen:=h.length;have:i < l.length:=by rw [hlen];exact (List.getElem?_eq_some_iff.1 hi).1
 obtain ⟨w,hw,r⟩:=VRs.get h (List.getElem?_eq_getElem this);rw [hi] at hw;cases hw;rw [r.noAgg];exact hn _ (List.getElem_mem this)
def closedV:Nat→Value→Bool
 | _,.bool _ => true
 | _,.int _ _ => true
 | _,.string _ => true
 | _,.pointer none => true
 | _,.slice none 0 0 => true
 | _,.map none => true
 | _,.nilFunc => true
 | _,.nilIface => true
 | _,.func (.func _) a b => a.toList.isEmpty && b.toList.isEmpty
 | _,.func (.methodOf _ _) a b => a.toList.isEmpty && b.toList.isEmpty
 | n + 1,.iface _ v => closedV n v
 | n + 1,.agg a => a.toList.all fun v => notAgg v && closedV n v
 | n + 1,.tuple a => a.toList.all fun v => closedV n v
 | _,_ => false
theorem closed_VR (ρ:Names):∀ (n:Nat) (v:Value),closedV n v=true→VR ρ v v:=by
 intro n;induction n with
 | zero =>
  intro v h;cases v <;> (try simp only [closedV] at h) <;> try (exact Bool.noConfusion h)
  all_goals first | exact .bool _ | exact .int _ _ | exact .string _ | exact .nilFunc | exact .nilIface | skip
  ·rename_i a;cases a <;> simp only [closedV] at h <;> first | exact .ptrN | exact Bool.noConfusion h
  ·rename_i a l c;cases a <;> cases l <;> cases c <;> simp only [closedV] at h <;> first | exact .sliceN | exact Bool.noConfusion h
  ·rename_i a;cases a <;> simp only [closedV] at h <;> first | exact .mapN | exact Bool.noConfusion h
  ·rename_i f a b;(cases f <;> simp only [closedV,Bool.and_eq_true,List.isEmpty_iff] at h <;> try (exact Bool.noConfusion h));all_goals (refine .func _ _ _ _ _ (by intro l;simp) ?_ ?_ <;> simp [h] <;> exact .nil)
 | succ n ih =>
  intro v h;cases v <;> (try simp only [closedV] at h) <;> try (exact Bool.noConfusion h)
  all_goals first | exact .bool _ | exact .int _ _ | exact .string _ | exact .nilFunc | exact .nilIface | skip
  ·rename_i a;cases a <;> simp only [closedV] at h <;> first | exact .ptrN | exact Bool.noConfusion h
  ·rename_i a l c;cases a <;> cases l <;> cases c <;> simp only [closedV] at h <;> first | exact .sliceN | exact Bool.noConfusion h
  ·rename_i a;cases a <;> simp only [closedV] at h <;> first | exact .mapN | exact Bool.noConfusion h
  ·rename_i f a b;(cases f <;> simp only [closedV,Bool.and_eq_true,List.isEmpty_iff] at h <;> try (exact Bool.noConfusion h));all_goals (refine .func _ _ _ _ _ (by intro l;simp) ?_ ?_ <;> simp [h] <;> exact .nil)
  ·exact .iface _ _ _ (ih _ h)
  ·rw [List.all_eq_true] at h;refine .agg _ _ (VRs.of_get rfl fun i x y h1 h2 => ?_) fun x hx => ?_
   ·rw [h1] at h2;cases h2;have:=h x (List.mem_of_getElem? h1);simp only [Bool.and_eq_true] at this;exact ih _ this.2
   ·have:=h x hx;simp only [Bool.and_eq_true] at this;exact this.1
  ·rw [List.all_eq_true] at h;refine .tuple _ _ (VRs.of_get rfl fun i x y h1 h2 => ?_);rw [h1] at h2;cases h2;exact ih _ (h x (List.mem_of_getElem? h1))
end Go.Ab
namespace Go.Ab
def okO (E:Env):Operand→Bool
 | .const v => closedV 20 v
 | .global g => Nat.ble (g + 1) E.P.globals.size
 | _ => true
def opsOf:Op→List Operand
 | .move x => [x] | .assign x => [x] | .pick c a b => [c,a,b]
 | .alloc _ => [] | .box _ x => [x]
 | .build _ ps => ps.toList.map (·.2) | .buildSlice _ _ ps => ps.toList.map (·.2)
 | .load _ a => [a] | .store _ a x => [a,x] | .nilCheck x => [x]
 | .binOp _ _ x y _ => [x,y] | .unOp _ _ x => [x] | .convert _ _ x => [x]
 | .makeInterface _ x => [x] | .makeFunc _ a b => a.toList ++ b.toList
 | .makeMap _ r => match r with | none => [] | some x => [x]
 | .makeSlice _ n c => [n,c]
 | .slice _ x l h m => x :: ((match l with | none => [] | some x => [x]) ++ (match h with | none => [] | some x => [x]) ++ (match m with | none => [] | some x => [x]))
 | .fieldAddr _ x _ => [x] | .field _ x _ => [x] | .indexAddr _ x i => [x,i] | .index _ x i => [x,i]
 | .lookup _ x i _ => [x,i] | .mapUpdate _ m k v => [m,k,v] | .insert _ m k v => [m,k,v]
 | .range _ x => [x] | .next x _ => [x] | .typeAssert x _ _ _ => [x] | .extract t _ => [t]
 | .call c => (match c.callee with | .value f => [f] | .invoke r _ => [r] | _ => []) ++ c.args.toList
 | .defer c => (match c.callee with | .value f => [f] | .invoke r _ => [r] | _ => []) ++ c.args.toList
 | .panic x => [x]
 | _ => []
def memNb:List Nat→Nat→Bool
 | [],_ => false
 | m :: l,b => match Nat.beq m b with
  | true => true
  | false => memNb l b
def tmpsOf (o:Op):List Nat:=(opsOf o).filterMap fun | .tmp t => some t | _ => none
def pairOk (bs:List Nat) (i:Nat) (oi:Oper) (j:Nat) (oj:Oper):Bool :=
 match oj.dst with
 | none => true
 | some d => (match oi.dst with | none => true | some e => !(Nat.beq d e)) && (!(memNb (tmpsOf oi.op) d) || (Nat.ble (j + 1) i && Nat.testBit ((bs[i]?).getD 0) j) || (Nat.ble (i + 1) j && Nat.testBit ((bs[j]?).getD 0) i))
def noRec:Op→Bool
 | .call c => match c.callee with
  | .builtin .recover => false
  | _ => true
 | .defer _ => false
 | _ => true
def regOk (bs:List Nat) (ops:List Oper):Bool :=
 ops.zipIdx.all fun (oi,i) => noRec oi.op && (match oi.guard with | none => true | some (j,_) => Nat.ble (j + 1) i && Nat.testBit ((bs[i]?).getD 0) j) &&
  (oi.after.toList.all fun e => !(Region.binds .any e) || Nat.ble (e.on + 1) i) && ops.zipIdx.all fun (oj,j) => Nat.beq i j || pairOk bs i oi j oj
def okOper (E:Env) (o:Oper):Bool:=(opsOf o.op).all (okO E)
def okCode (E:Env):Code→Bool
 | .region _ ops draw => ops.toList.all (okOper E) && (!draw || regOk (orderBits [] ops.toList) ops.toList)
 | .seq a b => okCode E a && okCode E b
 | .cond c a b => okO E c && okCode E a && okCode E b
 | .block _ b => okCode E b
 | .loop b => okCode E b
 | .rangeFunc f _ a b => okO E f && okCode E a && okCode E b
 | .scope b => okCode E b
 | _ => true
abbrev cell (w:World) (b i:Nat):Option Value:=w.cell? ⟨b,i,none⟩
def CellsR (ρ:Names) (w:World) (n:Nm) (cs:List Value):Prop :=
 ∀ (i:Nat) (v:Value),cs[i]?=some v→notAgg v=true∧∃ v',cell w n.cb (n.co + i)=some v'∧VR ρ v v'
def RoomR (w:World) (n:Nm):Prop:=∀ i,n.co ≤ i→i < n.ce→(cell w n.cb i).isSome=true∧w.frozen? ⟨n.cb,i,none⟩=false
def entR (ρ:Names) (e:Value × Value) (x:MapEntry):Prop:=VR ρ e.1 x.key∧VR ρ e.2 x.val
inductive EntsR (ρ:Names):List (Value × Value)→List MapEntry→Prop
 | nil:EntsR ρ [] []
 | cons (e:Value × Value) (x:MapEntry) (l:List (Value × Value)) (l':List MapEntry) (h:entR ρ e x) (hs:EntsR ρ l l'):EntsR ρ (e :: l) (x :: l')
def TR (ρ:Names) (sz:Nat) (tm:T Value) (a:Array Value):Prop:=a.size=sz∧(∀ t v,tm.get t=some v→t < sz)∧∀ t,t < sz→VR ρ (tget tm t) (a.getD t undef)
def tgtR (ρ:Names) (x y:Target):Prop :=
 match x,y with
 | .fn f cap,.fn f' cap' => VR ρ (.func f #[] cap) (.func f' #[] cap')
 | .collected r,.collected r' => ∃ n,ρ r=some n∧r'=n.cb
 | _,_ => False
inductive DefsR (ρ:Names):List Deferred→List Deferred→Prop
 | nil:DefsR ρ [] []
 | cons (d d':Deferred) (l l':List Deferred) (h:tgtR ρ d.target d'.target) (ha:VRs ρ d.args.toList d'.args.toList) (hs:DefsR ρ l l'):DefsR ρ (d :: l) (d' :: l')
def loopR (ρ:Names) (E:Env) (l:ALoop) (r:Loop):Prop :=
 r.state=l.state∧r.pending=l.pending∧r.fn=l.fn∧TR ρ (szOf E l.fn) l.tm r.tmps∧r.params.toList=l.params∧r.assign=l.assign∧r.body=l.body ∧
  (∃ n,ρ l.defers=some n∧r.defers=n.cb)∧okCode E l.assign=true∧okCode E l.body=true∧(∀ c,l.pending=some c→okCode E c=true)
def Es (n:Nm) (es:Nat):Prop:=n.es=es∧(es=0→n.co=0)
def BR (ρ:Names) (E:Env) (w:World) (n:Nm):Blk→Prop
 | .cells cs _ es rw => CellsR ρ w n cs∧Es n es∧(rw=true→RoomR w n∧n.co + cs.length ≤ n.ce)
 | .map es => ∃ l c,w.heap[n.cb]?=some (.map l c)∧EntsR ρ es l.toList∧MapKept.Stamped l c
 | .iter s pos => w.heap[n.cb]?=some (.stringIter s pos)∧n.co=0
 | .loop l => ∃ r,w.heap[n.cb]?=some (.loop r)∧loopR ρ E l r
 | .defs none => w.heap[n.cb]?=some (.deferred none)
 | .defs (some l) => ∃ l',w.heap[n.cb]?=some (.deferred (some l'))∧DefsR ρ l l'
def isRow:Blk→Bool
 | .cells .. => true
 | _ => false
def endOf (n:Nm):Blk→Nat
 | .cells _ _ _ true => n.ce
 | .cells cs _ _ false => n.co + cs.length
 | _ => 0
def Off (m n:Nm) (x y:Blk):Prop:=m.cb ≠ n.cb ∨ endOf m x ≤ n.co ∨ endOf n y ≤ m.co
def Sep (m n:Nm) (c:Nat) (x y:Blk):Prop :=
 match x,y with
 | .cells cs an _ true,.cells ds _ _ rw => (c ∈ an∧rw=false∧(m.cb=n.cb→n.co + ds.length ≤ m.co + cs.length)) ∨ Off m n x y
 | .cells ..,.cells .. => True
 | .cells ..,_ => True
 | _,.cells .. => True
 | _,_ => m.cb ≠ n.cb
structure HR (E:Env) (ρ:Names) (h:H) (w:World):Prop where
 live:∀ b x,h.blks.get b=some x→b < h.next
 anc:∀ b cs an es rw,h.blks.get b=some (.cells cs an es rw)→∀ a,a ∈ an→a < b
 dom:∀ b n,ρ b=some n→b < h.next∧n.cb < w.heap.size
 blk:∀ b n x,ρ b=some n→h.blks.get b=some x→BR ρ E w n x
 sep:∀ b c m n x y,b ≠ c→ρ b=some m→ρ c=some n→h.blks.get b=some x→h.blks.get c=some y→Sep m n c x y
 base:h.base ≤ h.next
 wr:∀ b,b ∈ h.wr→b < h.base
def Same (w w':World) (b i:Nat):Prop:=cell w' b i=cell w b i∧w'.frozen? ⟨b,i,none⟩=w.frozen? ⟨b,i,none⟩∧(∀ o,w.heap[b]?=some o→(∀ c e f,o ≠ .cells c e f)→w'.heap[b]?=some o)
theorem Same.refl (w:World) (b i:Nat):Same w w b i:=⟨rfl,rfl,fun _ h _ => h⟩
theorem Same.trans {a b c:World} {x i:Nat} (h:Same a b x i) (k:Same b c x i):Same a c x i :=
 ⟨k.1.trans h.1,k.2.1.trans h.2.1,fun o ho hn => k.2.2 o (h.2.2 o ho hn) hn⟩
def Outer (w w':World):Prop:=w'.os=w.os∧w'.output=w.output∧w'.tape=w.tape
theorem Outer.refl (w:World):Outer w w:=⟨rfl,rfl,rfl⟩
theorem Outer.trans {a b c:World} (h:Outer a b) (k:Outer b c):Outer a c:=⟨k.1.trans h.1,k.2.1.trans h.2.1,k.2.2.trans h.2.2⟩
structure Ev (ρ:Names) (h:H) (w:World) (ρ':Names) (h':H) (w':World):Prop where
 le:ρ.le ρ'
 fresh:∀ b n,ρ' b=some n→ρ b=none→h.next ≤ b
 named:∀ b,h.next ≤ b→b < h'.next→(ρ' b).isSome=true
 next:h.next ≤ h'.next
 base:h'.base=h.base
 wr:∀ b,b ∈ h.wr→b ∈ h'.wr
 keep:∀ b,b < h.base→b ∉ h'.wr→h'.blks.get b=h.blks.get b
 size:w.heap.size ≤ w'.heap.size
 out:Outer w w'
 same:∀ Pr:Nat→Prop,(∀ b n,ρ b=some n→(h.base ≤ b ∨ b ∈ h'.wr)→¬ Pr n.cb)→(∀ b,Pr b→b < w.heap.size) →
  (∀ b n,ρ' b=some n→(h.base ≤ b ∨ b ∈ h'.wr)→¬ Pr n.cb)∧∀ b,Pr b→w'.heap[b]?=w.heap[b]?
theorem Ev.refl (ρ:Names) (h:H) (w:World):Ev ρ h w ρ h w :=
 { le:=Names.le_refl ρ,named:=fun b h1 h2 => by omega,fresh:=fun b n e e' => by rw [e] at e';cases e'
   next:=Nat.le_refl _,base:=rfl,wr:=fun _ h => h,keep:=fun _ _ _ => rfl,size:=Nat.le_refl _,out:=Outer.refl _,same:=fun _ hp _ => ⟨hp,fun _ _ => rfl⟩ }
theorem Ev.trans {ρ ρ1 ρ2:Names} {h h1 h2:H} {w w1 w2:World} (e:Ev ρ h w ρ1 h1 w1) (f:Ev ρ1 h1 w1 ρ2 h2 w2) (hb:h.base ≤ h.next):Ev ρ h w ρ2 h2 w2 where
 le:=Names.le_trans e.le f.le
 named:=by
  intro b h1' h2';by_cases hlt:b < h1.next
  ·have:=e.named b h1' hlt;cases hb':ρ1 b with
   | none => rw [hb'] at this;cases this
   | some m => rw [f.le b m hb'];rfl
  ·exact f.named b (by omega) h2'
 fresh:=by
  intro b n hn h0;cases h1e:ρ1 b with
  | none => exact Nat.le_trans e.next (f.fresh b n hn h1e)
  | some m => exact e.fresh b m h1e h0
 next:=Nat.le_trans e.next f.next
 base:=f.base.trans e.base
 wr:=fun b hb => f.wr b (e.wr b hb)
 keep:=fun b hb hw => (f.keep b (by rw [e.base];exact hb) hw).trans (e.keep b hb fun hx => hw (f.wr b hx))
 size:=Nat.le_trans e.size f.size
 out:=e.out.trans f.out
 same:=by
  intro Pr h1 h2s;obtain ⟨a1,a2⟩:=e.same Pr (fun b n hn hor => h1 b n hn (hor.imp id (f.wr b))) h2s;obtain ⟨c1,c2⟩:=f.same Pr (by
   intro b n hn hor;cases h0:ρ b with
   | none => have:=e.fresh b n hn h0;exact a1 b n hn (.inl (by omega))
   | some m => have:ρ1 b=some m:=e.le b m h0;rw [this] at hn;cases hn;exact h1 b _ h0 (by rw [e.base] at hor;exact hor)) (fun b hb => Nat.lt_of_lt_of_le (h2s b hb) e.size)
  refine ⟨fun b n hn hor => c1 b n hn (by rw [e.base];exact hor),fun b hp => (c2 b hp).trans (a2 b hp)⟩
end Go.Ab
namespace Go.Ab
theorem cell_def (w:World) (b i:Nat):cell w b i=match w.heap[b]? with | some (.cells c _ _) => c[i]? | _ => none:=by
 unfold cell World.cell?;cases w.heap[b]? with
 | none => rfl
 | some x => cases x <;> rfl
theorem cell_setCell (w:World) (b o:Nat) (v:Value) (b' i:Nat) :
 cell (w.setCell ⟨b,o,none⟩ v) b' i=if b'=b∧i=o∧(cell w b o).isSome=true then some v else cell w b' i:=by
 rw [cell_def,cell_def,cell_def];simp only [World.setCell,Option.isSome_none,Bool.false_eq_true,if_false,Array.getElem?_modify];by_cases hb:b=b'
 ·subst hb;simp only [if_true,true_and];cases hh:w.heap[b]? with
  | none => simp
  | some x =>
   cases x <;> simp only [Option.map_some,Option.isSome_none,Bool.false_eq_true,and_false,if_false];rename_i c e f;rw [Array.getElem?_setIfInBounds];by_cases hi:o=i
   ·subst hi;by_cases hs:o < c.size
    ·simp [hs]
    ·simp [hs]
   ·simp [hi,Ne.symm hi]
 ·rw [if_neg hb,if_neg (by intro h;exact hb h.1.symm)]
theorem frozen_setCell (w:World) (a:Addr) (v:Value) (c:Addr):(w.setCell a v).frozen? c=w.frozen? c:=by
 unfold World.frozen? World.setCell;simp only [Array.getElem?_modify];by_cases hb:a.block=c.block
 ·rw [if_pos hb];cases w.heap[c.block]? with
  | none => simp
  | some x => cases x <;> simp
 ·rw [if_neg hb]
theorem heap_setCell_size (w:World) (a:Addr) (v:Value):(w.setCell a v).heap.size=w.heap.size:=by simp [World.setCell]
theorem heap_setCell_other (w:World) (b o:Nat) (v:Value) (b':Nat) (h:b' ≠ b):(w.setCell ⟨b,o,none⟩ v).heap[b']?=w.heap[b']?:=by simp only [World.setCell,Array.getElem?_modify];rw [if_neg (Ne.symm h)]
def setCells (w:World) (b:Nat):Nat→List Value→World
 | _,[] => w
 | o,v :: l => setCells (w.setCell ⟨b,o,none⟩ v) b (o + 1) l
theorem cell_setCells (b:Nat):∀ (l:List Value) (w:World) (o:Nat) (b' i:Nat),(∀ j,j < l.length→(cell w b (o + j)).isSome=true) →
 cell (setCells w b o l) b' i=if b'=b∧o ≤ i∧i < o + l.length then l[i - o]? else cell w b' i:=by
 intro l;induction l with
 | nil => intro w o b' i _;simp only [setCells,List.length_nil,Nat.add_zero];rw [if_neg (by omega)]
 | cons v l ih =>
  intro w o b' i hs;simp only [setCells,List.length_cons];have h0:(cell w b o).isSome=true:=by simpa using hs 0 (by simp)
  rw [ih]
  ·by_cases hb:b'=b
   ·subst hb;by_cases h1:i=o
    ·subst h1;rw [if_neg (by omega),cell_setCell,if_pos ⟨rfl,rfl,h0⟩,if_pos ⟨rfl,Nat.le_refl _,by omega⟩];simp
    ·by_cases h2:o + 1 ≤ i∧i < o + 1 + l.length
     ·rw [if_pos ⟨rfl,h2.1,h2.2⟩,if_pos ⟨rfl,by omega,by omega⟩];rw [show i - o=(i - (o + 1)) + 1 from by omega];simp
     ·rw [if_neg (fun h => h2 h.2),if_neg (by omega),cell_setCell,if_neg (fun h => h1 h.2.1)]
   ·rw [if_neg (fun h => hb h.1),if_neg (fun h => hb h.1),cell_setCell,if_neg (fun h => hb h.1)]
  ·intro j hj;rw [cell_setCell];split
   ·rfl
   ·have:=hs (j + 1) (by simp;omega);rw [show o + 1 + j=o + (j + 1) from by omega];exact this
theorem frozen_setCells (b:Nat):∀ (l:List Value) (w:World) (o:Nat) (c:Addr),(setCells w b o l).frozen? c=w.frozen? c
 | [],_,_,_ => rfl
 | v :: l,w,o,c => by simp only [setCells];rw [frozen_setCells b l,frozen_setCell]
theorem heap_setCells_size (b:Nat):∀ (l:List Value) (w:World) (o:Nat),(setCells w b o l).heap.size=w.heap.size
 | [],_,_ => rfl
 | v :: l,w,o => by simp only [setCells];rw [heap_setCells_size b l,heap_setCell_size]
theorem out_setCells (b:Nat):∀ (l:List Value) (w:World) (o:Nat),Outer w (setCells w b o l)
 | [],w,_ => Outer.refl w
 | v :: l,w,o => by simp only [setCells];exact Outer.trans ⟨rfl,rfl,rfl⟩ (out_setCells b l (w.setCell ⟨b,o,none⟩ v) (o + 1))
theorem heap_setCells_other (b:Nat):∀ (l:List Value) (w:World) (o:Nat) (b':Nat),b' ≠ b→(setCells w b o l).heap[b']?=w.heap[b']?
 | [],_,_,_,_ => rfl
 | v :: l,w,o,b',h => by simp only [setCells];rw [heap_setCells_other b l _ _ _ h,heap_setCell_other _ _ _ _ _ h]
theorem addr_add (b o i:Nat):(⟨b,o,none⟩:Addr).add i=⟨b,o + i,none⟩:=by
 unfold Addr.add;split
 ·rename_i h;simp [h]
 ·rfl
theorem run_load (P:Program) (w:World) (a:Addr) (m:Mode) (v:Value) (h:w.cell? a=some v):(Go.load a m).run P w=.ok v w:=by simp [Go.load,Sem.run,h]
theorem run_loadFrom (P:Program) (w:World) (b o:Nat):∀ (l:List Value) (i:Nat) (acc:Array Value),(∀ j v,l[j]?=some v→cell w b (o + (i + j))=some v) →
 (loadCellsFrom ⟨b,o,none⟩ i l.length acc).run P w=.ok (acc ++ l.toArray) w:=by
 intro l;induction l with
 | nil => intro i acc _;simp [loadCellsFrom]
 | cons v l ih => intro i acc h;have h0:=h 0 v rfl;simp only [List.length_cons,loadCellsFrom,Sem.run_bind,addr_add];rw [run_load P w _ _ v (by simpa using h0)];simp only [Result.andThen_ok];rw [ih (i + 1) _ (fun j x hx => by have:=h (j + 1) x (by simpa using hx);rw [show i + 1 + j=i + (j + 1) from by omega];exact this)];simp
theorem run_loadCells' (P:Program) (w:World) (b o:Nat) (l:List Value) (h:∀ j v,l[j]?=some v→cell w b (o + j)=some v) :
 (loadCells ⟨b,o,none⟩ l.length).run P w=.ok l.toArray w:=by
 unfold loadCells;rw [run_loadFrom P w b o l 0 #[] (fun j v hv => by simpa using h j v hv)];simp
theorem run_store (P:Program) (w:World) (a:Addr) (v:Value) (m:Mode) (hv:notAgg v=true) (hs:(w.cell? a).isSome=true) (hf:w.frozen? a=false) :
 (Go.store a v m).run P w=.ok () (w.setCell a v):=by
 obtain ⟨x,hx⟩:=Option.isSome_iff_exists.1 hs;cases v <;> first | (simp [notAgg] at hv;done) | simp [Go.store,Sem.run,hx,hf]
theorem run_storeCells' (P:Program) (b o:Nat):∀ (l:List Value) (i:Nat) (w:World),(∀ v,v ∈ l→notAgg v=true) →
 (∀ j,j < l.length→(cell w b (o + (i + j))).isSome=true∧w.frozen? ⟨b,o + (i + j),none⟩=false) →
 (storeCells ⟨b,o,none⟩ l i).run P w=.ok () (setCells w b (o + i) l):=by
 intro l;induction l with
 | nil => intro i w _ _;simp [storeCells,setCells]
 | cons v l ih =>
  intro i w hn hc;obtain ⟨c1,c2⟩:=hc 0 (by simp);simp only [storeCells,Sem.run_bind,addr_add];rw [run_store P w _ v _ (hn v (by simp)) (by simpa using c1) (by simpa using c2)];simp only [Result.andThen_ok,setCells];rw [ih (i + 1) _ (fun x hx => hn x (by simp [hx])) ?_]
  ·rw [show o + (i + 1)=o + i + 1 from by omega]
  ·intro j hj;obtain ⟨d1,d2⟩:=hc (j + 1) (by simp;omega);rw [frozen_setCell,cell_setCell];rw [show i + 1 + j=i + (j + 1) from by omega];refine ⟨?_,d2⟩;split
   ·rfl
   ·exact d1
theorem nth_eq {α:Type}:∀ (l:List α) (i:Nat),nth l i=l[i]?
 | [],i => by cases i <;> simp [nth]
 | x :: l,0 => by simp [nth]
 | x :: l,i + 1 => by simp [nth,nth_eq l i]
theorem dropN_eq:∀ (n:Nat) (l:List Value),dropN n l=l.drop n
 | 0,l => by cases l <;> simp [dropN]
 | n + 1,[] => by simp [dropN]
 | n + 1,x :: l => by simp [dropN,dropN_eq n l]
theorem takeN_eq:∀ (n:Nat) (l r:List Value),takeN n l=some r→r=l.take n∧n ≤ l.length
 | 0,l,r,h => by cases l <;> simp_all [takeN]
 | n + 1,[],r,h => by simp [takeN] at h
 | n + 1,x :: l,r,h => by
  simp only [takeN] at h;split at h
  ·rename_i r' hr;cases h;obtain ⟨h1,h2⟩:=takeN_eq n l r' hr;simp [h1,h2]
  ·cases h
theorem read_eq {h:H} {b o n:Nat} {l:List Value} (e:h.read b o n=some l):∃ cs an es rw,h.blks.get b=some (.cells cs an es rw)∧l=(cs.drop o).take n∧o + n ≤ cs.length ∨ ∃ cs an es rw,h.blks.get b=some (.cells cs an es rw)∧l=[]∧n=0:=by
 unfold H.read at e;split at e
 ·rename_i cs an es rw hb;rw [dropN_eq] at e;obtain ⟨h1,h2⟩:=takeN_eq _ _ _ e;rw [List.length_drop] at h2;by_cases hn:n=0
  ·subst hn;exact ⟨cs,an,es,rw,.inr ⟨cs,an,es,rw,hb,by simpa using h1,rfl⟩⟩
  ·exact ⟨cs,an,es,rw,.inl ⟨hb,h1,by omega⟩⟩
 ·cases e
theorem setAt_len:∀ (cs:List Value) (o:Nat) (vs:List Value),(setAt cs o vs).length=cs.length
 | cs,0,[] => by simp [setAt]
 | [],0,v :: vs => by simp [setAt]
 | c :: cs,0,v :: vs => by simp [setAt,setAt_len cs 0 vs]
 | [],o + 1,vs => by simp [setAt]
 | c :: cs,o + 1,vs => by simp [setAt,setAt_len cs o vs]
theorem setAt_get:∀ (cs:List Value) (o:Nat) (vs:List Value) (i:Nat),o + vs.length ≤ cs.length →
 (setAt cs o vs)[i]?=if o ≤ i∧i < o + vs.length then vs[i - o]? else cs[i]?
 | cs,0,[],i,_ => by simp [setAt]
 | [],0,v :: vs,i,h => by simp at h
 | c :: cs,0,v :: vs,i,h => by
  simp only [setAt];cases i with
  | zero => simp
  | succ i =>
   have:=setAt_get cs 0 vs i (by simp at h;omega);simp only [List.getElem?_cons_succ,this,List.length_cons];by_cases hi:i < vs.length
   ·rw [if_pos ⟨Nat.zero_le _,by omega⟩,if_pos ⟨Nat.zero_le _,by omega⟩];simp
   ·rw [if_neg (by omega),if_neg (by omega)]
 | [],o + 1,vs,i,h => by simp at h
 | c :: cs,o + 1,vs,i,h => by
  simp only [setAt];cases i with
  | zero => rw [if_neg (by omega)];simp
  | succ i =>
   have:=setAt_get cs o vs i (by simp at h;omega);simp only [List.getElem?_cons_succ,this];by_cases hi:o ≤ i∧i < o + vs.length
   ·rw [if_pos hi,if_pos ⟨by omega,by omega⟩];congr 1;omega
   ·rw [if_neg hi,if_neg (by omega)]
end Go.Ab
namespace Go.Ab
theorem EntsR.mono {ρ ρ':Names} (hle:ρ.le ρ'):∀ {l:List (Value × Value)} {l':List MapEntry},EntsR ρ l l'→EntsR ρ' l l'
 | _,_,.nil => .nil
 | _,_,.cons e x l l' h hs => .cons e x l l' ⟨h.1.mono hle,h.2.mono hle⟩ (EntsR.mono hle hs)
theorem TR.mono {ρ ρ':Names} (hle:ρ.le ρ') {sz:Nat} {tm:T Value} {a:Array Value} (h:TR ρ sz tm a):TR ρ' sz tm a :=
 ⟨h.1,h.2.1,fun t ht => (h.2.2 t ht).mono hle⟩
theorem tgtR.mono {ρ ρ':Names} (hle:ρ.le ρ') {x y:Target} (h:tgtR ρ x y):tgtR ρ' x y:=by
 cases x <;> cases y <;> simp only [tgtR] at h ⊢ <;> try exact h.elim
 ·exact h.mono hle
 ·obtain ⟨n,h1,h2⟩:=h;exact ⟨n,hle _ _ h1,h2⟩
theorem DefsR.mono {ρ ρ':Names} (hle:ρ.le ρ'):∀ {l l':List Deferred},DefsR ρ l l'→DefsR ρ' l l'
 | _,_,.nil => .nil
 | _,_,.cons d d' l l' h ha hs => .cons d d' l l' (h.mono hle) (ha.mono hle) (DefsR.mono hle hs)
theorem loopR.mono {ρ ρ':Names} (hle:ρ.le ρ') {E:Env} {l:ALoop} {r:Loop} (h:loopR ρ E l r):loopR ρ' E l r:=by obtain ⟨h1,h2,h3,h4,h5,h6,h7,⟨n,h8,h9⟩,h10⟩:=h;exact ⟨h1,h2,h3,h4.mono hle,h5,h6,h7,⟨n,hle _ _ h8,h9⟩,h10⟩
theorem cell_heap {w w':World} {b:Nat} (h:w'.heap[b]?=w.heap[b]?) (i:Nat):cell w' b i=cell w b i:=by rw [cell_def,cell_def,h]
theorem frozen_heap {w w':World} {b:Nat} (h:w'.heap[b]?=w.heap[b]?) (i:Nat):w'.frozen? ⟨b,i,none⟩=w.frozen? ⟨b,i,none⟩:=by unfold World.frozen?;simp only [h]
theorem BR.same {ρ ρ':Names} {E:Env} {w w':World} {n:Nm} {x:Blk} (h:BR ρ E w n x) (hle:ρ.le ρ') (hh:w'.heap[n.cb]?=w.heap[n.cb]?):BR ρ' E w' n x:=by
 cases x with
 | cells cs an es rw =>
  obtain ⟨h1,he,h2⟩:=h;refine ⟨fun i v hv => ?_,he,fun hr => ?_⟩
  ·obtain ⟨a,v',hc,hv'⟩:=h1 i v hv;exact ⟨a,v',by rw [cell_heap hh];exact hc,hv'.mono hle⟩
  ·obtain ⟨r,rest⟩:=h2 hr;refine ⟨fun i hi hj => ?_,rest⟩;rw [cell_heap hh,frozen_heap hh];exact r i hi hj
 | map es => obtain ⟨l,c,h1,h2,h3⟩:=h;exact ⟨l,c,by rw [hh];exact h1,h2.mono hle,h3⟩
 | iter s p => exact ⟨by rw [hh];exact h.1,h.2⟩
 | loop l => obtain ⟨r,h1,h2⟩:=h;exact ⟨r,by rw [hh];exact h1,h2.mono hle⟩
 | defs ds =>
  cases ds with
  | none => show _=_;rw [hh];exact h
  | some l => obtain ⟨l',h1,h2⟩:=h;exact ⟨l',by rw [hh];exact h1,h2.mono hle⟩
def Names.add (ρ:Names) (b:Nat) (n:Nm):Names:=fun x => if x=b then some n else ρ x
theorem Names.add_same (ρ:Names) (b:Nat) (n:Nm):Names.add ρ b n b=some n:=by simp [Names.add]
theorem Names.add_other (ρ:Names) {b c:Nat} (n:Nm) (h:c ≠ b):Names.add ρ b n c=ρ c:=by simp [Names.add,h]
theorem Names.le_add {ρ:Names} {b:Nat} (n:Nm) (h:ρ b=none):ρ.le (Names.add ρ b n):=by
 intro x m hx;have:x ≠ b:=by rintro rfl;rw [h] at hx;cases hx
 rw [Names.add_other _ _ this];exact hx
theorem HR.none_next {E:Env} {ρ:Names} {h:H} {w:World} (r:HR E ρ h w):ρ h.next=none:=by
 cases e:ρ h.next with
 | none => rfl
 | some n => have:=(r.dom _ _ e).1;omega
theorem HR.world {E:Env} {ρ:Names} {h:H} {w w':World} (r:HR E ρ h w) (e:w'.heap=w.heap):HR E ρ h w' where
 live:=r.live
 anc:=r.anc
 dom:=fun b n hb => by rw [e];exact r.dom b n hb
 blk:=fun b n x hb hx => (r.blk b n x hb hx).same (Names.le_refl _) (by rw [e])
 sep:=r.sep
 base:=r.base
 wr:=r.wr
theorem Ev.world {ρ:Names} {h:H} {w w':World} (e:w'.heap=w.heap) (eo:Outer w w'):Ev ρ h w ρ h w' where
 le:=Names.le_refl _
 named:=fun b h1 h2 => by omega
 fresh:=fun b n e e' => by rw [e] at e';cases e'
 next:=Nat.le_refl _
 base:=rfl
 wr:=fun _ h => h
 keep:=fun _ _ _ => rfl
 size:=by rw [e];exact Nat.le_refl _
 out:=eo
 same:=fun _ hp _ => ⟨hp,fun _ _ => by rw [e]⟩
def wpush (w:World) (o:Obj):World:={ w with heap:=w.heap.push o }
theorem wpush_old (w:World) (o:Obj) {b:Nat} (h:b < w.heap.size):(wpush w o).heap[b]?=w.heap[b]?:=by simp only [wpush];rw [Array.getElem?_push,if_neg (by omega)]
theorem wpush_new (w:World) (o:Obj):(wpush w o).heap[w.heap.size]?=some o:=Array.getElem?_push_size
theorem wpush_size (w:World) (o:Obj):(wpush w o).heap.size=w.heap.size + 1:=by simp [wpush]
theorem HR.alloc {E:Env} {ρ:Names} {h:H} {w:World} (r:HR E ρ h w) (x:Blk) (o:Obj) (ce es:Nat)
 (han:∀ cs an es rw,x=.cells cs an es rw→∀ a,a ∈ an→a < h.next)
 (hb:BR (Names.add ρ h.next ⟨w.heap.size,0,ce,es⟩) E (wpush w o) ⟨w.heap.size,0,ce,es⟩ x) :
 HR E (Names.add ρ h.next ⟨w.heap.size,0,ce,es⟩) (h.alloc x) (wpush w o)∧Ev ρ h w (Names.add ρ h.next ⟨w.heap.size,0,ce,es⟩) (h.alloc x) (wpush w o):=by
 have hn:=r.none_next;have hle:=Names.le_add ⟨w.heap.size,0,ce,es⟩ hn;have hget:∀ b,(h.alloc x).blks.get b=if b=h.next then some x else h.blks.get b:=fun b => by simp [H.alloc,T.get_put]
 constructor
 ·constructor
  ·intro b y hy;rw [hget] at hy;split at hy
   ·subst_vars;show _ < Nat.succ _;omega
   ·have:=r.live b y hy;show _ < Nat.succ _;omega
  ·intro b cs an es' rw' hy a ha;rw [hget] at hy;split at hy
   ·subst_vars;cases hy;exact han cs an es' rw' rfl a ha
   ·exact r.anc b cs an es' rw' hy a ha
  ·intro b n hb';by_cases e:b=h.next
   ·subst e;rw [Names.add_same] at hb';cases hb';rw [wpush_size];exact ⟨Nat.lt_succ_self _,Nat.lt_succ_self _⟩
   ·rw [Names.add_other _ _ e] at hb';have:=r.dom b n hb';rw [wpush_size];show _ < Nat.succ _∧_;omega
  ·intro b n y hb' hy;rw [hget] at hy;by_cases e:b=h.next
   ·subst e;rw [Names.add_same] at hb';rw [if_pos rfl] at hy;cases hb';cases hy;exact hb
   ·rw [Names.add_other _ _ e] at hb';rw [if_neg e] at hy;exact (r.blk b n y hb' hy).same hle (wpush_old _ _ (r.dom b n hb').2)
  ·intro b c m n y z hne hb' hc' hy hz;rw [hget] at hy hz;by_cases e:b=h.next
   ·subst e;rw [if_neg (Ne.symm hne)] at hz;rw [Names.add_same] at hb';rw [Names.add_other _ _ (Ne.symm hne)] at hc';cases hb';have:=(r.dom c n hc').2;(have hcb:w.heap.size ≠ n.cb:=by omega);cases y <;> cases z <;> simp only [Sep] <;> first | exact hcb | trivial | (split <;> first | trivial | exact .inr (.inl hcb))
   ·rw [if_neg e] at hy;rw [Names.add_other _ _ e] at hb';by_cases e2:c=h.next
    ·subst e2;rw [Names.add_same] at hc';cases hc';have:=(r.dom b m hb').2;(have hcb:m.cb ≠ w.heap.size:=by omega);cases y <;> cases z <;> simp only [Sep] <;> first | exact hcb | trivial | (split <;> first | trivial | exact .inr (.inl hcb))
    ·rw [if_neg e2] at hz;rw [Names.add_other _ _ e2] at hc';exact r.sep b c m n y z hne hb' hc' hy hz
  ·exact Nat.le_succ_of_le r.base
  ·exact r.wr
 ·refine { le:=hle,named:=fun b h1 h2 => (by have h2':b < Nat.succ h.next:=h2;have:b=h.next:=(by omega);subst this;rw [Names.add_same];rfl),fresh:=?_,next:=Nat.le_succ _,base:=rfl,wr:=fun _ h => h,keep:=?_,size:=?_,out:=⟨rfl,rfl,rfl⟩,same:=?_ }
  ·intro b n hb' h0;by_cases e:b=h.next
   ·omega
   ·rw [Names.add_other _ _ e] at hb';rw [h0] at hb';cases hb'
  ·intro b hbb _;rw [hget,if_neg (by have:=r.base;omega)]
  ·rw [wpush_size];omega
  ·intro Pr h1 h2;refine ⟨fun b n hb' hor => ?_,fun b hp => wpush_old _ _ (h2 b hp)⟩;by_cases e:b=h.next
   ·subst e;rw [Names.add_same] at hb';cases hb';intro hp;have:=h2 _ hp;exact absurd this (Nat.lt_irrefl _)
   ·rw [Names.add_other _ _ e] at hb';exact h1 b n hb' hor
theorem HR.newRow {E:Env} {ρ:Names} {h:H} {w:World} (r:HR E ρ h w) (cs:List Value) (arr:Array Value) (elem es:Nat)
 (hs:VRs ρ cs (arr.toList.take cs.length)) (hl:cs.length ≤ arr.size) (hn:∀ v,v ∈ cs→notAgg v=true) :
 HR E (Names.add ρ h.next ⟨w.heap.size,0,arr.size,es⟩) (h.new cs es) (wpush w (.cells arr elem (0,0))) ∧
  Ev ρ h w (Names.add ρ h.next ⟨w.heap.size,0,arr.size,es⟩) (h.new cs es) (wpush w (.cells arr elem (0,0))):=by
 refine r.alloc _ _ _ _ (fun _ _ _ _ e => by cases e;intro a ha;cases ha) ⟨fun i v hv => ?_,⟨rfl,fun _ => rfl⟩,fun _ => ⟨fun i _ hi => ?_,?_⟩⟩
 ·have hi:=(List.getElem?_eq_some_iff.1 hv).1;obtain ⟨v',h1,h2⟩:=VRs.get hs hv;refine ⟨hn v (List.mem_of_getElem? hv),v',?_,h2.mono (Names.le_add _ r.none_next)⟩;rw [cell_def,wpush_new];simp only [Nat.zero_add];rw [List.getElem?_take,if_pos hi] at h1;simpa using h1
 ·rw [cell_def,wpush_new];refine ⟨by simp at hi ⊢;exact hi,?_⟩;unfold World.frozen?;rw [wpush_new];simp
 ·simpa using hl
end Go.Ab
namespace Go.Ab
theorem killAll_get:∀ (l:List Nat) (bs:T Blk) (c:Nat),(killAll bs l).get c=if c ∈ l then none else bs.get c
 | [],bs,c => by simp [killAll]
 | m :: l,bs,c => by
  simp only [killAll];rw [killAll_get l,T.get_put];by_cases h1:c ∈ l
  ·simp [h1]
  ·by_cases h2:c=m
   ·simp [h2]
   ·simp [h1,h2]
theorem memN_iff:∀ (l:List Nat) (b:Nat),memN b l=true ↔ b ∈ l
 | [],b => by simp [memN]
 | m :: l,b => by
  simp only [memN];cases h:Nat.beq m b with
  | true => have:=Nat.eq_of_beq_eq_true h;subst this;simp
  | false =>
   (have hne:m ≠ b:=fun e => by subst e;rw [Nat.beq_refl] at h;cases h);simp only [memN_iff l b,List.mem_cons];constructor
   ·exact .inr
   ·rintro (e | e)
    ·exact absurd e.symm hne
    ·exact e
theorem note_mem (base:Nat) (wr:List Nat) (b c:Nat):c ∈ note base wr b ↔ c ∈ wr ∨ (c=b∧c < base):=by
 unfold note;cases h:Nat.ble base b with
 | true =>
  have:=Nat.le_of_ble_eq_true h;constructor
  ·exact .inl
  ·rintro (h | ⟨rfl,h⟩)
   ·exact h
   ·omega
 | false =>
  have hlt:b < base:=by
   rcases Nat.lt_or_ge b base with h' | h'
   ·exact h'
   ·rw [Nat.ble_eq_true_of_le h'] at h;cases h
  cases h2:memN b wr with
  | true =>
   have:=(memN_iff _ _).1 h2;constructor
   ·exact .inl
   ·rintro (h | ⟨rfl,_⟩)
    ·exact h
    ·exact this
  | false =>
   simp only [List.mem_cons];constructor
   ·rintro (rfl | h)
    ·exact .inr ⟨rfl,hlt⟩
    ·exact .inl h
   ·rintro (h | ⟨rfl,_⟩)
    ·exact .inr h
    ·exact .inl rfl
theorem noteAll_mem (base:Nat):∀ (l:List Nat) (wr:List Nat) (c:Nat),c ∈ noteAll base wr l ↔ c ∈ wr ∨ (c ∈ l∧c < base)
 | [],wr,c => by simp [noteAll]
 | b :: l,wr,c => by
  simp only [noteAll];rw [noteAll_mem base l,note_mem];simp only [List.mem_cons];constructor
  ·rintro ((h | ⟨rfl,h⟩) | ⟨h,k⟩)
   ·exact .inl h
   ·exact .inr ⟨.inl rfl,h⟩
   ·exact .inr ⟨.inr h,k⟩
  ·rintro (h | ⟨rfl | h,k⟩)
   ·exact .inl (.inl h)
   ·exact .inl (.inr ⟨rfl,k⟩)
   ·exact .inr ⟨h,k⟩
theorem ble_iff {a b:Nat}:Nat.ble a b=true ↔ a ≤ b:=⟨Nat.le_of_ble_eq_true,Nat.ble_eq_true_of_le⟩
theorem beq_iff {a b:Nat}:Nat.beq a b=true ↔ a=b:=⟨Nat.eq_of_beq_eq_true,fun h => by subst h;exact Nat.beq_refl a⟩
theorem BR.off {ρ:Names} {E:Env} {w:World} {n c:Nm} {cs:List Value} {an:List Nat} {es:Nat} {y:Blk} (o:Nat) (l:List Value)
 (hy:BR ρ E w c y) (hx:BR ρ E w n (.cells cs an es true)) (hoff:isRow y=true→n.cb ≠ c.cb ∨ n.ce ≤ c.co ∨ endOf c y ≤ n.co + o)
 (hend:n.co + o + l.length ≤ n.ce):BR ρ E (setCells w n.cb (n.co + o) l) c y:=by
 obtain ⟨hx1,hes,hx2⟩:=hx;obtain ⟨hroom,hle⟩:=hx2 rfl;have hsome:∀ j,j < l.length→(cell w n.cb (n.co + o + j)).isSome=true:=fun j hj => (hroom _ (by omega) (by omega)).1;by_cases hcb:c.cb=n.cb
 ·by_cases hl:l.length=0
  ·have:l=[]:=List.length_eq_zero_iff.1 hl;subst this;exact hy
  ·have hc0:=hsome 0 (by omega);rw [cell_def] at hc0;cases y with
   | cells ds an' es' rw =>
    have hoff':=hoff rfl;obtain ⟨h1,hes',h2⟩:=hy;have hcell:∀ i,(i < (if rw then c.ce else c.co + ds.length))→c.co ≤ i→cell (setCells w n.cb (n.co + o) l) c.cb i=cell w c.cb i:=by
     intro i hi hi0;rw [cell_setCells _ _ _ _ _ _ hsome,if_neg];rintro ⟨_,h3,h4⟩;rcases hoff' with h | h | h
     ·exact h hcb.symm
     ·omega
     ·cases rw <;> simp only [endOf] at h <;> simp at hi <;> omega
    refine ⟨fun i v hv => ?_,hes',fun hr => ?_⟩
    ·obtain ⟨a,v',hc,hv'⟩:=h1 i v hv;have hi:=(List.getElem?_eq_some_iff.1 hv).1;refine ⟨a,v',?_,hv'⟩;(rw [hcell _ ?_ (by omega)];· exact hc);cases hrw:rw
     ·simp;omega
     ·simp;have:=(h2 hrw).2;omega
    ·obtain ⟨r,rest⟩:=h2 hr;refine ⟨fun i hi hj => ?_,rest⟩;rw [hcell i (by rw [hr];simpa using hj) hi,frozen_setCells];exact r i hi hj
   | map es' => obtain ⟨a,b,h1,_⟩:=hy;rw [hcb] at h1;rw [h1] at hc0;simp at hc0
   | iter s p => have h1:w.heap[c.cb]?=_:=hy.1;rw [hcb] at h1;rw [h1] at hc0;simp at hc0
   | loop r => obtain ⟨a,h1,_⟩:=hy;rw [hcb] at h1;rw [h1] at hc0;simp at hc0
   | defs ds =>
    cases ds with
    | none => have h1:w.heap[c.cb]?=_:=hy;rw [hcb] at h1;rw [h1] at hc0;simp at hc0
    | some r => obtain ⟨a,h1,_⟩:=hy;rw [hcb] at h1;rw [h1] at hc0;simp at hc0
 ·exact hy.same (Names.le_refl _) (heap_setCells_other _ _ _ _ _ hcb)
theorem HR.write {E:Env} {ρ:Names} {h h':H} {w:World} (r:HR E ρ h w) {b o:Nat} {n:Nm} {vs vs':List Value} (hb:ρ b=some n)
 (e:h.write b o vs=some h') (hv:VRs ρ vs vs') (hn:∀ v,v ∈ vs→notAgg v=true) :
 HR E ρ h' (setCells w n.cb (n.co + o) vs')∧Ev ρ h w ρ h' (setCells w n.cb (n.co + o) vs') ∧
  ∀ j,j < vs'.length→(cell w n.cb (n.co + o + j)).isSome=true∧w.frozen? ⟨n.cb,n.co + o + j,none⟩=false:=by
 unfold H.write at e;split at e
 ·rename_i cs an es hx;split at e
  ·rename_i hble;cases e;have hble:=ble_iff.1 hble;have hlen:=hv.length;(have hble':o + vs'.length ≤ cs.length:=by rw [← hlen];exact hble);have hB:=r.blk b n _ hb hx;obtain ⟨hB1,hes,hB2⟩:=hB;obtain ⟨hroom,hle⟩:=hB2 rfl;have hsome:∀ j,j < vs'.length→(cell w n.cb (n.co + o + j)).isSome=true:=fun j hj => (hroom _ (by omega) (by omega)).1;have hget:∀ c,((killAll h.blks an).put b (some (.cells (setAt cs o vs) [] es true))).get c =
    if c=b then some (.cells (setAt cs o vs) [] es true) else if c ∈ an then none else h.blks.get c:=by
    intro c;rw [T.get_put,killAll_get]
   have hwr:∀ c,c ∈ noteAll h.base (note h.base h.wr b) an ↔ c ∈ h.wr ∨ (c=b∧c < h.base) ∨ (c ∈ an∧c < h.base):=by
    intro c;rw [noteAll_mem,note_mem];constructor
    ·rintro ((h | h) | h);exact .inl h;exact .inr (.inl h);exact .inr (.inr h)
    ·rintro (h | h | h);exact .inl (.inl h);exact .inl (.inr h);exact .inr h
   have hsep:∀ c m y,c ≠ b→c ∉ an→ρ c=some m→h.blks.get c=some y→isRow y=true→n.cb ≠ m.cb ∨ n.ce ≤ m.co ∨ endOf m y ≤ n.co:=by
    intro c m y hc hca hm hy hrow;have:=r.sep b c n m _ y (Ne.symm hc) hb hm hx hy;(cases y <;> simp only [isRow] at hrow <;> try (exact Bool.noConfusion hrow));simp only [Sep] at this;rcases this with h | h
    ·exact absurd h.1 hca
    ·simpa [Off,endOf] using h
   refine ⟨?_,?_,fun j hj => hroom _ (by omega) (by omega)⟩
   ·constructor
    ·intro c y hy;simp only [hget] at hy;split at hy
     ·subst_vars;exact r.live _ _ hx
     ·split at hy
      ·cases hy
      ·exact r.live c y hy
    ·intro c cs' an' es' rw' hy a ha;simp only [hget] at hy;split at hy
     ·cases hy;cases ha
     ·split at hy
      ·cases hy
      ·exact r.anc c cs' an' es' rw' hy a ha
    ·intro c m hc;rw [heap_setCells_size];exact r.dom c m hc
    ·intro c m y hc hy;simp only [hget] at hy;split at hy
     ·subst_vars;cases hy;rw [hb] at hc;cases hc;refine ⟨fun i v hvi => ?_,hes,fun _ => ⟨fun i hi hj => ?_,by rw [setAt_len];exact hle⟩⟩
      ·rw [setAt_get _ _ _ _ hble] at hvi;split at hvi
       ·rename_i hi;obtain ⟨v',g1,g2⟩:=VRs.get hv hvi;refine ⟨hn v (List.mem_of_getElem? hvi),v',?_,g2⟩;rw [cell_setCells _ _ _ _ _ _ hsome,if_pos ⟨rfl,by omega,by omega⟩];rw [show n.co + i - (n.co + o)=i - o from by omega];exact g1
       ·rename_i hi;obtain ⟨a,v',g1,g2⟩:=hB1 i v hvi;refine ⟨a,v',?_,g2⟩;rw [cell_setCells _ _ _ _ _ _ hsome,if_neg (by omega)];exact g1
      ·rw [frozen_setCells,cell_setCells _ _ _ _ _ _ hsome];refine ⟨?_,(hroom i hi hj).2⟩;split
       ·rename_i h3;rw [List.getElem?_eq_getElem (by omega)];rfl
       ·exact (hroom i hi hj).1
     ·split at hy
      ·cases hy
      ·rename_i hcb hca;refine BR.off o vs' (r.blk c m y hc hy) (r.blk b n _ hb hx) (fun hrow => ?_) (by omega);rcases hsep c m y hcb hca hc hy hrow with h | h | h
       ·exact .inl h
       ·exact .inr (.inl h)
       ·exact .inr (.inr (by omega))
    ·intro c d m m' y z hne hc hd hy hz;simp only [hget] at hy hz;by_cases e1:c=b
     ·subst e1;rw [if_pos rfl] at hy;cases hy;rw [if_neg (Ne.symm hne)] at hz;split at hz
      ·cases hz
      ·rename_i hda;rw [hb] at hc;cases hc;cases z <;> simp only [Sep];right;have:=hsep d m' _ (Ne.symm hne) hda hd hz rfl;simpa [Off,endOf] using this
     ·rw [if_neg e1] at hy;split at hy
      ·cases hy
      ·rename_i hca;by_cases e2:d=b
       ·subst e2;rw [if_pos rfl] at hz;cases hz;rw [hb] at hd;cases hd;have:=r.sep c d m n y _ hne hc hb hy hx;cases y with
        | cells ds an' es' rw =>
         cases rw <;> simp only [Sep] at this ⊢;rcases this with h | h
         ·exact absurd h.2.1 (by simp)
         ·exact .inr (by simpa [Off,endOf] using h)
        | _ => simp only [Sep] at this ⊢
       ·rw [if_neg e2] at hz;split at hz
        ·cases hz
        ·exact r.sep c d m m' y z hne hc hd hy hz
    ·exact r.base
    ·intro c hc;rw [hwr] at hc;rcases hc with h | h | h
     ·exact r.wr c h
     ·exact h.2
     ·exact h.2
   ·refine { le:=Names.le_refl _,named:=fun c k1 k2 => absurd k2 (Nat.not_lt.2 k1),fresh:=fun c m e e' => by rw [e] at e';cases e'
             next:=Nat.le_refl _,base:=rfl,wr:=fun c hc => (hwr c).2 (.inl hc),keep:=?_,size:=by rw [heap_setCells_size];exact Nat.le_refl _,out:=out_setCells _ _ _ _,same:=?_ }
    ·intro c hc hnw;show ((killAll h.blks an).put b (some (.cells (setAt cs o vs) [] es true))).get c=_;rw [hget,if_neg,if_neg]
     ·intro hca;exact hnw ((hwr c).2 (.inr (.inr ⟨hca,hc⟩)))
     ·rintro rfl;exact hnw ((hwr c).2 (.inr (.inl ⟨rfl,hc⟩)))
    ·intro Pr h1 h2;refine ⟨h1,fun c hp => heap_setCells_other _ _ _ _ _ ?_⟩;rintro rfl;refine h1 b n hb ?_ hp;rcases Nat.lt_or_ge b h.base with hlt | hge
     ·exact .inr ((hwr b).2 (.inr (.inl ⟨rfl,hlt⟩)))
     ·exact .inl hge
  ·cases e
 ·cases e
theorem HR.grow {E:Env} {ρ:Names} {h:H} {w:World} (r:HR E ρ h w) {b o es:Nat} {n:Nm} {cs new new':List Value} {an:List Nat} (hb:ρ b=some n)
 (hx:h.blks.get b=some (.cells cs an es true)) (ho:o ≤ cs.length) (hv:VRs ρ new new') (hn:∀ v,v ∈ new→notAgg v=true)
 (hroomy:n.co + cs.length + new'.length ≤ n.ce) (hes0:es ≠ 0) :
 let h':H:={ blks:=(h.blks.put b (some (.cells cs an es false))).put h.next (some (.cells (dropN o cs ++ new) (b :: an) es true)),next:=Nat.succ h.next,base:=h.base,wr:=note h.base h.wr b }
 let ρ':=Names.add ρ h.next ⟨n.cb,n.co + o,n.ce,n.es⟩
 let w':=setCells w n.cb (n.co + cs.length) new'
 HR E ρ' h' w'∧Ev ρ h w ρ' h' w' ∧
  ∀ j,j < new'.length→(cell w n.cb (n.co + cs.length + j)).isSome=true∧w.frozen? ⟨n.cb,n.co + cs.length + j,none⟩=false:=by
 intro h' ρ' w';have hB:=r.blk b n _ hb hx;obtain ⟨hB1,hes,hB2⟩:=hB;obtain ⟨hroom,hle0⟩:=hB2 rfl;have hbn:=r.live b _ hx;have hlen:=hv.length;have hnone:=r.none_next;have hle:=Names.le_add ⟨n.cb,n.co + o,n.ce,n.es⟩ hnone;have eρ1:ρ' h.next=some ⟨n.cb,n.co + o,n.ce,n.es⟩:=Names.add_same _ _ _;have eρ2:∀ c,c ≠ h.next→ρ' c=ρ c:=fun c hc => Names.add_other _ _ hc;have hsome:∀ j,j < new'.length→(cell w n.cb (n.co + cs.length + j)).isSome=true:=fun j hj => (hroom _ (by omega) (by omega)).1;have hget:∀ c,h'.blks.get c=if c=h.next then some (.cells (dropN o cs ++ new) (b :: an) es true) else if c=b then some (.cells cs an es false) else h.blks.get c:=by intro c;show ((h.blks.put b _).put h.next _).get c=_;rw [T.get_put,T.get_put]
 have hwr:∀ c,c ∈ h'.wr ↔ c ∈ h.wr ∨ (c=b∧c < h.base):=fun c => note_mem _ _ _ _;have hsep:∀ c m y,c ≠ b→ρ c=some m→h.blks.get c=some y→isRow y=true →
  (c ∈ an∧(∃ ds a2 e2,y=.cells ds a2 e2 false)∧(n.cb=m.cb→endOf m y ≤ n.co + cs.length)) ∨ n.cb ≠ m.cb ∨ n.ce ≤ m.co ∨ endOf m y ≤ n.co:=by
  intro c m y hc hm hy hrow;have:=r.sep b c n m _ y (Ne.symm hc) hb hm hx hy;cases y <;> simp only [isRow] at hrow <;> try (exact Bool.noConfusion hrow)
  simp only [Sep] at this;rcases this with h | h
  ·obtain ⟨h1,rfl,h3⟩:=h;exact .inl ⟨h1,⟨_,_,_,rfl⟩,by simpa [endOf] using h3⟩
  ·exact .inr (by simpa [Off,endOf] using h)
 have hother:∀ c m y,c ≠ b→ρ c=some m→h.blks.get c=some y→BR ρ' E w' m y:=by
  intro c m y hc hm hy;have hbr:=r.blk c m y hm hy;have hoff:=BR.off (y:=y) (c:=m) cs.length new' hbr (r.blk b n _ hb hx) (fun hrow => by
   rcases hsep c m y hc hm hy hrow with h | h | h | h
   ·by_cases e:n.cb=m.cb
    ·exact .inr (.inr (h.2.2 e))
    ·exact .inl e
   ·exact .inl h
   ·exact .inr (.inl h)
   ·exact .inr (.inr (by omega))) hroomy
  exact hoff.same hle rfl
 have hcellold:∀ i,i < cs.length→cell w' n.cb (n.co + i)=cell w n.cb (n.co + i):=by intro i hi;show cell (setCells w n.cb (n.co + cs.length) new') n.cb _=_;rw [cell_setCells _ _ _ _ _ _ hsome,if_neg (by omega)]
 refine ⟨?_,?_,fun j hj => hroom _ (by omega) (by omega)⟩
 ·constructor
  ·intro c y hy;rw [hget] at hy;split at hy
   ·subst_vars;exact Nat.lt_succ_self _
   ·split at hy
    ·subst_vars;show _ < Nat.succ _;omega
    ·have:=r.live c y hy;show _ < Nat.succ _;omega
  ·intro c cs' an' es' rw' hy a ha;rw [hget] at hy;split at hy
   ·subst_vars;cases hy;rcases List.mem_cons.1 ha with rfl | ha
    ·exact hbn
    ·exact Nat.lt_trans (r.anc b _ _ _ _ hx a ha) hbn
   ·split at hy
    ·subst_vars;cases hy;exact r.anc _ _ _ _ _ hx a ha
    ·exact r.anc c cs' an' es' rw' hy a ha
  ·intro c m hc;show _ < Nat.succ _∧_ < (setCells w n.cb (n.co + cs.length) new').heap.size;rw [heap_setCells_size];by_cases e:c=h.next
   ·subst e;rw [eρ1] at hc;cases hc;exact ⟨Nat.lt_succ_self _,(r.dom b n hb).2⟩
   ·rw [eρ2 _ e] at hc;have:=r.dom c m hc;omega
  ·intro c m y hc hy;rw [hget] at hy;by_cases e:c=h.next
   ·subst e;rw [if_pos rfl] at hy;cases hy;rw [eρ1] at hc;cases hc;refine ⟨fun i v hvi => ?_,⟨hes.1,fun h => absurd h hes0⟩,fun _ => ⟨fun i hi hj => ?_,?_⟩⟩
    ·rw [dropN_eq] at hvi;by_cases hi:i < (cs.drop o).length
     ·rw [List.getElem?_append_left hi,List.getElem?_drop] at hvi;obtain ⟨a,v',g1,g2⟩:=hB1 _ v hvi;rw [List.length_drop] at hi;refine ⟨a,v',?_,g2.mono hle⟩;show cell w' n.cb (n.co + o + i)=_;rw [Nat.add_assoc,hcellold _ (by omega)];exact g1
     ·rw [List.getElem?_append_right (by omega)] at hvi;rw [List.length_drop] at hi hvi;obtain ⟨v',g1,g2⟩:=VRs.get hv hvi;have:=(List.getElem?_eq_some_iff.1 hvi).1;refine ⟨hn v (List.mem_of_getElem? hvi),v',?_,g2.mono hle⟩;show cell (setCells w n.cb (n.co + cs.length) new') n.cb (n.co + o + i)=_;rw [cell_setCells _ _ _ _ _ _ hsome,if_pos ⟨rfl,by omega,by omega⟩];rw [show n.co + o + i - (n.co + cs.length)=i - (cs.length - o) from by omega];exact g1
    ·show (cell (setCells w n.cb (n.co + cs.length) new') n.cb i).isSome=true∧(setCells w n.cb (n.co + cs.length) new').frozen? _=false;have hi:n.co + o ≤ i:=hi;have hj:i < n.ce:=hj;rw [frozen_setCells,cell_setCells _ _ _ _ _ _ hsome];refine ⟨?_,(hroom i (by omega) hj).2⟩;split
     ·rw [List.getElem?_eq_getElem (by omega)];rfl
     ·exact (hroom i (by omega) hj).1
    ·show n.co + o + _ ≤ n.ce;rw [List.length_append,dropN_eq,List.length_drop];omega
   ·rw [if_neg e] at hy;rw [eρ2 _ e] at hc;split at hy
    ·subst_vars;cases hy;rw [hb] at hc;cases hc;refine ⟨fun i v hvi => ?_,hes,fun h => by cases h⟩;obtain ⟨a,v',g1,g2⟩:=hB1 _ v hvi;have hi:=(List.getElem?_eq_some_iff.1 hvi).1;exact ⟨a,v',by rw [hcellold i hi];exact g1,g2.mono hle⟩
    ·rename_i hcb;exact hother c m y hcb hc hy
  ·intro c d m m' y z hne hc hd hy hz;rw [hget] at hy hz;by_cases e1:c=h.next
   ·subst e1;rw [if_pos rfl] at hy;cases hy;rw [if_neg (Ne.symm hne)] at hz;rw [eρ1] at hc;cases hc;rw [eρ2 _ (Ne.symm hne)] at hd;split at hz
    ·subst_vars;cases hz;rw [hb] at hd;cases hd;simp only [Sep];refine .inl ⟨List.mem_cons_self ..,trivial,fun _ => ?_⟩;rw [List.length_append,dropN_eq,List.length_drop];omega
    ·rename_i hdb;cases z <;> simp only [Sep];rcases hsep d m' _ hdb hd hz rfl with h | h
     ·obtain ⟨k1,⟨ds,a2,e2,k2⟩,k3⟩:=h;cases k2;refine .inl ⟨List.mem_cons_of_mem _ k1,rfl,fun hcb => ?_⟩;have:=k3 hcb;simp only [endOf] at this;rw [List.length_append,dropN_eq,List.length_drop];omega
     ·refine .inr ?_;rcases h with h | h | h
      ·exact .inl h
      ·exact .inr (.inl (by simpa [endOf] using h))
      ·exact .inr (.inr (Nat.le_trans h (Nat.le_add_right _ _)))
   ·rw [if_neg e1] at hy;rw [eρ2 _ e1] at hc;by_cases e2:d=h.next
    ·subst e2;rw [if_pos rfl] at hz;cases hz;rw [eρ1] at hd;cases hd;split at hy
     ·subst_vars;cases hy;simp only [Sep]
     ·rename_i hcb;have hs:=r.sep c b m n y _ hcb hc hb hy hx;cases y with
      | cells ds an' es' rw =>
       cases rw <;> simp only [Sep] at hs ⊢;rcases hs with h | h
       ·exact absurd h.2.1 (by simp)
       ·refine .inr ?_;rcases h with h | h | h
        ·exact .inl h
        ·exact .inr (.inl (Nat.le_trans h (Nat.le_add_right _ _)))
        ·exact .inr (.inr (by simpa [endOf] using h))
      | _ => simp only [Sep]
    ·rw [if_neg e2] at hz;rw [eρ2 _ e2] at hd;by_cases e3:c=b
     ·subst e3;rw [if_pos rfl] at hy;cases hy;cases z <;> simp only [Sep]
     ·rw [if_neg e3] at hy;by_cases e4:d=b
      ·subst e4;rw [if_pos rfl] at hz;cases hz;rw [hb] at hd;cases hd;have hs:=r.sep c d m n y _ hne hc hb hy hx;cases y with
       | cells ds an' es' rw =>
        cases rw <;> simp only [Sep] at hs ⊢;rcases hs with h | h
        ·exact absurd h.2.1 (by simp)
        ·refine .inr ?_;rcases h with h | h | h
         ·exact .inl h
         ·exact .inr (.inl h)
         ·exact .inr (.inr (by simp only [endOf] at h ⊢;omega))
       | _ => simp only [Sep] at hs ⊢
      ·rw [if_neg e4] at hz;exact r.sep c d m m' y z hne hc hd hy hz
  ·exact Nat.le_succ_of_le r.base
  ·intro c hc;rw [hwr] at hc;rcases hc with h | h
   ·exact r.wr c h
   ·exact h.2
 ·refine { le:=hle,named:=fun c k1 k2 => (by have k2':c < Nat.succ h.next:=k2;have:c=h.next:=(by omega);subst this;show (Names.add ρ h.next _ h.next).isSome=true;rw [Names.add_same];rfl),fresh:=?_,next:=Nat.le_succ _,base:=rfl,wr:=fun c hc => (hwr c).2 (.inl hc),keep:=?_,size:=?_,out:=out_setCells _ _ _ _,same:=?_ }
  ·intro c m hc h0;by_cases e:c=h.next
   ·omega
   ·rw [eρ2 _ e] at hc;rw [h0] at hc;cases hc
  ·intro c hc hnw;rw [hget,if_neg (by have:=r.base;omega),if_neg];rintro rfl;exact hnw ((hwr c).2 (.inr ⟨rfl,hc⟩))
  ·show _ ≤ (setCells w n.cb (n.co + cs.length) new').heap.size;rw [heap_setCells_size];exact Nat.le_refl _
  ·intro Pr h1 h2;have hbp:¬ Pr n.cb:=by
    refine h1 b n hb ?_;rcases Nat.lt_or_ge b h.base with hlt | hge
    ·exact .inr ((hwr b).2 (.inr ⟨rfl,hlt⟩))
    ·exact .inl hge
   refine ⟨fun c m hc hor => ?_,fun c hp => heap_setCells_other _ _ _ _ _ (by rintro rfl;exact hbp hp)⟩;by_cases e:c=h.next
   ·subst e;rw [eρ1] at hc;cases hc;exact hbp
   ·rw [eρ2 _ e] at hc;exact h1 c m hc hor
theorem HR.toRo {E:Env} {ρ:Names} {h:H} {w:World} (r:HR E ρ h w) {b es:Nat} {cs:List Value} {an:List Nat}
 (hx:h.blks.get b=some (.cells cs an es true)) :
 let h':H:={ blks:=h.blks.put b (some (.cells cs an es false)),next:=h.next,base:=h.base,wr:=note h.base h.wr b }
 HR E ρ h' w∧Ev ρ h w ρ h' w:=by
 intro h';have hget:∀ c,h'.blks.get c=if c=b then some (.cells cs an es false) else h.blks.get c:=fun c => T.get_put _ _ _ _;have hwr:∀ c,c ∈ h'.wr ↔ c ∈ h.wr ∨ (c=b∧c < h.base):=fun c => note_mem _ _ _ _;constructor
 ·constructor
  ·intro c y hy;rw [hget] at hy;split at hy
   ·subst_vars;exact r.live _ _ hx
   ·exact r.live c y hy
  ·intro c cs' an' es' rw' hy a ha;rw [hget] at hy;split at hy
   ·subst_vars;cases hy;exact r.anc _ _ _ _ _ hx a ha
   ·exact r.anc c cs' an' es' rw' hy a ha
  ·exact r.dom
  ·intro c m y hc hy;rw [hget] at hy;split at hy
   ·subst_vars;cases hy;exact ⟨(r.blk _ m _ hc hx).1,(r.blk _ m _ hc hx).2.1,fun h => by cases h⟩
   ·exact r.blk c m y hc hy
  ·intro c d m m' y z hne hc hd hy hz;rw [hget] at hy hz;by_cases e3:c=b
   ·subst e3;rw [if_pos rfl] at hy;cases hy;cases z <;> simp only [Sep]
   ·rw [if_neg e3] at hy;by_cases e4:d=b
    ·subst e4;rw [if_pos rfl] at hz;cases hz;have hs:=r.sep c d m m' y _ hne hc hd hy hx;have hle0:=((r.blk d m' _ hd hx).2.2 rfl).2;cases y with
     | cells ds an' es' rw =>
      cases rw <;> simp only [Sep] at hs ⊢;rcases hs with h | h
      ·exact absurd h.2.1 (by simp)
      ·refine .inr ?_;rcases h with h | h | h
       ·exact .inl h
       ·exact .inr (.inl h)
       ·exact .inr (.inr (by simp only [endOf] at h ⊢;omega))
     | _ => simp only [Sep] at hs ⊢
    ·rw [if_neg e4] at hz;exact r.sep c d m m' y z hne hc hd hy hz
  ·exact r.base
  ·intro c hc;rw [hwr] at hc;rcases hc with h | h
   ·exact r.wr c h
   ·exact h.2
 ·refine { le:=Names.le_refl _,named:=fun c k1 k2 => absurd k2 (Nat.not_lt.2 k1),fresh:=fun c m e e' => by rw [e] at e';cases e'
           next:=Nat.le_refl _,base:=rfl,wr:=fun c hc => (hwr c).2 (.inl hc),keep:=?_,size:=Nat.le_refl _,out:=⟨rfl,rfl,rfl⟩,same:=fun _ h _ => ⟨h,fun _ _ => rfl⟩ }
  intro c hc hnw;rw [hget,if_neg];rintro rfl;exact hnw ((hwr c).2 (.inr ⟨rfl,hc⟩))
theorem HR.putObj {E:Env} {ρ:Names} {h:H} {w:World} (r:HR E ρ h w) {b:Nat} {n:Nm} {x y:Blk} (o':Obj) (hb:ρ b=some n)
 (hx:h.blks.get b=some x) (hrx:isRow x=false) (hry:isRow y=false)
 (hy:BR ρ E { w with heap:=w.heap.setIfInBounds n.cb o' } n y) :
 HR E ρ (h.put b y) { w with heap:=w.heap.setIfInBounds n.cb o' }∧Ev ρ h w ρ (h.put b y) { w with heap:=w.heap.setIfInBounds n.cb o' }:=by
 have hget:∀ c,(h.put b y).blks.get c=if c=b then some y else h.blks.get c:=fun c => T.get_put _ _ _ _;have hwr:∀ c,c ∈ (h.put b y).wr ↔ c ∈ h.wr ∨ (c=b∧c < h.base):=fun c => note_mem _ _ _ _;have hoth:∀ c,c ≠ n.cb→({ w with heap:=w.heap.setIfInBounds n.cb o' }:World).heap[c]?=w.heap[c]?:=fun c hc => by show (w.heap.setIfInBounds n.cb o')[c]?=_;rw [Array.getElem?_setIfInBounds];rw [if_neg (Ne.symm hc)]
 have h2:=r.blk b n _ hb hx;have hno:∀ i,cell w n.cb i=none:=by
  intro i;rw [cell_def];cases x with
  | cells => simp [isRow] at hrx
  | map es => obtain ⟨l,c,k,_⟩:=h2;rw [k]
  | iter s p => have k:w.heap[n.cb]?=_:=h2.1;rw [k]
  | loop l => obtain ⟨l,k,_⟩:=h2;rw [k]
  | defs ds =>
   cases ds with
   | none => have k:w.heap[n.cb]?=_:=h2;rw [k]
   | some l => obtain ⟨l,k,_⟩:=h2;rw [k]
 have hrow:∀ c m z,ρ c=some m→h.blks.get c=some z→c ≠ b→BR ρ E { w with heap:=w.heap.setIfInBounds n.cb o' } m z:=by
  intro c m z hc hz hne;have hbr:=r.blk c m z hc hz;by_cases e:m.cb=n.cb
  ·cases hzr:isRow z with
   | false => have:=r.sep c b m n z x hne hc hb hz hx;(cases z <;> simp only [isRow] at hzr <;> try (exact Bool.noConfusion hzr));all_goals (cases x <;> simp only [isRow] at hrx <;> first | exact Bool.noConfusion hrx | exact absurd e this)
   | true =>
    (cases z <;> simp only [isRow] at hzr <;> try (exact Bool.noConfusion hzr));rename_i ds an es rw';obtain ⟨k1,ke,k2⟩:=hbr;refine ⟨fun i v hv => ?_,ke,fun hr => ⟨fun i hi hj => ?_,(k2 hr).2⟩⟩
    ·obtain ⟨_,v',k,_⟩:=k1 i v hv;rw [e,hno] at k;cases k
    ·have:=((k2 hr).1 i hi hj).1;rw [e,hno] at this;cases this
  ·exact hbr.same (Names.le_refl _) (hoth _ e)
 constructor
 ·constructor
  ·intro c z hz;rw [hget] at hz;split at hz
   ·subst_vars;exact r.live _ _ hx
   ·exact r.live c z hz
  ·intro c cs' an' es' rw' hz a ha;rw [hget] at hz;split at hz
   ·cases hz;simp [isRow] at hry
   ·exact r.anc c cs' an' es' rw' hz a ha
  ·intro c m hc;show _∧_ < (w.heap.setIfInBounds n.cb o').size;rw [Array.size_setIfInBounds];exact r.dom c m hc
  ·intro c m z hc hz;rw [hget] at hz;split at hz
   ·subst_vars;cases hz;rw [hb] at hc;cases hc;exact hy
   ·rename_i hne;exact hrow c m z hc hz hne
  ·intro c d m m' z z' hne hc hd hz hz';rw [hget] at hz hz';by_cases e1:c=b
   ·subst e1;rw [if_pos rfl] at hz;cases hz;rw [if_neg (Ne.symm hne)] at hz';have:=r.sep c d m m' x z' hne hc hd hx hz';(cases y <;> simp only [isRow] at hry <;> try (exact Bool.noConfusion hry));all_goals (cases z' <;> simp only [Sep] <;> cases x <;> simp only [isRow] at hrx <;> first | exact Bool.noConfusion hrx | exact this)
   ·rw [if_neg e1] at hz;by_cases e2:d=b
    ·subst e2;rw [if_pos rfl] at hz';cases hz';have:=r.sep c d m m' z x hne hc hd hz hx;(cases y <;> simp only [isRow] at hry <;> try (exact Bool.noConfusion hry));all_goals (cases z <;> simp only [Sep] <;> cases x <;> simp only [isRow] at hrx <;> first | exact Bool.noConfusion hrx | exact this)
    ·rw [if_neg e2] at hz';exact r.sep c d m m' z z' hne hc hd hz hz'
  ·exact r.base
  ·intro c hc;rw [hwr] at hc;rcases hc with h | h
   ·exact r.wr c h
   ·exact h.2
 ·refine { le:=Names.le_refl _,named:=fun c k1 k2 => absurd k2 (Nat.not_lt.2 k1),fresh:=fun c m e e' => by rw [e] at e';cases e'
           next:=Nat.le_refl _,base:=rfl,wr:=fun c hc => (hwr c).2 (.inl hc),keep:=?_
           out:=⟨rfl,rfl,rfl⟩,size:=by (show _ ≤ (w.heap.setIfInBounds n.cb o').size);rw [Array.size_setIfInBounds];exact Nat.le_refl _,same:=?_ }
  ·intro c hc hnw;rw [hget,if_neg];rintro rfl;exact hnw ((hwr c).2 (.inr ⟨rfl,hc⟩))
  ·intro Pr h1 h2;refine ⟨h1,fun c hp => hoth c ?_⟩;rintro rfl;refine h1 b n hb ?_ hp;rcases Nat.lt_or_ge b h.base with hlt | hge
   ·exact .inr ((hwr b).2 (.inr ⟨rfl,hlt⟩))
   ·exact .inl hge
end Go.Ab
namespace Go.Ab
structure Good (E:Env):Prop where
 ctx:E.Γ=ctxOf E.P
 zero:∀ t ti z,tiG E.Γ t=some ti→ti.info.zero=some z→closedV 20 z=true
 fields:∀ t fs,descT E.Γ t=some (.struct fs)→∀ f,f ∈ fs.toList→(E.P.info? f.type).isSome=true
theorem underlying_eq (P:Program) (t:Nat) (i:TypeInfo) (h:P.info? t=some i) :
 P.underlying t=match i.desc with | .named _ u => (P.info? u).map (·.desc) | d => some d:=by
 unfold Program.underlying;rw [h];obtain ⟨d,_,_,_,_,_,_,_,_,_⟩:=i;cases d <;> rfl
theorem tiG_ok {E:Env} (g:Good E) {t:Nat} {ti:TI} (h:tiG E.Γ t=some ti):E.P.info? t=some ti.info∧E.P.underlying t=some ti.desc:=by
 unfold tiG at h;rw [g.ctx] at h;split at h
 ·rename_i ti' hg;simp only [ctxOf,T.get_ofList,List.getElem?_map,Option.map_eq_some_iff] at hg;obtain ⟨i,hi,rfl⟩:=hg;have hlt:t < E.P.types.size:=by have:=(List.getElem?_eq_some_iff.1 hi).1;simpa using this
  have hinfo:E.P.info? t=some i:=by unfold Tables.info?;rw [if_pos hlt];simpa using hi
  split at h
  ·cases h
  ·rename_i hne;cases h;have hund:=underlying_eq E.P t i hinfo;unfold tyOf at hne ⊢;rw [hinfo,hund];cases hd:i.desc with
   | named nm u =>
    rw [hd] at hne;simp only at hne ⊢;cases hu:E.P.info? u with
    | none => rw [hu] at hne;exact absurd rfl hne
    | some iu => simp
   | _ => simp
 ·cases h
theorem sizeT_ok {E:Env} (g:Good E) {t s:Nat} (h:sizeT E.Γ t=some s):∃ i,E.P.info? t=some i∧i.size=s:=by
 unfold sizeT at h;split at h
 ·rename_i ti hti;cases h;exact ⟨_,(tiG_ok g hti).1,rfl⟩
 ·cases h
theorem descT_ok {E:Env} (g:Good E) {t:Nat} {d:TypeDesc} (h:descT E.Γ t=some d):E.P.underlying t=some d:=by
 unfold descT at h;split at h
 ·rename_i ti hti;cases h;exact (tiG_ok g hti).2
 ·cases h
theorem zeroT_ok {E:Env} (g:Good E) {t:Nat} {z:Value} (h:zeroT E.Γ t=some z):(∃ i,E.P.info? t=some i∧i.zero=some z)∧closedV 20 z=true:=by
 unfold zeroT at h;split at h
 ·rename_i ti hti;exact ⟨⟨_,(tiG_ok g hti).1,h⟩,g.zero _ _ _ hti h⟩
 ·cases h
section runs
variable {P:Program} {w:World}
theorem run_und {t:Nat} {d:TypeDesc} (h:P.underlying t=some d):(underlying t).run P w=.ok d w:=by simp [underlying,program,Sem.run,h]
theorem run_info {t:Nat} {i:TypeInfo} (h:P.info? t=some i):(typeInfo t).run P w=.ok i w:=by simp [typeInfo,program,Sem.run,h]
theorem run_size {t:Nat} {i:TypeInfo} (h:P.info? t=some i):(sizeOf t).run P w=.ok i.size w:=by simp [sizeOf,run_info h]
theorem run_zero {t:Nat} {i:TypeInfo} {z:Value} (h:P.info? t=some i) (hz:i.zero=some z):(zeroValue t).run P w=.ok z w:=by simp [zeroValue,run_info h,hz]
theorem run_agg {t:Nat} {d:TypeDesc} (h:P.underlying t=some d):(isAgg t).run P w=.ok (aggD d) w:=by unfold isAgg;rw [Sem.run_bind,run_und h];cases d <;> simp [aggD]
end runs
theorem VRs.mk {ρ:Names} {l l':List Value} (h:VRs ρ l l') (hn:∀ v,v ∈ l→notAgg v=true):VR ρ (agg l) (.agg l'.toArray) :=
 .agg _ _ h hn
theorem read_ok {E:Env} {ρ:Names} {h:H} {w:World} (r:HR E ρ h w) {b o k:Nat} {n:Nm} {l:List Value} (hb:ρ b=some n) (e:h.read b o k=some l) :
 ∃ l':List Value,l'.length=k∧VRs ρ l l'∧(∀ v,v ∈ l→notAgg v=true)∧∀ j v,l'[j]?=some v→cell w n.cb (n.co + o + j)=some v:=by
 have key:∀ (l:List Value) (i:Nat) (cs:List Value),CellsR ρ w n cs→(∀ j,j < l.length→l[j]?=cs[i + j]?) →
  ∃ l':List Value,l'.length=l.length∧VRs ρ l l'∧(∀ v,v ∈ l→notAgg v=true)∧∀ j v,l'[j]?=some v→cell w n.cb (n.co + i + j)=some v:=by
  intro l;induction l with
  | nil => intro i cs _ _;exact ⟨[],rfl,.nil,(fun _ h => by cases h),fun j v h => by simp at h⟩
  | cons x l ih =>
   intro i cs hcs hl;obtain ⟨l',h1,h2,h3,h4⟩:=ih (i + 1) cs hcs (fun j hj => by have:=hl (j + 1) (by simp;omega);rw [show i + 1 + j=i + (j + 1) from by omega,← this];simp);have h0:=hl 0 (by simp);simp only [List.getElem?_cons_zero,Nat.add_zero] at h0;obtain ⟨a,v',c1,c2⟩:=hcs i x h0.symm;refine ⟨v' :: l',by simp [h1],.cons _ _ _ _ c2 h2,?_,?_⟩
   ·intro v hv;rcases List.mem_cons.1 hv with rfl | hv
    ·exact a
    ·exact h3 v hv
   ·intro j v hv;cases j with
    | zero => simp at hv;subst hv;simpa using c1
    | succ j => simp at hv;have:=h4 j v hv;rw [show n.co + i + (j + 1)=n.co + (i + 1) + j from by omega];exact this
 obtain ⟨cs,an,es,rw',hc⟩:=read_eq e;rcases hc with ⟨h1,h2,h3⟩ | ⟨cs',an',es',rw'',h1,h2,h3⟩
 ·have hB:=(r.blk b n _ hb h1).1;subst h2;have hlen:((cs.drop o).take k).length=k:=by simp;omega
  obtain ⟨l',g1,g2,g3,g4⟩:=key ((cs.drop o).take k) o cs hB (fun j hj => by rw [List.getElem?_take,if_pos (by omega),List.getElem?_drop]);exact ⟨l',g1.trans hlen,g2,g3,g4⟩
 ·subst h2;subst h3;exact ⟨[],rfl,.nil,(fun _ h => by cases h),fun j v h => by simp at h⟩
theorem load_ok {E:Env} (g:Good E) {ρ:Names} {h:H} {w:World} (r:HR E ρ h w) {t b o:Nat} {ti:TI} {n:Nm} {v:Value} (hti:tiG E.Γ t=some ti) (hb:ρ b=some n)
 (e:h.load ti b o=some v):∃ v',(loadVar t ⟨n.cb,n.co + o,none⟩).run E.P w=.ok v' w∧VR ρ v v':=by
 obtain ⟨hi,hu⟩:=tiG_ok g hti;unfold H.load at e;unfold loadVar;rw [Sem.run_bind,run_agg hu];simp only [Result.andThen_ok];split at e
 ·rename_i ha;rw [ha];split at e
  ·rename_i l hl;cases e;obtain ⟨l',h1,h2,h3,h4⟩:=read_ok r hb hl;simp only [if_true,Sem.run_bind,run_size hi,Result.andThen_ok];have:=run_loadCells' E.P w n.cb (n.co + o) l' h4;rw [h1] at this;show ∃ v',Result.andThen ((loadCells ⟨n.cb,n.co + o,none⟩ ti.size).run E.P w) _=_∧_;rw [this];exact ⟨_,rfl,VRs.mk h2 h3⟩
  ·cases e
 ·rename_i ha;rw [ha];split at e
  ·rename_i x hl;cases e;obtain ⟨l',h1,h2,h3,h4⟩:=read_ok r hb hl;cases h2 with
   | cons _ v' _ l'' k ks => refine ⟨v',?_,k⟩;have:=h4 0 v' rfl;simp only [Bool.false_eq_true,if_false];exact run_load _ _ _ _ _ (by simpa using this)
  ·cases e
theorem VR.ptr_inv {ρ:Names} {b o:Nat} {s:Option Nat} {v':Value} (h:VR ρ (.pointer (some ⟨b,o,s⟩)) v'):s=none∧∃ n,ρ b=some n∧v'=.pointer (some ⟨n.cb,n.co + o,none⟩):=by
 cases h with
 | ptr _ _ n hn => exact ⟨rfl,n,hn,rfl⟩
theorem aLoad_ok {E:Env} (g:Good E) {ρ:Names} {h h':H} {w:World} (r:HR E ρ h w) {t:Nat} {a a' v:Value} (ha:VR ρ a a') (e:aLoad E.Γ t a h=some (.val v h')) :
 h'=h∧∃ v',(Instr.loadAt t a').run E.P w=.ok v' w∧VR ρ v v':=by
 unfold aLoad at e;split at e
 ·rename_i b o ti hti;split at e
  ·rename_i x hl;cases e;obtain ⟨_,n,hn,rfl⟩:=ha.ptr_inv;obtain ⟨v',h1,h2⟩:=load_ok g r hti hn hl;exact ⟨rfl,v',by simp [Instr.loadAt,Instr.sureAddr,h1],h2⟩
  ·cases e
 ·cases e
theorem aStore_ok {E:Env} (g:Good E) {ρ:Names} {h h':H} {w:World} (r:HR E ρ h w) {t:Nat} {a a' x x' v:Value} (ha:VR ρ a a') (hx:VR ρ x x') (e:aStore E.Γ t a x h=some (.val v h')) :
 v=undef∧∃ w',(Instr.storeAt t a' x').run E.P w=.ok () w'∧HR E ρ h' w'∧Ev ρ h w ρ h' w':=by
 unfold aStore at e;split at e
 ·rename_i b o s hs;simp only at e;split at e
  ·rename_i hcond;simp only [Bool.and_eq_true] at hcond;obtain ⟨hc1,hc2⟩:=hcond;split at e
   ·rename_i h1 hw;cases e;obtain ⟨_,n,hn,rfl⟩:=ha.ptr_inv;obtain ⟨i,hi,rfl⟩:=sizeT_ok g hs;obtain ⟨k1,k2,k3⟩:=r.write hn hw hx.cells (hx.cellsNo hc2);refine ⟨rfl,_,?_,k1,k2⟩;have hlen:=hx.cells.length;have hc1:=beq_iff.1 hc1;unfold Instr.storeAt Instr.sureAddr storeVar;simp only [pure_bind,Sem.run_bind,run_size hi,Result.andThen_ok];(have hsz:x'.cells.size=i.size:=by rw [← Array.length_toList,← hlen];exact hc1);rw [if_neg (by rw [hsz];simp)];have:=run_storeCells' E.P n.cb (n.co + o) x'.cells.toList 0 w (hx.cells.noAgg (hx.cellsNo hc2)) (fun j hj => by simpa using k3 j hj);simpa using this
   ·cases e
  ·cases e
 ·cases e
end Go.Ab
