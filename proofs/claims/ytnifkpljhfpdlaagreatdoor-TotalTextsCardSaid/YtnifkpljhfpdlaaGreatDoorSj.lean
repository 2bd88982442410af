/- What is proved: a part of the soundness of the abstract machine (a run of it stands for the run of the model, whatever the tape). Conditions stand in each theorem. -/
import Derived.Test.YtnifkpljhfpdlaaGreatDoorSi
import Derived.Lib.Bytealg
import Derived.Lib.Join
import Derived.Lib.SlKeysI
import Derived.Laws.AppendOwn
import Derived.Below
set_option linter.unusedVariables false
set_option linter.unusedSimpArgs false
namespace Go.Ab
open Go.RowKit (Below)
def insI (k:Int):List Int→List Int
 | [] => [k]
 | x :: l => match ltI k x with
  | true => k :: x :: l
  | false => x :: insI k l
def sortI:List Int→List Int
 | [] => []
 | k :: l => insI k (sortI l)
def keysI:List (Value × Value)→Option (List Int)
 | [] => some []
 | (.int .i64 n,_) :: r => match fits64 n with
  | true => match keysI r with
   | some l => some (n :: l)
   | none => none
  | false => none
 | _ => none
def vI (n:Int):Value:=.int .i64 n
def idxU (c:Nat):Nat→List UInt8→Int
 | _,[] => -1
 | n,b :: l => match Nat.beq b.toNat c with
  | true => .ofNat n
  | false => idxU c (Nat.succ n) l
def cntU (c:Nat):List UInt8→Nat
 | [] => 0
 | b :: l => match Nat.beq b.toNat c with
  | true => Nat.succ (cntU c l)
  | false => cntU c l
def strsOf:List Value→Option (List ByteArray)
 | [] => some []
 | .string s :: l => match strsOf l with
  | some r => some (s :: r)
  | none => none
 | _ => none
def datas:List ByteArray→List (List UInt8)
 | [] => []
 | s :: l => s.data.toList :: datas l
def mapOfBox (h:H) (v:Value):Option (Option (List (Value × Value))) :=
 match v with
 | .pointer (some ⟨b,0,none⟩) => match h.blks.get b with
  | some (.cells (m :: _) _ 0 _) => match m with
   | .map none => some none
   | .map (some r) => match h.blks.get r with
    | some (.map es) => some (some es)
    | _ => none
   | _ => none
  | _ => none
 | _ => none
structure Ix where
 sorted:Nat
 keys:List Nat
 index:Nat
 count:Nat
 join:Nat
def sortedStub (h:H) (m:Value):Option (Value × H) :=
 match mapOfBox h m with
 | some none => some (.slice none 0 0,h)
 | some (some es) => match keysI es,Nat.ble es.length 1000000 with
  | some ks,true => match sortI ks with
   | [] => some (.slice none 0 0,h)
   | k :: l => some (.slice (some (addr h.next 0)) (Nat.succ l.length) capU,h.new ((k :: l).map vI) 1)
  | _,_ => none
 | none => none
def joinStub (h:H) (base:Option Addr) (len:Nat) (sep:ByteArray):Option (Value × H) :=
 match len with
 | 0 => some (.string ⟨#[]⟩,h)
 | Nat.succ n => match base with
  | some ⟨b,o,none⟩ => match h.read b o (Nat.succ n) with
   | some l => match strsOf l with
    | some xs => match Nat.ble (Lib.join (datas xs) sep.data.toList).length 1000000 && Nat.ble len 1000000 with
     | true => some (.string ⟨⟨Lib.join (datas xs) sep.data.toList⟩⟩,h)
     | false => none
    | none => none
   | none => none
  | _ => none
def stubOf (I:Ix):Stub:=fun f args h =>
 match Nat.beq f I.sorted with
 | true => match args with
  | [.func (.func g) a b] => match memN g I.keys,a.toList,b.toList with
   | true,[],[m] => some (sortedStub h m)
   | _,_,_ => some none
  | _ => some none
 | false => match Nat.beq f I.index with
  | true => match args with
   | [.string s,.int .u8 (.ofNat c)] => match Nat.ble c 255 with
    | true => some (some (.int .i64 (idxU c 0 s.data.toList),h))
    | false => some none
   | _ => some none
  | false => match Nat.beq f I.count with
   | true => match args with
    | [.string s,.int .u8 (.ofNat c)] => match Nat.ble c 255 with
     | true => some (some (.int .i64 (.ofNat (cntU c s.data.toList)),h))
     | false => some none
    | _ => some none
   | false => match Nat.beq f I.join with
    | true => match args with
     | [.slice base len _,.string sep] => some (joinStub h base len sep)
     | _ => some none
    | false => none
structure LibFacts (P:Program) (I:Ix):Prop where
 idx:∀ args w,(callFunc I.index args).run P w=((Extern.BytealgIndexByte.indexByte args).run P w).andThen fun v w' => .ok (.value v) w'
 cnt:∀ args w,(callFunc I.count args).run P w=((Extern.BytealgCount.count args).run P w).andThen fun v w' => .ok (.value v) w'
 entS:∀ args w,(callFunc I.sorted args).run P w=.ok (.enter I.sorted args) w
 entJ:∀ args w,(callFunc I.join args).run P w=.ok (.enter I.join args) w
 sorted:∀ g,g ∈ I.keys→∀ (Bm b:Nat) (es:Array MapEntry) (clock:Nat) (w:World),w.cell? ⟨Bm,0,none⟩=some (.map (some b))→w.heap[b]?=some (.map es clock)→MapKept.Stamped es clock→es.size ≤ 1000000 →
  (∀ x,x ∈ es.toList→∃ n:Int,x.key=.int .i64 n∧fits64 n=true)→Bm < w.heap.size →
  Calls P I.sorted #[.func (.func g) #[] #[.pointer (some ⟨Bm,0,none⟩)]] w fun e w' => ∃ (v:Value) (ss:List Int) (t:Nat),e=.returned v∧(ss.map encZ).Perm (es.toList.map (·.key)) ∧
   w'.ownsRow w.heap.size t 1 v ss.length ((ss.mergeSort leI).map encZ)∧(v=.slice none 0 0 ↔ ss=[])∧Below w.heap.size w w'
 sortedNil:∀ g,g ∈ I.keys→∀ (Bm:Nat) (w:World),w.cell? ⟨Bm,0,none⟩=some (.map none)→Bm < w.heap.size →
  Calls P I.sorted #[.func (.func g) #[] #[.pointer (some ⟨Bm,0,none⟩)]] w fun e w' => e=.returned (.slice none 0 0)∧Below w.heap.size w w'
 joinNone:∀ (a:Option Addr) (c:Nat) (sep:ByteArray) (w:World),Calls P I.join #[.slice a 0 c,.string sep] w fun e w' => e=.returned (.string ⟨#[]⟩)∧w'=w
 join:∀ (bk o c:Nat) (xs:List ByteArray) (sep:ByteArray) (w:World),(∀ (j:Nat) x,xs[j]?=some x→w.cell? ⟨bk,o + j,none⟩=some (.string x))→bk < w.heap.size→xs.length ≤ 140737488355328→xs.length ≤ c →
  (Lib.join (xs.map (·.data.toList)) sep.data.toList).length ≤ 140737488355328 →
  Calls P I.join #[.slice (some ⟨bk,o,none⟩) xs.length c,.string sep] w fun e w' => e=.returned (.string ⟨(Lib.join (xs.map (·.data.toList)) sep.data.toList).toArray⟩)∧Below w.heap.size w w'
theorem insI_perm (k:Int):∀ l,(insI k l).Perm (k :: l)
 | [] => .refl _
 | x :: l => by
  simp only [insI];split
  ·exact .refl _
  ·exact ((insI_perm k l).cons x).trans (.swap k x l)
theorem sortI_perm:∀ l,(sortI l).Perm l
 | [] => .refl _
 | k :: l => (insI_perm k _).trans ((sortI_perm l).cons k)
theorem insI_sorted (k:Int):∀ l:List Int,l.Pairwise (fun a b => leI a b=true)→(insI k l).Pairwise (fun a b => leI a b=true)
 | [],_ => by simp [insI]
 | x :: l,h => by
  simp only [insI];have hx:=List.pairwise_cons.1 h;split
  ·rename_i hlt;(have hlt:k < x:=by rw [ltI_eq] at hlt;simpa using hlt);refine List.pairwise_cons.2 ⟨fun y hy => ?_,h⟩;rcases List.mem_cons.1 hy with rfl | hy
   ·simp [leI];omega
   ·have:=hx.1 y hy;simp only [leI,decide_eq_true_eq] at this ⊢;omega
  ·rename_i hlt;(have hlt:¬ k < x:=by rw [ltI_eq] at hlt;simpa using hlt);refine List.pairwise_cons.2 ⟨fun y hy => ?_,insI_sorted k l hx.2⟩;rcases List.mem_cons.1 ((insI_perm k l).mem_iff.1 hy) with rfl | hy
   ·simp only [leI,decide_eq_true_eq];omega
   ·exact hx.1 y hy
theorem sortI_sorted:∀ l:List Int,(sortI l).Pairwise (fun a b => leI a b=true)
 | [] => .nil
 | k :: l => insI_sorted k _ (sortI_sorted l)
theorem sortI_eq {l ss:List Int} (h:ss.Perm l):ss.mergeSort leI=sortI l:=by
 have tr:∀ a b c:Int,leI a b=true→leI b c=true→leI a c=true:=fun a b c h1 h2 => by simp only [leI,decide_eq_true_eq] at *;exact Int.le_trans h1 h2
 have to:∀ a b:Int,(leI a b || leI b a)=true:=fun a b => by simp only [leI,Bool.or_eq_true,decide_eq_true_eq];exact Int.le_total a b
 refine List.Perm.eq_of_pairwise (le:=fun a b => leI a b=true) (fun a b _ _ h1 h2 => ?_) (List.pairwise_mergeSort tr to ss) (sortI_sorted l) (((List.mergeSort_perm ss leI).trans h).trans (sortI_perm l).symm);simp only [leI,decide_eq_true_eq] at h1 h2;exact Int.le_antisymm h1 h2
theorem idxU_eq {c:Nat} (hc:c ≤ 255):∀ (l:List UInt8) (n:Nat),idxU c n l=if Lib.indexByte l c.toUInt8=-1 then -1 else (n:Int) + Lib.indexByte l c.toUInt8
 | [],n => by simp [idxU,Lib.indexByte]
 | b :: l,n => by
  have hbc:Nat.beq b.toNat c=(b == c.toUInt8):=by
   rw [Bool.eq_iff_iff,beq_iff_eq];constructor
   ·intro h;have:=Nat.eq_of_beq_eq_true h;subst this;simp
   ·rintro rfl;(have:(c.toUInt8).toNat=c:=by simp;omega);rw [this];simp
  simp only [idxU,Lib.indexByte,hbc];have hge:=Lib.indexByte_ge l c.toUInt8;have ih:=idxU_eq hc l (Nat.succ n);by_cases hx:b=c.toUInt8
  ·(have hf:(b == c.toUInt8)=true:=by simpa using hx);simp only [hf,if_true];rw [if_neg (by decide)];simp
  ·(have hf:(b == c.toUInt8)=false:=by simpa using hx);simp only [hf,Bool.false_eq_true,if_false];rw [ih];by_cases h1:Lib.indexByte l c.toUInt8=-1
   ·simp [h1]
   ·(have h2:(Lib.indexByte l c.toUInt8 == -1)=false:=by simpa using h1);simp only [h2,Bool.false_eq_true,if_false,if_neg h1];rw [if_neg (by omega)];simp;omega
theorem cntU_eq {c:Nat} (hc:c ≤ 255):∀ (l:List UInt8),cntU c l=Lib.countByte l c.toUInt8
 | [] => rfl
 | b :: l => by
  have hbc:Nat.beq b.toNat c=(b == c.toUInt8):=by
   rw [Bool.eq_iff_iff,beq_iff_eq];constructor
   ·intro h;have:=Nat.eq_of_beq_eq_true h;subst this;simp
   ·rintro rfl;(have:(c.toUInt8).toNat=c:=by simp;omega);rw [this];simp
  simp only [cntU,hbc,Lib.countByte,List.count_cons];have ih:=cntU_eq hc l;unfold Lib.countByte at ih;cases hb:b == c.toUInt8 <;> simp [ih]
end Go.Ab
namespace Go.Ab
open Go.RowKit (Below)
section
variable {E:Env} {ρ:Names} {h:H} {w w':World}
theorem HR.below (r:HR E ρ h w) (b:Below w.heap.size w w'):HR E ρ h w'∧Ev ρ h w ρ h w' :=
 ⟨⟨r.live,r.anc,fun c n hc => ⟨(r.dom c n hc).1,Nat.lt_of_lt_of_le (r.dom c n hc).2 b.size⟩,fun c n x hc hx => (r.blk c n x hc hx).same (Names.le_refl _) (b.block _ (r.dom c n hc).2),r.sep,r.base,r.wr⟩,
   { le:=Names.le_refl _,named:=fun b h1 h2 => by omega,fresh:=fun b n e e' => by rw [e] at e';cases e'
     next:=Nat.le_refl _,base:=rfl,wr:=fun _ h => h,keep:=fun _ _ _ => rfl,size:=b.size,out:=⟨b.os,b.output,b.tape⟩,same:=fun _ hp hs => ⟨hp,fun c hc => b.block c (hs c hc)⟩ }⟩
theorem HR.made (r:HR E ρ h w) (bl:Below w.heap.size w w') {x:Blk} {n:Nm} (h1:w.heap.size ≤ n.cb) (h2:n.cb < w'.heap.size) (han:∀ cs an es rw,x=.cells cs an es rw→∀ a,a ∈ an→a < h.next)
 (hb:BR (Names.add ρ h.next n) E w' n x):HR E (Names.add ρ h.next n) (h.alloc x) w'∧Ev ρ h w (Names.add ρ h.next n) (h.alloc x) w':=by
 obtain ⟨r',e'⟩:=r.below bl;have hn:=r.none_next;have hle:=Names.le_add n hn;have hget:∀ b,(h.alloc x).blks.get b=if b=h.next then some x else h.blks.get b:=fun b => by simp [H.alloc,T.get_put]
 constructor
 ·refine ⟨fun b y hy => ?_,fun b cs an es' rw' hy a ha => ?_,fun b m hb' => ?_,fun b m y hb' hy => ?_,fun b c p q y z hne hb' hc' hy hz => ?_,Nat.le_succ_of_le r.base,r.wr⟩
  ·rw [hget] at hy;split at hy
   ·subst_vars;show _ < Nat.succ _;omega
   ·have:=r.live b y hy;show _ < Nat.succ _;omega
  ·rw [hget] at hy;split at hy
   ·subst_vars;cases hy;exact han cs an es' rw' rfl a ha
   ·exact r.anc b cs an es' rw' hy a ha
  ·by_cases e:b=h.next
   ·subst e;rw [Names.add_same] at hb';cases hb';exact ⟨Nat.lt_succ_self _,h2⟩
   ·rw [Names.add_other _ _ e] at hb';have:=r'.dom b m hb';exact ⟨Nat.lt_succ_of_lt this.1,this.2⟩
  ·rw [hget] at hy;by_cases e:b=h.next
   ·subst e;rw [Names.add_same] at hb';rw [if_pos rfl] at hy;cases hb';cases hy;exact hb
   ·rw [Names.add_other _ _ e] at hb';rw [if_neg e] at hy;exact (r'.blk b m y hb' hy).same hle rfl
  ·rw [hget] at hy hz;by_cases e:b=h.next
   ·subst e;rw [if_neg (Ne.symm hne)] at hz;rw [Names.add_same] at hb';rw [Names.add_other _ _ (Ne.symm hne)] at hc';cases hb';have:=(r.dom c q hc').2;exact Sep.of_cb (by omega)
   ·rw [if_neg e] at hy;rw [Names.add_other _ _ e] at hb';by_cases e2:c=h.next
    ·subst e2;rw [Names.add_same] at hc';cases hc';have:=(r.dom b p hb').2;exact Sep.of_cb (by omega)
    ·rw [if_neg e2] at hz;rw [Names.add_other _ _ e2] at hc';exact r.sep b c p q y z hne hb' hc' hy hz
 ·refine { le:=hle,named:=fun b h1 h2 => (by have h2':b < Nat.succ h.next:=h2;have:b=h.next:=(by omega);subst this;rw [Names.add_same];rfl),fresh:=?_,next:=Nat.le_succ _,base:=rfl,wr:=fun _ h => h,keep:=?_,size:=bl.size,out:=⟨bl.os,bl.output,bl.tape⟩,same:=?_ }
  ·intro b m hb' h0;by_cases e:b=h.next
   ·omega
   ·rw [Names.add_other _ _ e] at hb';rw [h0] at hb';cases hb'
  ·intro b hbb _;rw [hget,if_neg (by have:=r.base;omega)]
  ·intro Pr k1 k2;refine ⟨fun b m hb' hor => ?_,fun b hp => bl.block b (k2 b hp)⟩;by_cases e:b=h.next
   ·subst e;rw [Names.add_same] at hb';cases hb';intro hp;have:=k2 _ hp;omega
   ·rw [Names.add_other _ _ e] at hb';exact k1 b m hb' hor
end
theorem keysI_ok {ρ:Names}:∀ {es:List (Value × Value)} {l:List MapEntry} {ks:List Int},EntsR ρ es l→keysI es=some ks→l.map (·.key)=ks.map encZ∧∀ x,x ∈ l→∃ n:Int,x.key=.int .i64 n∧fits64 n=true
 | _,_,ks,.nil,h => by simp [keysI] at h;subst h;exact ⟨rfl,fun x hx => by cases hx⟩
 | _, _, ks,.cons e y es l h hs,hk => by
  obtain ⟨a,v⟩:=e;have h1:=h.1;unfold keysI at hk;split at hk
  ·rename_i hq;cases hq
  ·rename_i n v' r heq;cases heq;split at hk
   ·rename_i hf;split at hk
    ·rename_i l' hl';cases hk;obtain ⟨k1,k2⟩:=keysI_ok hs hl';simp only at h1;generalize hyk:y.key=yk at h1;cases h1;refine ⟨by simp [k1,hyk],fun x hx => ?_⟩;rcases List.mem_cons.1 hx with rfl | hx
     ·exact ⟨n,hyk,hf⟩
     ·exact k2 x hx
    ·cases hk
   ·cases hk
  ·cases hk
theorem strsOf_ok {ρ:Names}:∀ {l l':List Value} {xs:List ByteArray},VRs ρ l l'→strsOf l=some xs→l'=xs.map Value.string
 | _,_,xs,.nil,h => by simp [strsOf] at h;subst h;rfl
 | _,_,xs,.cons v v' l l' hv hs,h => by
  unfold strsOf at h;split at h
  ·rename_i hq;cases hq
  ·rename_i s r heq;cases heq;split at h
   ·rename_i r' hr;cases h;cases hv;rw [strsOf_ok hs hr];rfl
   ·cases h
  ·cases h
theorem datas_eq:∀ (xs:List ByteArray),datas xs=xs.map (·.data.toList)
 | [] => rfl
 | x :: l => by simp [datas,datas_eq l]
theorem map_vI (l:List Int):l.map vI=l.map encZ:=rfl
section
variable {P:Program} {I:Ix} {Γ:Ctx}
theorem perm_of_map {ss ks:List Int} (h:(ss.map encZ).Perm (ks.map encZ)):ss.Perm ks:=by have h2:=h.map (fun v => match v with | .int _ n => n | _ => 0);simpa [List.map_map,Function.comp_def] using h2
theorem sorted_says (F:LibFacts P I) {E:Env} (hP:E.P=P) {g:Nat} (hgk:g ∈ I.keys) {m:Value} {h h':H} {v:Value} (e:sortedStub h m=some (v,h')) {ρ:Names} {w:World} {m':Value} (r:HR E ρ h w) (hm:VR ρ m m') :
 Calls P I.sorted #[.func (.func g) #[] #[m']] w (CallPost E ρ h w v h'):=by
 unfold sortedStub mapOfBox at e;split at e
 ·-- a box of nil
  rename_i hbox;cases e;split at hbox
  ·rename_i b;split at hbox
   ·rename_i mv l an rw0 hb;split at hbox
    ·cases hm with
     | ptr _ _ n hn => obtain ⟨k1,k2,_⟩:=r.blk b n _ hn hb;have hco:n.co=0:=k2.2 rfl;obtain ⟨_,v',c1,c2⟩:=k1 0 _ rfl;cases c2;rw [hco] at c1 ⊢;have c1:w.cell? ⟨n.cb,0,none⟩=some (.map none):=c1;refine (F.sortedNil g hgk n.cb w c1 (r.dom b n hn).2).mono ?_;rintro en w' ⟨rfl,hbl⟩;obtain ⟨p1,p2⟩:=r.below hbl;exact ⟨ρ,_,rfl,p1,p2,.sliceN⟩
    ·split at hbox <;> simp at hbox
    ·cases hbox
   ·cases hbox
  ·cases hbox
 ·-- a box of a map
  rename_i es hbox;split at e
  ·rename_i ks hks hlen;split at hbox
   ·rename_i b;split at hbox
    ·rename_i mv l an rw0 hb;split at hbox
     ·simp at hbox
     ·rename_i r0;split at hbox
      ·rename_i es0 hr0;cases hbox;cases hm with
       | ptr _ _ n hn =>
        obtain ⟨k1,k2,_⟩:=r.blk b n _ hn hb;have hco:n.co=0:=k2.2 rfl;obtain ⟨_,v',c1,c2⟩:=k1 0 _ rfl;cases c2 with
        | map _ n2 hn2 =>
         obtain ⟨ml,clock,q1,q2,q3⟩:=r.blk r0 n2 _ hn2 hr0;obtain ⟨q4,q5⟩:=keysI_ok q2 hks;have hsz:ml.size ≤ 1000000:=by
          have h1:es.length=ml.toList.length:=by
           have:∀ {a:List (Value × Value)} {b:List MapEntry},EntsR ρ a b→a.length=b.length:=by
            intro a;induction a with
            | nil => intro b h;cases h;rfl
            | cons x a ih => intro b h;cases h with | cons _ _ _ _ _ hs => simp [ih hs]
           exact this q2
          have:=ble_iff.1 hlen;rw [h1] at this;simpa using this
         rw [hco] at c1 ⊢;have c1:w.cell? ⟨n.cb,0,none⟩=some (.map (some n2.cb)):=c1;refine (F.sorted g hgk n.cb n2.cb ml clock w c1 q1 q3 hsz q5 (r.dom b n hn).2).mono ?_;rintro en w' ⟨v0,ss,t,rfl,s1,s2,s3,hbl⟩;rw [q4] at s1;have hperm:=perm_of_map s1;have hsort:=sortI_eq hperm;split at e
         ·rename_i hnil;cases e;(have hss:ss=[]:=by have:=hperm.length_eq.trans (sortI_perm ks).length_eq.symm;rw [hnil] at this;exact List.length_eq_zero_iff.1 this);rw [s3.2 hss];obtain ⟨p1,p2⟩:=r.below hbl;exact ⟨ρ,_,rfl,p1,p2,.sliceN⟩
         ·rename_i k0 l0 hcons;cases e;(have hlen2:ss.length=l0.length + 1:=by have:=hperm.length_eq.trans (sortI_perm ks).length_eq.symm;rw [hcons] at this;simpa using this);obtain ⟨t1,t2⟩:=s2;rcases t2 with ⟨_,t2⟩ | ⟨g0,cap,cur,rfl,u1,u2,u3,u4,u5,u6⟩
          ·omega
          ·rw [hsort,hcons] at u6;have hlt:=(Array.getElem?_eq_some_iff.1 u2).1;have hcs:VRs (Names.add ρ h.next ⟨g0,0,cur.size,1⟩) ((k0 :: l0).map vI) ((k0 :: l0).map encZ):=by
            refine VRs.of_get rfl fun i a b h1 h2 => ?_;rw [map_vI,h2] at h1;cases h1;rw [List.getElem?_map] at h2;cases hx:(k0 :: l0)[i]? with
            | none => rw [hx] at h2;cases h2
            | some z => rw [hx] at h2;cases h2;exact .int _ _
           have hBR:BR (Names.add ρ h.next ⟨g0,0,cur.size,1⟩) E w' ⟨g0,0,cur.size,1⟩ (.cells ((k0 :: l0).map vI) [] 1 true):=by
            refine ⟨cellsR_of hcs (fun i x hx => ?_) (fun v hv => ?_),⟨rfl,fun h => by cases h⟩,fun _ => ⟨fun i _ hi => ?_,?_⟩⟩
            ·show cell w' g0 (0 + i)=some x;rw [cell_def,u2];(have:(cur.toList.take (ss.length * 1))[i]?=some x:=by rw [u6];exact hx);rw [List.getElem?_take] at this;split at this
             ·simpa using this
             ·cases this
            ·rw [List.mem_map] at hv;obtain ⟨z,_,rfl⟩:=hv;rfl
            ·show (cell w' g0 i).isSome=true∧_;rw [cell_def,u2];refine ⟨by simpa using hi,?_⟩;unfold World.frozen?;rw [u2];simp
            ·show 0 + ((k0 :: l0).map vI).length ≤ cur.size;simp;omega
           obtain ⟨p1,p2⟩:=r.made (n:=⟨g0,0,cur.size,1⟩) hbl u1 hlt (x:=.cells ((k0 :: l0).map vI) [] 1 true) (fun _ _ _ _ h => by cases h;intro a ha;cases ha) hBR;refine ⟨_,_,rfl,p1,p2,?_⟩;rw [hlen2];refine VR.slice h.next 0 (l0.length + 1) capU cap ⟨g0,0,none⟩ ⟨g0,0,cur.size,1⟩ (Names.add_same _ _ _) ⟨by omega,?_⟩ (.inl rfl);rw [if_neg (by decide)];exact ⟨rfl,by show 0 + 0 + cap * 1=cur.size;omega⟩
      ·cases hbox
     ·cases hbox
    ·cases hbox
   ·cases hbox
  ·cases e
 ·cases e
theorem join_says (F:LibFacts P I) {E:Env} (hP:E.P=P) {base:Option Addr} {len cap:Nat} {sep:ByteArray} {h h':H} {v:Value} (e:joinStub h base len sep=some (v,h')) {ρ:Names} {w:World} {x:Value} (r:HR E ρ h w)
 (hx:VR ρ (.slice base len cap) x):Calls P I.join #[x,.string sep] w (CallPost E ρ h w v h'):=by
 unfold joinStub at e;split at e
 ·cases e;have key:∀ a c,Calls P I.join #[.slice a 0 c,.string sep] w (CallPost E ρ h w (.string ⟨#[]⟩) h):=fun a c => by refine (F.joinNone a c sep w).mono ?_;rintro en w' ⟨rfl,rfl⟩;exact ⟨ρ,_,rfl,r,Ev.refl _ _ _,.string _⟩
  cases hx with
  | sliceN => exact key _ _
  | slice => exact key _ _
 ·rename_i n;split at e
  ·rename_i b o;split at e
   ·rename_i l hl;split at e
    ·rename_i xs hxs;split at e
     ·rename_i hle;cases e;simp only [Bool.and_eq_true] at hle;have hle1:=ble_iff.1 hle.1;have hle2:=ble_iff.1 hle.2;cases hx with
      | slice _ _ _ _ c' a' nm hn hc ha =>
       have hc1:=hc.1;have ha:a'=⟨nm.cb,nm.co + o,none⟩:=by
        rcases ha with ha | ha
        ·exact ha
        ·omega
       subst ha;obtain ⟨cs,an,es,rw0,hrd⟩:=read_eq hl;rcases hrd with ⟨q1,q2,q3⟩ | ⟨_,_,_,_,_,_,q⟩
       ·obtain ⟨k1,_,_⟩:=r.blk b nm _ hn q1;have hcells:∀ (i:Nat) (v:Value),((cs.drop o).take (n + 1))[i]?=some v→notAgg v=true∧∃ v',cell w nm.cb (nm.co + o + i)=some v'∧VR ρ v v':=fun i v hv => by
         rw [List.getElem?_take] at hv;split at hv
         ·rw [List.getElem?_drop] at hv;have:=k1 (o + i) v hv;rw [show nm.co + o + i=nm.co + (o + i) from by omega];exact this
         ·cases hv
        obtain ⟨ys,y1,y2,y3⟩:=cellsR_list hcells;rw [← q2] at y1;have hys:=strsOf_ok y1 hxs;subst hys;(have hlenxs:xs.length=n + 1:=by have:=y1.length;rw [q2,List.length_take,List.length_drop] at this;simp at this;omega);have hj:=F.join nm.cb (nm.co + o) c' xs sep w (fun j x hx => by have:=y2 j (.string x) (by rw [List.getElem?_map,hx];rfl);exact this) (r.dom b nm hn).2 (by omega) (by omega) (by rw [← datas_eq];omega);rw [hlenxs] at hj;refine hj.mono ?_;rintro en w' ⟨rfl,hbl⟩;obtain ⟨p1,p2⟩:=r.below hbl;rw [← datas_eq];exact ⟨ρ,_,rfl,p1,p2,.string _⟩
       ·omega
     ·cases e
    ·cases e
   ·cases e
  ·cases e
theorem stub_says (F:LibFacts P I):StubSays P Γ (stubOf I):=by
 intro f args h v h' e E hP hΓ ρ w args' r hg ha;unfold stubOf at e;split at e
 ·rename_i hf;have:=Nat.eq_of_beq_eq_true hf;subst this;split at e
  ·rename_i g a b;split at e
   ·rename_i m h1 h2 h3;cases ha with
    | cons _ x _ l' hv hs =>
     cases hs;cases hv with
     | func _ _ _ as' bs' _ h4 h5 =>
      rw [h2] at h4;rw [h3] at h5;(have ea:as'=#[]:=by generalize hq:as'.toList=q at h4;cases h4;exact Array.toList_inj.1 hq);generalize hq:bs'.toList=q at h5;cases h5 with
      | cons _ m' _ _ hm hn => cases hn;have eb:bs'=#[m']:=Array.toList_inj.1 hq;subst ea eb;refine .inr ⟨F.entS _ _,sorted_says F hP ((memN_iff _ _).1 h1) (by simpa using e) r hm⟩
   ·cases e
  ·cases e
 ·split at e
  ·rename_i hf;have:=Nat.eq_of_beq_eq_true hf;subst this;split at e
   ·rename_i s c;split at e
    ·rename_i hc;have hc:=ble_iff.1 hc;cases e;cases ha with
     | cons _ x _ l' hv hs =>
      cases hs with
      | cons _ y _ l'' hv2 hs2 =>
       cases hs2;cases hv;cases hv2;refine .inl ⟨ρ,w,_,by rw [F.idx];rw [Lib.run_indexByteString];rfl,r,Ev.refl _ _ _,?_⟩;have:idxU c 0 s.data.toList=Lib.indexByte s.data.toList ((Int.ofNat c).toNat.toUInt8):=by
        rw [idxU_eq hc];show (if Lib.indexByte s.data.toList c.toUInt8=-1 then -1 else ((0:Nat):Int) + Lib.indexByte s.data.toList c.toUInt8)=Lib.indexByte s.data.toList c.toUInt8;split
        ·rename_i hh;exact hh.symm
        ·simp
       rw [this];exact .int _ _
    ·cases e
   ·cases e
  ·split at e
   ·rename_i hf;have:=Nat.eq_of_beq_eq_true hf;subst this;split at e
    ·rename_i s c;split at e
     ·rename_i hc;have hc:=ble_iff.1 hc;cases e;cases ha with
      | cons _ x _ l' hv hs =>
       cases hs with
       | cons _ y _ l'' hv2 hs2 => cases hs2;cases hv;cases hv2;refine .inl ⟨ρ,w,_,by rw [F.cnt];rw [Lib.run_countString];rfl,r,Ev.refl _ _ _,?_⟩;rw [cntU_eq hc];exact .int _ _
     ·cases e
    ·cases e
   ·split at e
    ·rename_i hf;have:=Nat.eq_of_beq_eq_true hf;subst this;split at e
     ·rename_i base len cap sep;cases ha with
      | cons _ x _ l' hv hs =>
       cases hs with
       | cons _ y _ l'' hv2 hs2 => cases hs2;cases hv2;exact .inr ⟨F.entJ _ _,join_says F hP (by simpa using e) r hv⟩
     ·cases e
    ·cases e
end
end Go.Ab
