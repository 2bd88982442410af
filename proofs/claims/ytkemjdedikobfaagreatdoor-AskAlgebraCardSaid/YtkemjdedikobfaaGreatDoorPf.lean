/- What is proved: the laws of sums of forms, joined; how the row's reading of an argument opens. Conditions stand in each theorem. -/
import Derived.Test.YtkemjdedikobfaaGreatDoorPe
import Derived.OpenShut
import Derived.ChangeArms
set_option linter.unusedVariables false
set_option linter.unusedSimpArgs false
namespace Go.Proofs.YtkemjdedikobfaaGreatDoor.Sem
open PSx Go.RowKit Go.Proofs.YtkemjdedikobfaaGreatDoorW.PrintWords
theorem norm_len {n c:Int} {T:List Trm} {F:Frm} {e:Int} (h:NormR n c T F e):F.T.length ≤ 1000:=by
 obtain ⟨D,_,_,_,o⟩:=h
 unfold outN at o
 have hm:(mul n D).length=D.length:=by simp [mul]
 split at o
 ·
  simp only [Prod.mk.injEq] at o
  rw [o.2.1];simp
 ·
  split at o
  ·
   split at o
   ·
    simp only [Prod.mk.injEq] at o
    rw [o.2.1];omega
   ·
    split at o
    ·
     simp only [Prod.mk.injEq] at o
     rw [o.2.1];omega
    ·
     simp only [Prod.mk.injEq] at o
     rw [o.2.1];simp
  ·
   simp only [Prod.mk.injEq] at o
   rw [o.2.1];simp
theorem times_len {a F:Frm} {n e:Int} (h:TimesR a n F e):F.T.length ≤ 1000:=by
 unfold TimesR at h
 split at h
 ·
  exact norm_len h
 ·
  rw [h.1];simp
theorem normal_len {a F:Frm} {e:Int} (h:NormalR a F e):F.T.length ≤ 1000:=by
 unfold NormalR at h
 split at h
 ·
  exact norm_len h
 ·
  rw [h.1];simp
theorem form_shape {w:World} {v:Value} {f:Frm} (h:FormV w v f):∃ c A n k,v=WalkA.fm c A n k:=by
 obtain ⟨A,cap,ys,rfl,_⟩:=h
 exact ⟨_,_,_,_,rfl⟩
def laws (S:∀ w:World,6 ≤ w.heap.size→Calls Tryz.prog 6 #[] w fun e w' => e=.returned (.bool true)∧Below w.heap.size w w'):WalkA.Laws Frm where
 FV0:=FormV0
 FV:=FormV
 SumR:=SumR
 TimesR:=fun a n g e => TimesR a n g e
 NormalR:=NormalR
 Len:=fun f => f.T.length ≤ 1000
 Zero:=fun f => f.c=0∧f.T=[]
 st0:=fun h hb => h.below hb
 st:=fun h hb => h.below hb
 shape:=form_shape
 slimV:=slimV
 sumV:=sumV
 timesV:=timesV
 normalV:=normalV
 sameV:=sameV
 zeroV:=fun h hz => by
  obtain ⟨A,cap,ys,e,_,_,_,h4⟩:=h
  simp only [WalkA.fm,Value.agg.injEq,Array.mk.injEq,List.cons.injEq,Value.int.injEq,Value.slice.injEq,and_true,true_and] at e
  obtain ⟨rfl,rfl,rfl,rfl⟩:=e
  refine ⟨hz.1,?_⟩
  rw [hz.2] at h4
  cases ys with
  | nil => rfl
  | cons y l => simp at h4
 lenS:=sum_len
 lenT:=times_len
 lenN:=normal_len
 comm:=sum_comm
 assoc:=assoc
 distr:=distr
 twice:=fun h1 h2 h3 a b c d e f g => by
  rw [bound_mul a b c d] at h3
  exact twice h1 h2 h3 e f g
 again:=again
 naught:=naught
 sane:=S
end Go.Proofs.YtkemjdedikobfaaGreatDoor.Sem
namespace Go.Proofs.YtkemjdedikobfaaGreatDoor.Sem
open PSx Go.RowKit Go.Proofs.YtkemjdedikobfaaGreatDoorW.PrintWords
open PFx (S95 z95 k95 k95_open k95_openM k95_mk k95_mkM rd_T95 at_T95)
variable {H:Type} {enc:TypeId × Value→H} {P:Program} {w:World} {base:Nat} {spare:Nat→Bool} {held:Bool}
theorem open_rows {α:Type} (k:Kd α) {e t:TypeId} (ht:P.underlying t=some (.slice e)) (hz:P.cellsOf e=k.sz) (good:α→Prop)
  (one:∀ (n:Nat) (cs:List Value) (y:DataW H × List MemPlace),DataW.trod enc P w base spare held n e cs=some y→∃ x:α,k.K w x cs∧good x)
  {fuel:Nat} {cs:List Value} {x:DataW H × List MemPlace} (h:DataW.trod enc P w base spare held fuel t cs=some x) :
  ∃ (A:Option Addr) (n c:Nat) (xs:List α),cs=[.slice A n c]∧n ≤ c∧xs.length=n∧Kd.C k w A n xs∧∀ x ∈ xs,good x:=by
 rcases DataW.trod_slice ht h with ⟨rfl,_⟩ | ⟨a,len,cap,elems,rest,n,rfl,rfl,_,_,hl,_,hlen,hel,_⟩
 ·
  exact ⟨none,0,0,[],rfl,Nat.le_refl _,rfl,⟨rfl,by decide,fun h => by omega⟩,fun x hx => by simp at hx⟩
 ·
  have each:∀ i,i < len→∃ (x:α) (cc:List Value),w.cells? base (a.add (i * k.sz)) k.sz=some cc∧k.K w x cc∧good x:=by
   intro i hi
   have h1:=hel i hi
   obtain ⟨y,hy⟩:∃ y,elems[i]?=some y:=⟨elems[i]'(by omega),List.getElem?_eq_getElem (by omega)⟩
   rw [hy] at h1
   obtain ⟨cc,h2,h3⟩:=Option.bind_eq_some_iff.1 h1
   obtain ⟨x,h4,h5⟩:=one _ _ _ h3
   exact ⟨x,cc,by rw [← hz];exact h2,h4,h5⟩
  have build:∀ m,m ≤ len→∃ xs:List α,xs.length=m∧∀ i x,xs[i]?=some x→∃ cc,w.cells? base (a.add (i * k.sz)) k.sz=some cc∧k.K w x cc∧good x:=by
   intro m
   induction m with
   | zero => exact fun _ => ⟨[],rfl,fun i x hx => by simp at hx⟩
   | succ m ih =>
    intro hm
    obtain ⟨xs,h1,h2⟩:=ih (by omega)
    obtain ⟨x,cc,h3,h4,h5⟩:=each m (by omega)
    refine ⟨xs ++ [x],by simp [h1],fun i y hy => ?_⟩
    rcases Nat.lt_or_ge i xs.length with hi | hi
    ·
     rw [List.getElem?_append_left hi] at hy
     exact h2 i y hy
    ·
     have him:i=m:=by
      have:=(List.getElem?_eq_some_iff.1 hy).1
      simp at this;omega
     subst him
     rw [List.getElem?_append_right hi,h1,Nat.sub_self] at hy
     obtain rfl:x=y:=by simpa using hy
     exact ⟨cc,h3,h4,h5⟩
  obtain ⟨xs,h1,h2⟩:=build len (Nat.le_refl _)
  refine ⟨some a,len,cap,xs,rfl,hl,h1,⟨h1,by have:=‹cap ≤ maxLen›;unfold maxLen at this;omega,fun _ => ⟨a,rfl,fun j x hj => ?_⟩⟩,fun x hx => ?_⟩
  ·
   obtain ⟨cc,h3,h4,_⟩:=h2 j x hj
   refine ⟨cc,k.K_len h4,h4,fun i u hu => ?_⟩
   have hlt:i < k.sz:=by
    have h6:=(List.getElem?_eq_some_iff.1 hu).1
    rw [k.K_len h4] at h6;exact h6
   have h7:=(World.cells?_some h3).2.2 i hlt
   rw [hu] at h7
   rw [← h7]
   congr 1
   by_cases h1:j * k.sz=0 <;> by_cases h2:i=0 <;> simp [Addr.add,h1,h2,Nat.add_assoc]
  ·
   obtain ⟨j,hj,rfl⟩:=List.getElem_of_mem hx
   exact (h2 j _ (List.getElem?_eq_getElem hj)).choose_spec.2.2
theorem cells3:Tryz.prog.cellsOf 3=1:=by kernel_rfl
theorem cells22:Tryz.prog.cellsOf 22=1:=by kernel_rfl
theorem cells41:Tryz.prog.cellsOf 41=1:=by kernel_rfl
theorem cells43:Tryz.prog.cellsOf 43=2:=by kernel_rfl
theorem cells45:Tryz.prog.cellsOf 45=5:=by kernel_rfl
theorem cells47:Tryz.prog.cellsOf 47=6:=by kernel_rfl
theorem cells24:Tryz.prog.cellsOf 24=2:=by kernel_rfl
theorem cells103:Tryz.prog.cellsOf 103=2:=by kernel_rfl
theorem at_ {α:Type} {xs:List α} {n:Nat} (h:xs.length=n) {i:Nat} (hi:i < n):∃ x,xs[i]?=some x:=⟨xs[i]'(by omega),List.getElem?_eq_getElem (by omega)⟩
set_option maxRecDepth 100000 in
theorem open_point {n:Nat} {cs:List Value} {y:DataW H × List MemPlace} (h:DataW.trod enc Tryz.prog w base spare held n 103 cs=some y):∃ x:S95,k95.K w x cs∧True:=by
 obtain ⟨xs,m,rfl,_,hl,hx,hf⟩:=DataW.trod_struct Tryz.underlying103 h
 rw [cells103] at hl
 obtain ⟨x0,e0⟩:=at_ hx (i:=0) (by decide)
 obtain ⟨x1,e1⟩:=at_ hx (i:=1) (by decide)
 have h0:=hf 0 _ rfl
 have h1:=hf 1 _ rfl
 rw [e0] at h0;rw [e1] at h1
 match cs,hl with
 | [c0,c1],_ =>
  obtain ⟨a,q0,_⟩:=DataW.trod_int Tryz.underlying3 h0
  obtain ⟨b,q1,_⟩:=DataW.trod_int Tryz.underlying3 h1
  simp [cells3] at q0 q1
  subst q0;subst q1
  exact ⟨⟨a,b⟩,k95_mk w ⟨a,b⟩,trivial⟩
set_option maxRecDepth 100000 in
theorem open_span {n:Nat} {cs:List Value} {y:DataW H × List MemPlace} (h:DataW.trod enc Tryz.prog w base spare held n 43 cs=some y):∃ lo hi:Int,cs=[.int .i64 lo,.int .i64 hi]:=by
 obtain ⟨xs,m,rfl,_,hl,hx,hf⟩:=DataW.trod_struct Tryz.underlying43 h
 rw [cells43] at hl
 obtain ⟨x0,e0⟩:=at_ hx (i:=0) (by decide)
 obtain ⟨x1,e1⟩:=at_ hx (i:=1) (by decide)
 have h0:=hf 0 _ rfl
 have h1:=hf 1 _ rfl
 rw [e0] at h0;rw [e1] at h1
 match cs,hl with
 | [c0,c1],_ =>
  obtain ⟨a,q0,_⟩:=DataW.trod_int Tryz.underlying3 h0
  obtain ⟨b,q1,_⟩:=DataW.trod_int Tryz.underlying3 h1
  simp [cells3] at q0 q1
  subst q0;subst q1
  exact ⟨a,b,rfl⟩
set_option maxRecDepth 100000 in
theorem open_fig {n:Nat} {cs:List Value} {y:DataW H × List MemPlace} (h:DataW.trod enc Tryz.prog w base spare held n 45 cs=some y) :
  ∃ (k s lo hi:Int) (v:SV),cs=[.int .i64 k,.int .i64 s,svv v,.int .i64 lo,.int .i64 hi]∧v.Good w:=by
 obtain ⟨xs,m,rfl,_,hl,hx,hf⟩:=DataW.trod_struct Tryz.underlying45 h
 rw [cells45] at hl
 obtain ⟨x0,e0⟩:=at_ hx (i:=0) (by decide)
 obtain ⟨x1,e1⟩:=at_ hx (i:=1) (by decide)
 obtain ⟨x2,e2⟩:=at_ hx (i:=2) (by decide)
 obtain ⟨x3,e3⟩:=at_ hx (i:=3) (by decide)
 have h0:=hf 0 _ rfl
 have h1:=hf 1 _ rfl
 have h2:=hf 2 _ rfl
 have h3:=hf 3 _ rfl
 rw [e0] at h0;rw [e1] at h1;rw [e2] at h2;rw [e3] at h3
 match cs,hl with
 | [c0,c1,c2,c3,c4],_ =>
  obtain ⟨a,q0,_⟩:=DataW.trod_int Tryz.underlying3 h0
  obtain ⟨b,q1,_⟩:=DataW.trod_int Tryz.underlying3 h1
  obtain ⟨A,n,c,xs,q2,g1,g2,g3,_⟩:=open_rows k95 (P:=Tryz.prog) Tryz.underlying41 cells103 (fun _ => True) (fun _ _ _ h => open_point h) h2
  obtain ⟨lo,hi,q3⟩:=open_span h3
  simp [cells3,cells41,cells43] at q0 q1 q2 q3
  obtain ⟨r3,r4⟩:=q3
  subst q0;subst q1;subst q2;subst r3;subst r4
  exact ⟨a,b,lo,hi,⟨A,n,c,xs⟩,rfl,⟨g2,g1,g3⟩⟩
set_option maxRecDepth 100000 in
theorem open_term {n:Nat} {cs:List Value} {y:DataW H × List MemPlace} (h:DataW.trod enc Tryz.prog w base spare held n 47 cs=some y):∃ x:S174,k174.K w x cs∧x.f1.f2.Good w:=by
 obtain ⟨xs,m,rfl,_,hl,hx,hf⟩:=DataW.trod_struct Tryz.underlying47 h
 rw [cells47] at hl
 obtain ⟨x0,e0⟩:=at_ hx (i:=0) (by decide)
 obtain ⟨x1,e1⟩:=at_ hx (i:=1) (by decide)
 have h0:=hf 0 _ rfl
 have h1:=hf 1 _ rfl
 rw [e0] at h0;rw [e1] at h1
 match cs,hl with
 | [c0,c1,c2,c3,c4,c5],_ =>
  obtain ⟨a,q0,_⟩:=DataW.trod_int Tryz.underlying3 h0
  obtain ⟨k,s,lo,hi,v,q1,g⟩:=open_fig h1
  simp [cells3,cells45] at q0 q1
  obtain ⟨r1,r2,r3,r4,r5⟩:=q1
  subst q0;subst r1;subst r2;subst r3;subst r4;subst r5
  exact ⟨⟨a,⟨k,s,v,⟨lo,hi⟩⟩⟩,k174_mk w ⟨a,⟨k,s,v,⟨lo,hi⟩⟩⟩,g⟩
set_option maxRecDepth 100000 in
theorem open_form {n:Nat} {cs:List Value} {y:DataW H × List MemPlace} (h:DataW.trod enc Tryz.prog w base spare held n 24 cs=some y) :
  ∃ (c:Int) (A:Option Addr) (m k:Nat),cs=[.int .i64 c,.slice A m k]∧FormV0 w (.agg #[.int .i64 c,.slice A m k]):=by
 obtain ⟨xs,m,rfl,_,hl,hx,hf⟩:=DataW.trod_struct Tryz.underlying24 h
 rw [cells24] at hl
 obtain ⟨x0,e0⟩:=at_ hx (i:=0) (by decide)
 obtain ⟨x1,e1⟩:=at_ hx (i:=1) (by decide)
 have h0:=hf 0 _ rfl
 have h1:=hf 1 _ rfl
 rw [e0] at h0;rw [e1] at h1
 match cs,hl with
 | [c0,c1],_ =>
  obtain ⟨a,q0,_⟩:=DataW.trod_int Tryz.underlying3 h0
  obtain ⟨A,n,c,ys,q1,g1,g2,g3,g4⟩:=open_rows k174 (P:=Tryz.prog) Tryz.underlying22 cells47 (fun x => x.f1.f2.Good w) (fun _ _ _ h => open_term h) h1
  simp [cells3,cells22] at q0 q1
  subst q0;subst q1;subst g2
  exact ⟨a,A,ys.length,c,rfl,a,A,c,ys,rfl,g1,g3,g4⟩
end Go.Proofs.YtkemjdedikobfaaGreatDoor.Sem
