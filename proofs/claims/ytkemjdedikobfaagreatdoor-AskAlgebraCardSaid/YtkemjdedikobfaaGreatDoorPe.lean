/- What is proved: AskAlgebra's own walk: it returns true if what it calls keeps the laws that the structure lists. The condition stands in the theorem. -/
import Derived.Test.YtkemjdedikobfaaGreatDoorPd
import Derived.Test.YtkemjdedikobfaaGreatDoorProg
import Derived.WalkKit
import Derived.ProofKit
import Derived.Deep.CutBlock
import Derived.Below
set_option linter.unusedVariables false
set_option linter.unusedSimpArgs false
namespace Go.Proofs.YtkemjdedikobfaaGreatDoor.WalkA
open Go Go.Proofs Go.RowKit Go.Proofs.YtkemjdedikobfaaGreatDoorW.PrintWords
set_option linter.unusedVariables false
set_option linter.unusedSimpArgs false
abbrev fm (c:Int) (A:Option Addr) (n k:Nat):Value:=.agg #[.int .i64 c,.slice A n k]
abbrev pt (g:Nat):Value:=.pointer (some ⟨g,0,none⟩)
def CB (w:World) (g:Nat) (c:Int) (A:Option Addr) (n k:Nat):Prop:=w.heap[g]?=some (.cells #[.int .i64 c,.slice A n k] 24 (0,0))
theorem CB.step {w w':World} {g n k:Nat} {c:Int} {A:Option Addr} (h:CB w g c A n k) (hb:Below w.heap.size w w'):CB w' g c A n k:=blk_below h hb
theorem CB.all {w:World} {g n k:Nat} {c:Int} {A:Option Addr} (h:CB w g c A n k):g < w.heap.size∧w.cell? ⟨g,0,none⟩=some (.int .i64 c)∧w.cell? ⟨g,1,none⟩=some (.slice A n k)∧w.frozen? ⟨g,0,none⟩=false∧w.frozen? ⟨g,1,none⟩=false :=
 ⟨blk_lt h,(blk_cell h 0).trans rfl,(blk_cell h 1).trans rfl,blk_frozen h 0,blk_frozen h 1⟩
structure Laws (F:Type) where
 FV0:World→Value→Prop
 FV:World→Value→F→Prop
 SumR:F→F→F→Int→Prop
 TimesR:F→Int→F→Int→Prop
 NormalR:F→F→Int→Prop
 Len:F→Prop
 Zero:F→Prop
 st0:∀ {w w' v},FV0 w v→Below w.heap.size w w'→FV0 w' v
 st:∀ {w w' v f},FV w v f→Below w.heap.size w w'→FV w' v f
 shape:∀ {w v f},FV w v f→∃ c A n k,v=fm c A n k
 slimV:∀ {w v},FV0 w v→∃ b,Calls Tryz.prog 5 #[v] w (fun e w' => e=.returned (.bool b)∧Below w.heap.size w w')∧(b=true→∃ f,FV w v f)
 sumV:∀ {w v f v' f'},FV w v f→FV w v' f'→∃ g e,SumR f f' g e∧Calls Tryz.prog 8 #[v,v'] w (fun en w' => ∃ vf,en=.returned (.tuple #[vf,.int .i64 e])∧FV w' vf g∧Below w.heap.size w w')
 timesV:∀ {w v f} (n:Int),FV w v f→∃ g e,TimesR f n g e∧Calls Tryz.prog 9 #[v,.int .i64 n] w (fun en w' => ∃ vf,en=.returned (.tuple #[vf,.int .i64 e])∧FV w' vf g∧Below w.heap.size w w')
 normalV:∀ {w v f},FV w v f→∃ g e,NormalR f g e∧Calls Tryz.prog 7 #[v] w (fun en w' => ∃ vf,en=.returned (.tuple #[vf,.int .i64 e])∧FV w' vf g∧Below w.heap.size w w')
 sameV:∀ {w va vb f},Len f→FV w va f→FV w vb f→Calls Tryz.prog 14 #[va,vb] w (fun en w' => en=.returned (.bool true)∧Below w.heap.size w w')
 zeroV:∀ {w c A n k f},FV w (fm c A n k) f→Zero f→c=0∧n=0
 lenS:∀ {a b g e},SumR a b g e→Len g
 lenT:∀ {a n g e},TimesR a n g e→Len g
 lenN:∀ {a g e},NormalR a g e→Len g
 comm:∀ {a b g e g' e'},SumR a b g e→SumR b a g' e'→g=g'∧e=e'
 assoc:∀ {a b c ab bc x y e g h i},SumR a b ab e→SumR b c bc g→SumR ab c x h→SumR a bc y i→e=0→g=0→h=0→i=0→x=y
 distr:∀ {a b ab na nb x y n e h i j k},SumR a b ab e→TimesR a n na h→TimesR b n nb i→SumR na nb x j→TimesR ab n y k→e=0→h=0→i=0→j=0→k=0→x=y
 twice:∀ {a na x y n m h j k},TimesR a n na h→TimesR na m x j→TimesR a (wrap64 (n * m)) y k→(-1000 ≤ m)→(m ≤ 1000)→(-1000000 ≤ n)→(n ≤ 1000000)→h=0→j=0→k=0→x=y
 again:∀ {a x y j k},NormalR a x j→NormalR x y k→j=0→k=0∧x=y
 naught:∀ {a g z},TimesR a 0 g z→z=0→Zero g
 sane:∀ w,6 ≤ w.heap.size→Calls Tryz.prog 6 #[] w fun e w' => e=.returned (.bool true)∧Below w.heap.size w w'
theorem boxes3 (w:World) (c1 c2 c3:Int) (A1 A2 A3:Option Addr) (n1 n2 n3 k1 k2 k3:Nat):∃ g5 g6 g7,pt w.heap.size=pt g5∧pt (w.heap.size + 1)=pt g6∧pt (w.heap.size + 1 + 1)=pt g7 ∧
  CB (((w.alloc (.cells #[.int .i64 c1,.slice A1 n1 k1] 24)).alloc (.cells #[.int .i64 c2,.slice A2 n2 k2] 24)).alloc (.cells #[.int .i64 c3,.slice A3 n3 k3] 24)) g5 c1 A1 n1 k1 ∧
  CB (((w.alloc (.cells #[.int .i64 c1,.slice A1 n1 k1] 24)).alloc (.cells #[.int .i64 c2,.slice A2 n2 k2] 24)).alloc (.cells #[.int .i64 c3,.slice A3 n3 k3] 24)) g6 c2 A2 n2 k2 ∧
  CB (((w.alloc (.cells #[.int .i64 c1,.slice A1 n1 k1] 24)).alloc (.cells #[.int .i64 c2,.slice A2 n2 k2] 24)).alloc (.cells #[.int .i64 c3,.slice A3 n3 k3] 24)) g7 c3 A3 n3 k3 ∧
  Below w.heap.size w (((w.alloc (.cells #[.int .i64 c1,.slice A1 n1 k1] 24)).alloc (.cells #[.int .i64 c2,.slice A2 n2 k2] 24)).alloc (.cells #[.int .i64 c3,.slice A3 n3 k3] 24)):=by
 have a1:∀ (w:World) (c:Int) (A:Option Addr) (n k:Nat),CB (w.alloc (.cells #[.int .i64 c,.slice A n k] 24)) w.heap.size c A n k:=fun w c A n k => blk_new w _
 have b1:∀ (w:World) (o:Obj),Below w.heap.size w (w.alloc o):=fun w o => (Below.refl _ w).alloc (Nat.le_refl _) o
 refine ⟨_,_,_,rfl,rfl,rfl,CB.step (CB.step (a1 _ _ _ _ _) (b1 _ _)) (b1 _ _),?_,?_,?_⟩
 ·
  have:=a1 (w.alloc (.cells #[.int .i64 c1,.slice A1 n1 k1] 24)) c2 A2 n2 k2
  have e:(w.alloc (.cells #[.int .i64 c1,.slice A1 n1 k1] 24)).heap.size=w.heap.size + 1:=by simp
  rw [e] at this
  exact this.step (b1 _ _)
 ·
  have:=a1 ((w.alloc (.cells #[.int .i64 c1,.slice A1 n1 k1] 24)).alloc (.cells #[.int .i64 c2,.slice A2 n2 k2] 24)) c3 A3 n3 k3
  have e:((w.alloc (.cells #[.int .i64 c1,.slice A1 n1 k1] 24)).alloc (.cells #[.int .i64 c2,.slice A2 n2 k2] 24)).heap.size=w.heap.size + 1 + 1:=by simp
  rw [e] at this
  exact this
 ·
  exact ((b1 w _).trans ((b1 (w.alloc _) _).mono (b1 w _).size)).trans ((b1 ((w.alloc _).alloc _) _).mono (Nat.le_trans (b1 w _).size (b1 (w.alloc _) _).size))
set_option maxHeartbeats 64000000 in
set_option maxRecDepth 100000 in
theorem walk {F:Type} (L:Laws F) (c1 c2 c3 n m:Int) (A1 A2 A3:Option Addr) (n1 n2 n3 k1 k2 k3:Nat) (w:World) (hw:6 ≤ w.heap.size)
  (H1:L.FV0 w (fm c1 A1 n1 k1)) (H2:L.FV0 w (fm c2 A2 n2 k2)) (H3:L.FV0 w (fm c3 A3 n3 k3)) :
  Calls Tryz.prog 4 #[fm c1 A1 n1 k1,fm c2 A2 n2 k2,fm c3 A3 n3 k3,.int .i64 n,.int .i64 m] w fun e w' => e=.returned (.bool true)∧Below w.heap.size w w':=by
 go_enter Tryz.func4,Tryz.ntmps4
 go_upto_region 0 with fail
 go_cut [5,6,7] from 39 to 39 (fun s5 s6 s7 wc => ∃ g5 g6 g7,s5=pt g5∧s6=pt g6∧s7=pt g7∧CB wc g5 c1 A1 n1 k1∧CB wc g6 c2 A2 n2 k2∧CB wc g7 c3 A3 n3 k3∧Below w.heap.size w wc)
 case first =>
  go_wp2_with fail
  go_meet
  case rel =>
   exact boxes3 w _ _ _ _ _ _ _ _ _ _ _ _
 case rest =>
  obtain ⟨g5,g6,g7,rfl,rfl,rfl,B5,B6,B7,HW⟩:=hcut
  replace H1:=L.st0 H1 HW
  replace H2:=L.st0 H2 HW
  replace H3:=L.st0 H3 HW
  have hz:6 ≤ wc.heap.size:=Nat.le_trans hw HW.size
  go_upto_region 1 with fail
  go_cut [51] from 39 to 51 (fun s51 wx => ∃ b:Bool,s51=.bool b∧(b=false→(∃ f,L.FV wx (fm c1 A1 n1 k1) f)∧(∃ f,L.FV wx (fm c2 A2 n2 k2) f)∧(∃ f,L.FV wx (fm c3 A3 n3 k3) f))∧Below wc.heap.size wc wx)
  case first =>
   have HB:=Below.refl wc.heap.size wc
   obtain ⟨lt5,p5_0,p5_1,z5_0,z5_1⟩:=B5.all
   obtain ⟨lt6,p6_0,p6_1,z6_0,z6_1⟩:=B6.all
   obtain ⟨lt7,p7_0,p7_1,z7_0,z7_1⟩:=B7.all
   have T1:True:=trivial
   have T2:True:=trivial
   go_wp2_with (first
    | (go_at_call 5;obtain ⟨b,S,T⟩:=L.slimV H1;(with_reducible refine S.mono ?_);rintro e w1 ⟨rfl,hb⟩;replace H1:=L.st0 H1 hb;replace H2:=L.st0 H2 hb;replace H3:=L.st0 H3 hb;replace B5:=B5.step hb;replace B6:=B6.step hb;replace B7:=B7.step hb;replace HB:=HB.trans (hb.mono HB.size);clear lt5 lt6 lt7 p5_0 p5_1 z5_0 z5_1 p6_0 p6_1 z6_0 z6_1 p7_0 p7_1 z7_0 z7_1;obtain ⟨lt5,p5_0,p5_1,z5_0,z5_1⟩:=B5.all;obtain ⟨lt6,p6_0,p6_1,z6_0,z6_1⟩:=B6.all;obtain ⟨lt7,p7_0,p7_1,z7_0,z7_1⟩:=B7.all;clear T1;have T1:b=true→∃ f,L.FV w1 (fm c1 A1 n1 k1) f:=fun h => (T h).imp fun f hf => L.st hf hb;clear S T hb)
    | (go_at_call 5;obtain ⟨b,S,T⟩:=L.slimV H2;(with_reducible refine S.mono ?_);rintro e w1 ⟨rfl,hb⟩;replace H1:=L.st0 H1 hb;replace H2:=L.st0 H2 hb;replace H3:=L.st0 H3 hb;replace B5:=B5.step hb;replace B6:=B6.step hb;replace B7:=B7.step hb;replace HB:=HB.trans (hb.mono HB.size);clear lt5 lt6 lt7 p5_0 p5_1 z5_0 z5_1 p6_0 p6_1 z6_0 z6_1 p7_0 p7_1 z7_0 z7_1;obtain ⟨lt5,p5_0,p5_1,z5_0,z5_1⟩:=B5.all;obtain ⟨lt6,p6_0,p6_1,z6_0,z6_1⟩:=B6.all;obtain ⟨lt7,p7_0,p7_1,z7_0,z7_1⟩:=B7.all;replace T1:_=true→∃ f,L.FV w1 (fm c1 A1 n1 k1) f:=fun h => (T1 h).imp fun f hf => L.st hf hb;clear T2;have T2:b=true→∃ f,L.FV w1 (fm c2 A2 n2 k2) f:=fun h => (T h).imp fun f hf => L.st hf hb;clear S T hb)
    | (go_at_call 5;obtain ⟨b,S,T⟩:=L.slimV H3;(with_reducible refine S.mono ?_);rintro e w1 ⟨rfl,hb⟩;replace H1:=L.st0 H1 hb;replace H2:=L.st0 H2 hb;replace H3:=L.st0 H3 hb;replace B5:=B5.step hb;replace B6:=B6.step hb;replace B7:=B7.step hb;replace HB:=HB.trans (hb.mono HB.size);clear lt5 lt6 lt7 p5_0 p5_1 z5_0 z5_1 p6_0 p6_1 z6_0 z6_1 p7_0 p7_1 z7_0 z7_1;obtain ⟨lt5,p5_0,p5_1,z5_0,z5_1⟩:=B5.all;obtain ⟨lt6,p6_0,p6_1,z6_0,z6_1⟩:=B6.all;obtain ⟨lt7,p7_0,p7_1,z7_0,z7_1⟩:=B7.all;replace T1:_=true→∃ f,L.FV w1 (fm c1 A1 n1 k1) f:=fun h => (T1 h).imp fun f hf => L.st hf hb;replace T2:_=true→∃ f,L.FV w1 (fm c2 A2 n2 k2) f:=fun h => (T2 h).imp fun f hf => L.st hf hb;have T3:b=true→∃ f,L.FV w1 (fm c3 A3 n3 k3) f:=fun h => (T h).imp fun f hf => L.st hf hb;clear S T hb)
    | go_in)
   all_goals
    go_meet
    case rel =>
     refine ⟨_,rfl,fun h => ?_,HB⟩
     first | exact absurd h (by decide) | exact ⟨T1 (by assumption),T2 (by assumption),T3 (by simpa using h)⟩
  case rest =>
   obtain ⟨b,rfl,HF,hb⟩:=hcut
   replace B5:=B5.step hb
   replace B6:=B6.step hb
   replace B7:=B7.step hb
   replace HW:=HW.trans (hb.mono HW.size)
   replace hz:=Nat.le_trans hz hb.size
   clear H1 H2 H3 hb
   cases b
   case true =>
    go_wp2_with (first | (go_at_call 6;refine (L.sane _ hz).mono ?_;rintro e w2 ⟨rfl,hb⟩) | go_in)
    go_ret
    exact ⟨rfl,HW.trans (hb.mono HW.size)⟩
   case false =>
    obtain ⟨⟨f5,V5⟩,⟨f6,V6⟩,⟨f7,V7⟩⟩:=HF rfl
    go_upto_region 3 with fail
    go_cut [11,12] from 53 to 58 (fun s11 s12 wx => ∃ (g:Nat) (c:Int) (A:Option Addr) (n_ k_:Nat) (f:F) (e:Int),s11=pt g∧s12=.int .i64 e∧L.SumR f5 f6 f e∧CB wx g c A n_ k_∧L.FV wx (fm c A n_ k_) f∧Below wc.heap.size wc wx)
    case first =>
     obtain ⟨lt5,p5_0,p5_1,z5_0,z5_1⟩:=B5.all
     obtain ⟨lt6,p6_0,p6_1,z6_0,z6_1⟩:=B6.all
     obtain ⟨f,e,hR,hC⟩:=L.sumV V5 V6
     go_wp2_with (first | (go_at_call 8;(with_reducible refine hC.mono ?_);rintro en w2 ⟨vf,rfl,hF,hb⟩;obtain ⟨c,A,n_,k_,rfl⟩:=L.shape hF) | go_in)
     go_meet
     case rel =>
      exact ⟨_,_,_,_,_,_,_,rfl,rfl,hR,blk_new w2 _,L.st hF ((Below.refl _ _).alloc (Nat.le_refl _) _),hb.trans ((Below.refl _ w2).alloc hb.size _)⟩
    obtain ⟨g11,c11,A11,n11,k11,f11,e11,rfl,rfl,R11,NB,NV,hb⟩:=hcut
    replace B5:=B5.step hb;replace V5:=L.st V5 hb;replace B6:=B6.step hb;replace V6:=L.st V6 hb;replace B7:=B7.step hb;replace V7:=L.st V7 hb
    have B11:=NB;have V11:=NV;clear NB NV
    replace HW:=HW.trans (hb.mono HW.size);replace hz:=Nat.le_trans hz hb.size;clear hb
    go_upto_region 4 with fail
    go_cut [13,14] from 59 to 64 (fun s13 s14 wx => ∃ (g:Nat) (c:Int) (A:Option Addr) (n_ k_:Nat) (f:F) (e:Int),s13=pt g∧s14=.int .i64 e∧L.SumR f6 f5 f e∧CB wx g c A n_ k_∧L.FV wx (fm c A n_ k_) f∧Below wc.heap.size wc wx)
    case first =>
     obtain ⟨lt5,p5_0,p5_1,z5_0,z5_1⟩:=B5.all
     obtain ⟨lt6,p6_0,p6_1,z6_0,z6_1⟩:=B6.all
     obtain ⟨f,e,hR,hC⟩:=L.sumV V6 V5
     go_wp2_with (first | (go_at_call 8;(with_reducible refine hC.mono ?_);rintro en w2 ⟨vf,rfl,hF,hb⟩;obtain ⟨c,A,n_,k_,rfl⟩:=L.shape hF) | go_in)
     go_meet
     case rel =>
      exact ⟨_,_,_,_,_,_,_,rfl,rfl,hR,blk_new w2 _,L.st hF ((Below.refl _ _).alloc (Nat.le_refl _) _),hb.trans ((Below.refl _ w2).alloc hb.size _)⟩
    obtain ⟨g13,c13,A13,n13,k13,f13,e13,rfl,rfl,R13,NB,NV,hb⟩:=hcut
    replace B5:=B5.step hb;replace V5:=L.st V5 hb;replace B6:=B6.step hb;replace V6:=L.st V6 hb;replace B7:=B7.step hb;replace V7:=L.st V7 hb;replace B11:=B11.step hb;replace V11:=L.st V11 hb
    have B13:=NB;have V13:=NV;clear NB NV
    replace HW:=HW.trans (hb.mono HW.size);replace hz:=Nat.le_trans hz hb.size;clear hb
    go_upto_region 5 with fail
    go_cut [73] from 65 to 73 (fun  s wx => s=.bool false∧Below wc.heap.size wc wx)
    case first =>
     obtain ⟨lt11,p11_0,p11_1,z11_0,z11_1⟩:=B11.all
     obtain ⟨lt13,p13_0,p13_1,z13_0,z13_1⟩:=B13.all
     obtain ⟨hf,he⟩:=L.comm R11 R13;subst hf;subst he;have HL:=L.lenS R11
     go_wp2_with (first | (go_at_call 14;(with_reducible refine (L.sameV HL V11 V13).mono ?_);rintro en w2 ⟨rfl,hb⟩) | go_in)
     go_meet
     case rel => exact ⟨rfl,hb⟩
    obtain ⟨rfl,hb⟩:=hcut
    replace B5:=B5.step hb;replace V5:=L.st V5 hb;replace B6:=B6.step hb;replace V6:=L.st V6 hb;replace B7:=B7.step hb;replace V7:=L.st V7 hb;replace B11:=B11.step hb;replace V11:=L.st V11 hb;replace B13:=B13.step hb;replace V13:=L.st V13 hb
    replace HW:=HW.trans (hb.mono HW.size);replace hz:=Nat.le_trans hz hb.size;clear hb
    go_upto_region 7 with fail
    go_cut [15,16] from 74 to 79 (fun s15 s16 wx => ∃ (g:Nat) (c:Int) (A:Option Addr) (n_ k_:Nat) (f:F) (e:Int),s15=pt g∧s16=.int .i64 e∧L.SumR f6 f7 f e∧CB wx g c A n_ k_∧L.FV wx (fm c A n_ k_) f∧Below wc.heap.size wc wx)
    case first =>
     obtain ⟨lt6,p6_0,p6_1,z6_0,z6_1⟩:=B6.all
     obtain ⟨lt7,p7_0,p7_1,z7_0,z7_1⟩:=B7.all
     obtain ⟨f,e,hR,hC⟩:=L.sumV V6 V7
     go_wp2_with (first | (go_at_call 8;(with_reducible refine hC.mono ?_);rintro en w2 ⟨vf,rfl,hF,hb⟩;obtain ⟨c,A,n_,k_,rfl⟩:=L.shape hF) | go_in)
     go_meet
     case rel =>
      exact ⟨_,_,_,_,_,_,_,rfl,rfl,hR,blk_new w2 _,L.st hF ((Below.refl _ _).alloc (Nat.le_refl _) _),hb.trans ((Below.refl _ w2).alloc hb.size _)⟩
    obtain ⟨g15,c15,A15,n15,k15,f15,e15,rfl,rfl,R15,NB,NV,hb⟩:=hcut
    replace B5:=B5.step hb;replace V5:=L.st V5 hb;replace B6:=B6.step hb;replace V6:=L.st V6 hb;replace B7:=B7.step hb;replace V7:=L.st V7 hb;replace B11:=B11.step hb;replace V11:=L.st V11 hb
    have B15:=NB;have V15:=NV;clear NB NV
    replace HW:=HW.trans (hb.mono HW.size);replace hz:=Nat.le_trans hz hb.size;clear hb
    go_upto_region 8 with fail
    go_cut [12,16,85] from 80 to 85 (fun t12 t16 s wx => ∃ b:Bool,s=.bool b∧Aside0 (b=true→e11=0∧e15=0)∧t12=.int .i64 e11∧t16=.int .i64 e15∧Below wc.heap.size wc wx)
    case first =>
     go_wp2_with fail
     all_goals
      go_meet
      case rel => exact ⟨_,rfl,⟨fun h => (by first | exact absurd h (by decide) | (simp at h;simp_all) | (simp at h;omega))⟩,(by first | rfl | simp [*]),(by first | rfl | simp [*]),Below.refl _ _⟩
    obtain ⟨b,rfl,hcond,rfl,rfl,hb⟩:=hcut
    replace B5:=B5.step hb;replace V5:=L.st V5 hb;replace B6:=B6.step hb;replace V6:=L.st V6 hb;replace B7:=B7.step hb;replace V7:=L.st V7 hb;replace B11:=B11.step hb;replace V11:=L.st V11 hb;replace B15:=B15.step hb;replace V15:=L.st V15 hb
    replace HW:=HW.trans (hb.mono HW.size);replace hz:=Nat.le_trans hz hb.size;clear hb
    go_upto_if 85 with fail
    go_cut [] from 86 to 109 (fun wx => Below wc.heap.size wc wx)
    case first =>
     cases b
     case false =>
      go_wp2_with fail
      go_meet
      case rel => exact Below.refl _ _
     case true =>
      have HS:=Below.refl wc.heap.size wc
      go_upto_region 9 with fail
      go_cut [17,18] from 86 to 91 (fun s17 s18 wx => ∃ (g:Nat) (c:Int) (A:Option Addr) (n_ k_:Nat) (f:F) (e:Int),s17=pt g∧s18=.int .i64 e∧L.SumR f11 f7 f e∧CB wx g c A n_ k_∧L.FV wx (fm c A n_ k_) f∧Below wc.heap.size wc wx)
      case first =>
       obtain ⟨lt7,p7_0,p7_1,z7_0,z7_1⟩:=B7.all
       obtain ⟨lt11,p11_0,p11_1,z11_0,z11_1⟩:=B11.all
       obtain ⟨f,e,hR,hC⟩:=L.sumV V11 V7
       go_wp2_with (first | (go_at_call 8;(with_reducible refine hC.mono ?_);rintro en w2 ⟨vf,rfl,hF,hb⟩;obtain ⟨c,A,n_,k_,rfl⟩:=L.shape hF) | go_in)
       go_meet
       case rel =>
        exact ⟨_,_,_,_,_,_,_,rfl,rfl,hR,blk_new w2 _,L.st hF ((Below.refl _ _).alloc (Nat.le_refl _) _),hb.trans ((Below.refl _ w2).alloc hb.size _)⟩
      obtain ⟨g17,c17,A17,n17,k17,f17,e17,rfl,rfl,R17,NB,NV,hb⟩:=hcut
      replace B5:=B5.step hb;replace V5:=L.st V5 hb;replace B6:=B6.step hb;replace V6:=L.st V6 hb;replace B7:=B7.step hb;replace V7:=L.st V7 hb;replace B11:=B11.step hb;replace V11:=L.st V11 hb;replace B15:=B15.step hb;replace V15:=L.st V15 hb
      have B17:=NB;have V17:=NV;clear NB NV
      replace HS:=HS.trans (hb.mono HS.size);replace HW:=HW.trans (hb.mono HW.size);replace hz:=Nat.le_trans hz hb.size;clear hb
      go_upto_region 10 with fail
      go_cut [19,20] from 92 to 97 (fun s19 s20 wx => ∃ (g:Nat) (c:Int) (A:Option Addr) (n_ k_:Nat) (f:F) (e:Int),s19=pt g∧s20=.int .i64 e∧L.SumR f5 f15 f e∧CB wx g c A n_ k_∧L.FV wx (fm c A n_ k_) f∧Below wc.heap.size wc wx)
      case first =>
       obtain ⟨lt5,p5_0,p5_1,z5_0,z5_1⟩:=B5.all
       obtain ⟨lt15,p15_0,p15_1,z15_0,z15_1⟩:=B15.all
       obtain ⟨f,e,hR,hC⟩:=L.sumV V5 V15
       go_wp2_with (first | (go_at_call 8;(with_reducible refine hC.mono ?_);rintro en w2 ⟨vf,rfl,hF,hb⟩;obtain ⟨c,A,n_,k_,rfl⟩:=L.shape hF) | go_in)
       go_meet
       case rel =>
        exact ⟨_,_,_,_,_,_,_,rfl,rfl,hR,blk_new w2 _,L.st hF ((Below.refl _ _).alloc (Nat.le_refl _) _),hb.trans ((Below.refl _ w2).alloc hb.size _)⟩
      obtain ⟨g19,c19,A19,n19,k19,f19,e19,rfl,rfl,R19,NB,NV,hb⟩:=hcut
      replace B5:=B5.step hb;replace V5:=L.st V5 hb;replace B6:=B6.step hb;replace V6:=L.st V6 hb;replace B7:=B7.step hb;replace V7:=L.st V7 hb;replace B11:=B11.step hb;replace V11:=L.st V11 hb;replace B15:=B15.step hb;replace V15:=L.st V15 hb;replace B17:=B17.step hb;replace V17:=L.st V17 hb
      have B19:=NB;have V19:=NV;clear NB NV
      replace HS:=HS.trans (hb.mono HS.size);replace HW:=HW.trans (hb.mono HW.size);replace hz:=Nat.le_trans hz hb.size;clear hb
      go_upto_region 11 with fail
      go_cut [18,20,109] from 98 to 109 (fun t18 t20 s wx => s=.bool false∧t18=.int .i64 e17∧t20=.int .i64 e19∧Below wc.heap.size wc wx)
      case first =>
       obtain ⟨lt17,p17_0,p17_1,z17_0,z17_1⟩:=B17.all
       obtain ⟨lt19,p19_0,p19_1,z19_0,z19_1⟩:=B19.all
       by_cases h:e17=0∧e19=0
       ·
        obtain ⟨he1,he2⟩:=h;have hf:=L.assoc R11 R15 R17 R19 (hcond.out rfl).1 (hcond.out rfl).2 he1 he2;subst he1;subst he2;subst hf;have HL:=L.lenS R17
        go_wp2_with (first | (go_at_call 14;(with_reducible refine (L.sameV HL V17 V19).mono ?_);rintro en w2 ⟨rfl,hb⟩) | go_in)
        go_meet
        case rel => exact ⟨rfl,(by first | rfl | simp [*]),(by first | rfl | simp [*]),hb⟩
       ·
        go_wp2_with (first | (go_at_call 14;exact absurd ⟨by assumption,by assumption⟩ h) | go_in)
        all_goals
         go_meet
         case rel => exact ⟨rfl,(by first | rfl | simp [*]),(by first | rfl | simp [*]),Below.refl _ _⟩
      obtain ⟨rfl,rfl,rfl,hb⟩:=hcut
      replace B5:=B5.step hb;replace V5:=L.st V5 hb;replace B6:=B6.step hb;replace V6:=L.st V6 hb;replace B7:=B7.step hb;replace V7:=L.st V7 hb;replace B11:=B11.step hb;replace V11:=L.st V11 hb;replace B15:=B15.step hb;replace V15:=L.st V15 hb;replace B17:=B17.step hb;replace V17:=L.st V17 hb;replace B19:=B19.step hb;replace V19:=L.st V19 hb
      replace HW:=HW.trans (hb.mono HW.size);replace hz:=Nat.le_trans hz hb.size;replace HS:=HS.trans (hb.mono HS.size);clear hb
      go_wp2_with fail
      go_meet
      case rel => exact HS
    have hb:=hcut
    replace B5:=B5.step hb;replace V5:=L.st V5 hb;replace B6:=B6.step hb;replace V6:=L.st V6 hb;replace B7:=B7.step hb;replace V7:=L.st V7 hb;replace B11:=B11.step hb;replace V11:=L.st V11 hb;replace B15:=B15.step hb;replace V15:=L.st V15 hb
    replace HW:=HW.trans (hb.mono HW.size);replace hz:=Nat.le_trans hz hb.size;clear hb
    go_upto_region 13 with fail
    go_cut [21,22] from 110 to 115 (fun s21 s22 wx => ∃ (g:Nat) (c:Int) (A:Option Addr) (n_ k_:Nat) (f:F) (e:Int),s21=pt g∧s22=.int .i64 e∧L.TimesR f5 n f e∧CB wx g c A n_ k_∧L.FV wx (fm c A n_ k_) f∧Below wc.heap.size wc wx)
    case first =>
     obtain ⟨lt5,p5_0,p5_1,z5_0,z5_1⟩:=B5.all
     obtain ⟨f,e,hR,hC⟩:=L.timesV n V5
     go_wp2_with (first | (go_at_call 9;(with_reducible refine hC.mono ?_);rintro en w2 ⟨vf,rfl,hF,hb⟩;obtain ⟨c,A,n_,k_,rfl⟩:=L.shape hF) | go_in)
     go_meet
     case rel =>
      exact ⟨_,_,_,_,_,_,_,rfl,rfl,hR,blk_new w2 _,L.st hF ((Below.refl _ _).alloc (Nat.le_refl _) _),hb.trans ((Below.refl _ w2).alloc hb.size _)⟩
    obtain ⟨g21,c21,A21,n21,k21,f21,e21,rfl,rfl,R21,NB,NV,hb⟩:=hcut
    replace B5:=B5.step hb;replace V5:=L.st V5 hb;replace B6:=B6.step hb;replace V6:=L.st V6 hb;replace B11:=B11.step hb;replace V11:=L.st V11 hb
    have B21:=NB;have V21:=NV;clear NB NV
    replace HW:=HW.trans (hb.mono HW.size);replace hz:=Nat.le_trans hz hb.size;clear hb
    go_upto_region 14 with fail
    go_cut [23,24] from 116 to 121 (fun s23 s24 wx => ∃ (g:Nat) (c:Int) (A:Option Addr) (n_ k_:Nat) (f:F) (e:Int),s23=pt g∧s24=.int .i64 e∧L.TimesR f6 n f e∧CB wx g c A n_ k_∧L.FV wx (fm c A n_ k_) f∧Below wc.heap.size wc wx)
    case first =>
     obtain ⟨lt6,p6_0,p6_1,z6_0,z6_1⟩:=B6.all
     obtain ⟨f,e,hR,hC⟩:=L.timesV n V6
     go_wp2_with (first | (go_at_call 9;(with_reducible refine hC.mono ?_);rintro en w2 ⟨vf,rfl,hF,hb⟩;obtain ⟨c,A,n_,k_,rfl⟩:=L.shape hF) | go_in)
     go_meet
     case rel =>
      exact ⟨_,_,_,_,_,_,_,rfl,rfl,hR,blk_new w2 _,L.st hF ((Below.refl _ _).alloc (Nat.le_refl _) _),hb.trans ((Below.refl _ w2).alloc hb.size _)⟩
    obtain ⟨g23,c23,A23,n23,k23,f23,e23,rfl,rfl,R23,NB,NV,hb⟩:=hcut
    replace B5:=B5.step hb;replace V5:=L.st V5 hb;replace B6:=B6.step hb;replace V6:=L.st V6 hb;replace B11:=B11.step hb;replace V11:=L.st V11 hb;replace B21:=B21.step hb;replace V21:=L.st V21 hb
    have B23:=NB;have V23:=NV;clear NB NV
    replace HW:=HW.trans (hb.mono HW.size);replace hz:=Nat.le_trans hz hb.size;clear hb
    go_upto_region 15 with fail
    go_cut [12,22,24,131] from 122 to 131 (fun t12 t22 t24 s wx => ∃ b:Bool,s=.bool b∧Aside0 (b=true→e11=0∧e21=0∧e23=0)∧t12=.int .i64 e11∧t22=.int .i64 e21∧t24=.int .i64 e23∧Below wc.heap.size wc wx)
    case first =>
     go_wp2_with fail
     all_goals
      go_meet
      case rel => exact ⟨_,rfl,⟨fun h => (by first | exact absurd h (by decide) | (simp at h;simp_all) | (simp at h;omega))⟩,(by first | rfl | simp [*]),(by first | rfl | simp [*]),(by first | rfl | simp [*]),Below.refl _ _⟩
    obtain ⟨b,rfl,hcond,rfl,rfl,rfl,hb⟩:=hcut
    replace B5:=B5.step hb;replace V5:=L.st V5 hb;replace B6:=B6.step hb;replace V6:=L.st V6 hb;replace B11:=B11.step hb;replace V11:=L.st V11 hb;replace B21:=B21.step hb;replace V21:=L.st V21 hb;replace B23:=B23.step hb;replace V23:=L.st V23 hb
    replace HW:=HW.trans (hb.mono HW.size);replace hz:=Nat.le_trans hz hb.size;clear hb
    go_upto_if 131 with fail
    go_cut [] from 132 to 155 (fun wx => Below wc.heap.size wc wx)
    case first =>
     cases b
     case false =>
      go_wp2_with fail
      go_meet
      case rel => exact Below.refl _ _
     case true =>
      have HS:=Below.refl wc.heap.size wc
      go_upto_region 16 with fail
      go_cut [25,26] from 132 to 137 (fun s25 s26 wx => ∃ (g:Nat) (c:Int) (A:Option Addr) (n_ k_:Nat) (f:F) (e:Int),s25=pt g∧s26=.int .i64 e∧L.SumR f21 f23 f e∧CB wx g c A n_ k_∧L.FV wx (fm c A n_ k_) f∧Below wc.heap.size wc wx)
      case first =>
       obtain ⟨lt21,p21_0,p21_1,z21_0,z21_1⟩:=B21.all
       obtain ⟨lt23,p23_0,p23_1,z23_0,z23_1⟩:=B23.all
       obtain ⟨f,e,hR,hC⟩:=L.sumV V21 V23
       go_wp2_with (first | (go_at_call 8;(with_reducible refine hC.mono ?_);rintro en w2 ⟨vf,rfl,hF,hb⟩;obtain ⟨c,A,n_,k_,rfl⟩:=L.shape hF) | go_in)
       go_meet
       case rel =>
        exact ⟨_,_,_,_,_,_,_,rfl,rfl,hR,blk_new w2 _,L.st hF ((Below.refl _ _).alloc (Nat.le_refl _) _),hb.trans ((Below.refl _ w2).alloc hb.size _)⟩
      obtain ⟨g25,c25,A25,n25,k25,f25,e25,rfl,rfl,R25,NB,NV,hb⟩:=hcut
      replace B5:=B5.step hb;replace V5:=L.st V5 hb;replace B6:=B6.step hb;replace V6:=L.st V6 hb;replace B11:=B11.step hb;replace V11:=L.st V11 hb;replace B21:=B21.step hb;replace V21:=L.st V21 hb;replace B23:=B23.step hb;replace V23:=L.st V23 hb
      have B25:=NB;have V25:=NV;clear NB NV
      replace HS:=HS.trans (hb.mono HS.size);replace HW:=HW.trans (hb.mono HW.size);replace hz:=Nat.le_trans hz hb.size;clear hb
      go_upto_region 17 with fail
      go_cut [27,28] from 138 to 143 (fun s27 s28 wx => ∃ (g:Nat) (c:Int) (A:Option Addr) (n_ k_:Nat) (f:F) (e:Int),s27=pt g∧s28=.int .i64 e∧L.TimesR f11 n f e∧CB wx g c A n_ k_∧L.FV wx (fm c A n_ k_) f∧Below wc.heap.size wc wx)
      case first =>
       obtain ⟨lt11,p11_0,p11_1,z11_0,z11_1⟩:=B11.all
       obtain ⟨f,e,hR,hC⟩:=L.timesV n V11
       go_wp2_with (first | (go_at_call 9;(with_reducible refine hC.mono ?_);rintro en w2 ⟨vf,rfl,hF,hb⟩;obtain ⟨c,A,n_,k_,rfl⟩:=L.shape hF) | go_in)
       go_meet
       case rel =>
        exact ⟨_,_,_,_,_,_,_,rfl,rfl,hR,blk_new w2 _,L.st hF ((Below.refl _ _).alloc (Nat.le_refl _) _),hb.trans ((Below.refl _ w2).alloc hb.size _)⟩
      obtain ⟨g27,c27,A27,n27,k27,f27,e27,rfl,rfl,R27,NB,NV,hb⟩:=hcut
      replace B5:=B5.step hb;replace V5:=L.st V5 hb;replace B6:=B6.step hb;replace V6:=L.st V6 hb;replace B11:=B11.step hb;replace V11:=L.st V11 hb;replace B21:=B21.step hb;replace V21:=L.st V21 hb;replace B23:=B23.step hb;replace V23:=L.st V23 hb;replace B25:=B25.step hb;replace V25:=L.st V25 hb
      have B27:=NB;have V27:=NV;clear NB NV
      replace HS:=HS.trans (hb.mono HS.size);replace HW:=HW.trans (hb.mono HW.size);replace hz:=Nat.le_trans hz hb.size;clear hb
      go_upto_region 18 with fail
      go_cut [26,28,155] from 144 to 155 (fun t26 t28 s wx => s=.bool false∧t26=.int .i64 e25∧t28=.int .i64 e27∧Below wc.heap.size wc wx)
      case first =>
       obtain ⟨lt25,p25_0,p25_1,z25_0,z25_1⟩:=B25.all
       obtain ⟨lt27,p27_0,p27_1,z27_0,z27_1⟩:=B27.all
       by_cases h:e25=0∧e27=0
       ·
        obtain ⟨he1,he2⟩:=h;have hf:=L.distr R11 R21 R23 R25 R27 (hcond.out rfl).1 (hcond.out rfl).2.1 (hcond.out rfl).2.2 he1 he2;subst he1;subst he2;subst hf;have HL:=L.lenS R25
        go_wp2_with (first | (go_at_call 14;(with_reducible refine (L.sameV HL V25 V27).mono ?_);rintro en w2 ⟨rfl,hb⟩) | go_in)
        go_meet
        case rel => exact ⟨rfl,(by first | rfl | simp [*]),(by first | rfl | simp [*]),hb⟩
       ·
        go_wp2_with (first | (go_at_call 14;exact absurd ⟨by assumption,by assumption⟩ h) | go_in)
        all_goals
         go_meet
         case rel => exact ⟨rfl,(by first | rfl | simp [*]),(by first | rfl | simp [*]),Below.refl _ _⟩
      obtain ⟨rfl,rfl,rfl,hb⟩:=hcut
      replace B5:=B5.step hb;replace V5:=L.st V5 hb;replace B6:=B6.step hb;replace V6:=L.st V6 hb;replace B11:=B11.step hb;replace V11:=L.st V11 hb;replace B21:=B21.step hb;replace V21:=L.st V21 hb;replace B23:=B23.step hb;replace V23:=L.st V23 hb;replace B25:=B25.step hb;replace V25:=L.st V25 hb;replace B27:=B27.step hb;replace V27:=L.st V27 hb
      replace HW:=HW.trans (hb.mono HW.size);replace hz:=Nat.le_trans hz hb.size;replace HS:=HS.trans (hb.mono HS.size);clear hb
      go_wp2_with fail
      go_meet
      case rel => exact HS
    have hb:=hcut
    replace B5:=B5.step hb;replace V5:=L.st V5 hb;replace B6:=B6.step hb;replace V6:=L.st V6 hb;replace B11:=B11.step hb;replace V11:=L.st V11 hb;replace B21:=B21.step hb;replace V21:=L.st V21 hb;replace B23:=B23.step hb;replace V23:=L.st V23 hb
    replace HW:=HW.trans (hb.mono HW.size);replace hz:=Nat.le_trans hz hb.size;clear hb
    go_upto_region 20 with fail
    go_cut [22,173] from 156 to 173 (fun t22 s wx => ∃ b:Bool,s=.bool b∧Aside0 (b=true→e21=0∧-1000 ≤ m∧m ≤ 1000∧-1000000 ≤ n∧n ≤ 1000000)∧t22=.int .i64 e21∧Below wc.heap.size wc wx)
    case first =>
     go_wp2_with fail
     all_goals
      go_meet
      case rel => exact ⟨_,rfl,⟨fun h => (by first | exact absurd h (by decide) | (simp at h;simp_all) | (simp at h;omega))⟩,(by first | rfl | simp [*]),Below.refl _ _⟩
    obtain ⟨b,rfl,hcond,rfl,hb⟩:=hcut
    replace B5:=B5.step hb;replace V5:=L.st V5 hb;replace B21:=B21.step hb;replace V21:=L.st V21 hb
    replace HW:=HW.trans (hb.mono HW.size);replace hz:=Nat.le_trans hz hb.size;clear hb
    go_upto_if 173 with fail
    go_cut [] from 174 to 199 (fun wx => Below wc.heap.size wc wx)
    case first =>
     cases b
     case false =>
      go_wp2_with fail
      go_meet
      case rel => exact Below.refl _ _
     case true =>
      have HS:=Below.refl wc.heap.size wc
      go_upto_region 21 with fail
      go_cut [29,30] from 174 to 179 (fun s29 s30 wx => ∃ (g:Nat) (c:Int) (A:Option Addr) (n_ k_:Nat) (f:F) (e:Int),s29=pt g∧s30=.int .i64 e∧L.TimesR f21 m f e∧CB wx g c A n_ k_∧L.FV wx (fm c A n_ k_) f∧Below wc.heap.size wc wx)
      case first =>
       obtain ⟨lt21,p21_0,p21_1,z21_0,z21_1⟩:=B21.all
       obtain ⟨f,e,hR,hC⟩:=L.timesV m V21
       go_wp2_with (first | (go_at_call 9;(with_reducible refine hC.mono ?_);rintro en w2 ⟨vf,rfl,hF,hb⟩;obtain ⟨c,A,n_,k_,rfl⟩:=L.shape hF) | go_in)
       go_meet
       case rel =>
        exact ⟨_,_,_,_,_,_,_,rfl,rfl,hR,blk_new w2 _,L.st hF ((Below.refl _ _).alloc (Nat.le_refl _) _),hb.trans ((Below.refl _ w2).alloc hb.size _)⟩
      obtain ⟨g29,c29,A29,n29,k29,f29,e29,rfl,rfl,R29,NB,NV,hb⟩:=hcut
      replace B5:=B5.step hb;replace V5:=L.st V5 hb;replace B21:=B21.step hb;replace V21:=L.st V21 hb
      have B29:=NB;have V29:=NV;clear NB NV
      replace HS:=HS.trans (hb.mono HS.size);replace HW:=HW.trans (hb.mono HW.size);replace hz:=Nat.le_trans hz hb.size;clear hb
      go_upto_region 22 with fail
      go_cut [31,32] from 180 to 187 (fun s31 s32 wx => ∃ (g:Nat) (c:Int) (A:Option Addr) (n_ k_:Nat) (f:F) (e:Int),s31=pt g∧s32=.int .i64 e∧L.TimesR f5 (wrap64 (n * m)) f e∧CB wx g c A n_ k_∧L.FV wx (fm c A n_ k_) f∧Below wc.heap.size wc wx)
      case first =>
       obtain ⟨lt5,p5_0,p5_1,z5_0,z5_1⟩:=B5.all
       obtain ⟨f,e,hR,hC⟩:=L.timesV (wrap64 (n * m)) V5
       go_wp2_with (first | (go_at_call 9;(with_reducible refine hC.mono ?_);rintro en w2 ⟨vf,rfl,hF,hb⟩;obtain ⟨c,A,n_,k_,rfl⟩:=L.shape hF) | go_in)
       go_meet
       case rel =>
        exact ⟨_,_,_,_,_,_,_,rfl,rfl,hR,blk_new w2 _,L.st hF ((Below.refl _ _).alloc (Nat.le_refl _) _),hb.trans ((Below.refl _ w2).alloc hb.size _)⟩
      obtain ⟨g31,c31,A31,n31,k31,f31,e31,rfl,rfl,R31,NB,NV,hb⟩:=hcut
      replace B5:=B5.step hb;replace V5:=L.st V5 hb;replace B21:=B21.step hb;replace V21:=L.st V21 hb;replace B29:=B29.step hb;replace V29:=L.st V29 hb
      have B31:=NB;have V31:=NV;clear NB NV
      replace HS:=HS.trans (hb.mono HS.size);replace HW:=HW.trans (hb.mono HW.size);replace hz:=Nat.le_trans hz hb.size;clear hb
      go_upto_region 23 with fail
      go_cut [30,32,199] from 188 to 199 (fun t30 t32 s wx => s=.bool false∧t30=.int .i64 e29∧t32=.int .i64 e31∧Below wc.heap.size wc wx)
      case first =>
       obtain ⟨lt29,p29_0,p29_1,z29_0,z29_1⟩:=B29.all
       obtain ⟨lt31,p31_0,p31_1,z31_0,z31_1⟩:=B31.all
       by_cases h:e29=0∧e31=0
       ·
        obtain ⟨he1,he2⟩:=h;have hf:=L.twice R21 R29 R31 (hcond.out rfl).2.1 (hcond.out rfl).2.2.1 (hcond.out rfl).2.2.2.1 (hcond.out rfl).2.2.2.2 (hcond.out rfl).1 he1 he2;subst he1;subst he2;subst hf;have HL:=L.lenT R29
        go_wp2_with (first | (go_at_call 14;(with_reducible refine (L.sameV HL V29 V31).mono ?_);rintro en w2 ⟨rfl,hb⟩) | go_in)
        go_meet
        case rel => exact ⟨rfl,(by first | rfl | simp [*]),(by first | rfl | simp [*]),hb⟩
       ·
        go_wp2_with (first | (go_at_call 14;exact absurd ⟨by assumption,by assumption⟩ h) | go_in)
        all_goals
         go_meet
         case rel => exact ⟨rfl,(by first | rfl | simp [*]),(by first | rfl | simp [*]),Below.refl _ _⟩
      obtain ⟨rfl,rfl,rfl,hb⟩:=hcut
      replace B5:=B5.step hb;replace V5:=L.st V5 hb;replace B21:=B21.step hb;replace V21:=L.st V21 hb;replace B29:=B29.step hb;replace V29:=L.st V29 hb;replace B31:=B31.step hb;replace V31:=L.st V31 hb
      replace HW:=HW.trans (hb.mono HW.size);replace hz:=Nat.le_trans hz hb.size;replace HS:=HS.trans (hb.mono HS.size);clear hb
      go_wp2_with fail
      go_meet
      case rel => exact HS
    have hb:=hcut
    replace B5:=B5.step hb;replace V5:=L.st V5 hb;replace B21:=B21.step hb;replace V21:=L.st V21 hb
    replace HW:=HW.trans (hb.mono HW.size);replace hz:=Nat.le_trans hz hb.size;clear hb
    go_upto_region 25 with fail
    go_cut [33,34] from 200 to 204 (fun s33 s34 wx => ∃ (g:Nat) (c:Int) (A:Option Addr) (n_ k_:Nat) (f:F) (e:Int),s33=pt g∧s34=.int .i64 e∧L.NormalR f5 f e∧CB wx g c A n_ k_∧L.FV wx (fm c A n_ k_) f∧Below wc.heap.size wc wx)
    case first =>
     obtain ⟨lt5,p5_0,p5_1,z5_0,z5_1⟩:=B5.all
     obtain ⟨f,e,hR,hC⟩:=L.normalV V5
     go_wp2_with (first | (go_at_call 7;(with_reducible refine hC.mono ?_);rintro en w2 ⟨vf,rfl,hF,hb⟩;obtain ⟨c,A,n_,k_,rfl⟩:=L.shape hF) | go_in)
     go_meet
     case rel =>
      exact ⟨_,_,_,_,_,_,_,rfl,rfl,hR,blk_new w2 _,L.st hF ((Below.refl _ _).alloc (Nat.le_refl _) _),hb.trans ((Below.refl _ w2).alloc hb.size _)⟩
    obtain ⟨g33,c33,A33,n33,k33,f33,e33,rfl,rfl,R33,NB,NV,hb⟩:=hcut
    replace B5:=B5.step hb;replace V5:=L.st V5 hb
    have B33:=NB;have V33:=NV;clear NB NV
    replace HW:=HW.trans (hb.mono HW.size);replace hz:=Nat.le_trans hz hb.size;clear hb
    go_upto_region 26 with fail
    go_cut [35,36] from 205 to 209 (fun s35 s36 wx => ∃ (g:Nat) (c:Int) (A:Option Addr) (n_ k_:Nat) (f:F) (e:Int),s35=pt g∧s36=.int .i64 e∧L.NormalR f33 f e∧CB wx g c A n_ k_∧L.FV wx (fm c A n_ k_) f∧Below wc.heap.size wc wx)
    case first =>
     obtain ⟨lt33,p33_0,p33_1,z33_0,z33_1⟩:=B33.all
     obtain ⟨f,e,hR,hC⟩:=L.normalV V33
     go_wp2_with (first | (go_at_call 7;(with_reducible refine hC.mono ?_);rintro en w2 ⟨vf,rfl,hF,hb⟩;obtain ⟨c,A,n_,k_,rfl⟩:=L.shape hF) | go_in)
     go_meet
     case rel =>
      exact ⟨_,_,_,_,_,_,_,rfl,rfl,hR,blk_new w2 _,L.st hF ((Below.refl _ _).alloc (Nat.le_refl _) _),hb.trans ((Below.refl _ w2).alloc hb.size _)⟩
    obtain ⟨g35,c35,A35,n35,k35,f35,e35,rfl,rfl,R35,NB,NV,hb⟩:=hcut
    replace B5:=B5.step hb;replace V5:=L.st V5 hb;replace B33:=B33.step hb;replace V33:=L.st V33 hb
    have B35:=NB;have V35:=NV;clear NB NV
    replace HW:=HW.trans (hb.mono HW.size);replace hz:=Nat.le_trans hz hb.size;clear hb
    go_upto_region 27 with fail
    go_cut [37,38] from 210 to 214 (fun s37 s38 wx => ∃ (g:Nat) (c:Int) (A:Option Addr) (n_ k_:Nat) (f:F) (e:Int),s37=pt g∧s38=.int .i64 e∧L.TimesR f5 0 f e∧CB wx g c A n_ k_∧L.FV wx (fm c A n_ k_) f∧Below wc.heap.size wc wx)
    case first =>
     obtain ⟨lt5,p5_0,p5_1,z5_0,z5_1⟩:=B5.all
     obtain ⟨f,e,hR,hC⟩:=L.timesV 0 V5
     go_wp2_with (first | (go_at_call 9;(with_reducible refine hC.mono ?_);rintro en w2 ⟨vf,rfl,hF,hb⟩;obtain ⟨c,A,n_,k_,rfl⟩:=L.shape hF) | go_in)
     go_meet
     case rel =>
      exact ⟨_,_,_,_,_,_,_,rfl,rfl,hR,blk_new w2 _,L.st hF ((Below.refl _ _).alloc (Nat.le_refl _) _),hb.trans ((Below.refl _ w2).alloc hb.size _)⟩
    obtain ⟨g37,c37,A37,n37,k37,f37,e37,rfl,rfl,R37,NB,NV,hb⟩:=hcut
    replace B5:=B5.step hb;replace V5:=L.st V5 hb;replace B33:=B33.step hb;replace V33:=L.st V33 hb;replace B35:=B35.step hb;replace V35:=L.st V35 hb
    have B37:=NB;have V37:=NV;clear NB NV
    replace HW:=HW.trans (hb.mono HW.size);replace hz:=Nat.le_trans hz hb.size;clear hb
    obtain ⟨lt33,p33_0,p33_1,z33_0,z33_1⟩:=B33.all
    obtain ⟨lt35,p35_0,p35_1,z35_0,z35_1⟩:=B35.all
    obtain ⟨lt37,p37_0,p37_1,z37_0,z37_1⟩:=B37.all
    by_cases h1:e33=0
    ·
     obtain ⟨he,hf⟩:=L.again R33 R35 h1;subst h1;subst he;subst hf;have HL:=L.lenN R33
     by_cases h2:e37=0
     ·
      obtain ⟨hc,hn⟩:=L.zeroV V37 (L.naught R37 h2);subst h2;subst hc;subst hn
      go_wp2_with (first | (go_at_call 6;(with_reducible refine (L.sane _ hz).mono ?_);rintro en w2 ⟨rfl,hb⟩;replace HW:=HW.trans (hb.mono HW.size);replace B33:=B33.step hb;replace V33:=L.st V33 hb;replace B35:=B35.step hb;replace V35:=L.st V35 hb;replace B37:=B37.step hb;replace V37:=L.st V37 hb;clear lt33 p33_0 p33_1 z33_0 z33_1 lt35 p35_0 p35_1 z35_0 z35_1 lt37 p37_0 p37_1 z37_0 z37_1;obtain ⟨lt33,p33_0,p33_1,z33_0,z33_1⟩:=B33.all;obtain ⟨lt35,p35_0,p35_1,z35_0,z35_1⟩:=B35.all;obtain ⟨lt37,p37_0,p37_1,z37_0,z37_1⟩:=B37.all) | (go_at_call 14;(with_reducible refine (L.sameV HL V33 V35).mono ?_);rintro en w3 ⟨rfl,hb3⟩;replace HW:=HW.trans (hb3.mono HW.size);replace B37:=B37.step hb3;obtain ⟨lt37,p37_0,p37_1,z37_0,z37_1⟩:=B37.all) | go_in)
      all_goals
       go_ret
       first | exact ⟨rfl,HW⟩ | exact ⟨by simp_all,HW⟩
     ·
      skip
      go_wp2_with (first | (go_at_call 6;(with_reducible refine (L.sane _ hz).mono ?_);rintro en w2 ⟨rfl,hb⟩;replace HW:=HW.trans (hb.mono HW.size);replace B33:=B33.step hb;replace V33:=L.st V33 hb;replace B35:=B35.step hb;replace V35:=L.st V35 hb;replace B37:=B37.step hb;replace V37:=L.st V37 hb;clear lt33 p33_0 p33_1 z33_0 z33_1 lt35 p35_0 p35_1 z35_0 z35_1 lt37 p37_0 p37_1 z37_0 z37_1;obtain ⟨lt33,p33_0,p33_1,z33_0,z33_1⟩:=B33.all;obtain ⟨lt35,p35_0,p35_1,z35_0,z35_1⟩:=B35.all;obtain ⟨lt37,p37_0,p37_1,z37_0,z37_1⟩:=B37.all) | (go_at_call 14;(with_reducible refine (L.sameV HL V33 V35).mono ?_);rintro en w3 ⟨rfl,hb3⟩;replace HW:=HW.trans (hb3.mono HW.size);replace B37:=B37.step hb3;obtain ⟨lt37,p37_0,p37_1,z37_0,z37_1⟩:=B37.all) | go_in)
      all_goals
       go_ret
       first | exact ⟨rfl,HW⟩ | exact ⟨by simp_all,HW⟩
    ·
     have HL:True:=trivial
     by_cases h2:e37=0
     ·
      obtain ⟨hc,hn⟩:=L.zeroV V37 (L.naught R37 h2);subst h2;subst hc;subst hn
      go_wp2_with (first | (go_at_call 6;(with_reducible refine (L.sane _ hz).mono ?_);rintro en w2 ⟨rfl,hb⟩;replace HW:=HW.trans (hb.mono HW.size);replace B33:=B33.step hb;replace V33:=L.st V33 hb;replace B35:=B35.step hb;replace V35:=L.st V35 hb;replace B37:=B37.step hb;replace V37:=L.st V37 hb;clear lt33 p33_0 p33_1 z33_0 z33_1 lt35 p35_0 p35_1 z35_0 z35_1 lt37 p37_0 p37_1 z37_0 z37_1;obtain ⟨lt33,p33_0,p33_1,z33_0,z33_1⟩:=B33.all;obtain ⟨lt35,p35_0,p35_1,z35_0,z35_1⟩:=B35.all;obtain ⟨lt37,p37_0,p37_1,z37_0,z37_1⟩:=B37.all) | (go_at_call 14;(with_reducible refine (L.sameV HL V33 V35).mono ?_);rintro en w3 ⟨rfl,hb3⟩;replace HW:=HW.trans (hb3.mono HW.size);replace B37:=B37.step hb3;obtain ⟨lt37,p37_0,p37_1,z37_0,z37_1⟩:=B37.all) | go_in)
      all_goals
       go_ret
       first | exact ⟨rfl,HW⟩ | exact ⟨by simp_all,HW⟩
     ·
      skip
      go_wp2_with (first | (go_at_call 6;(with_reducible refine (L.sane _ hz).mono ?_);rintro en w2 ⟨rfl,hb⟩;replace HW:=HW.trans (hb.mono HW.size);replace B33:=B33.step hb;replace V33:=L.st V33 hb;replace B35:=B35.step hb;replace V35:=L.st V35 hb;replace B37:=B37.step hb;replace V37:=L.st V37 hb;clear lt33 p33_0 p33_1 z33_0 z33_1 lt35 p35_0 p35_1 z35_0 z35_1 lt37 p37_0 p37_1 z37_0 z37_1;obtain ⟨lt33,p33_0,p33_1,z33_0,z33_1⟩:=B33.all;obtain ⟨lt35,p35_0,p35_1,z35_0,z35_1⟩:=B35.all;obtain ⟨lt37,p37_0,p37_1,z37_0,z37_1⟩:=B37.all) | (go_at_call 14;(with_reducible refine (L.sameV HL V33 V35).mono ?_);rintro en w3 ⟨rfl,hb3⟩;replace HW:=HW.trans (hb3.mono HW.size);replace B37:=B37.step hb3;obtain ⟨lt37,p37_0,p37_1,z37_0,z37_1⟩:=B37.all) | go_in)
      all_goals
       go_ret
       first | exact ⟨rfl,HW⟩ | exact ⟨by simp_all,HW⟩
end Go.Proofs.YtkemjdedikobfaaGreatDoor.WalkA
