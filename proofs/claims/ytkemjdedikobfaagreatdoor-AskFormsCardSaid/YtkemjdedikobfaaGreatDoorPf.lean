/- What is proved: AskForms returns true at every input; how the row's reading of an argument opens. Conditions stand in each theorem. -/
import Derived.Test.YtkemjdedikobfaaGreatDoorPh
import Derived.OpenShut
import Derived.ChangeArms
set_option linter.unusedVariables false
set_option linter.unusedSimpArgs false
namespace Go.Proofs.YtkemjdedikobfaaGreatDoor.Sem
open Sh PSx Go.RowKit Go.Proofs.YtkemjdedikobfaaGreatDoorW.PrintWords Go.Proofs.YtkemjdedikobfaaGreatDoorW.PrintLast Go.Proofs.YtkemjdedikobfaaGreatDoorW.PrintMore
set_option linter.unusedVariables false
set_option linter.unusedSimpArgs false
abbrev fm (c:Int) (A:Option Addr) (n k:Nat):Value:=.agg #[.int .i64 c,.slice A n k]
theorem slimV2 {w:World} {v:Value} (h:FormV0 w v):∃ b,(Calls Tryz.prog 5 #[v] w fun en w' => en=.returned (.bool b)∧Below w.heap.size w w')∧(b=true→∃ f,FormV w v f∧f.T.length ≤ 1000):=by
 obtain ⟨c,A,cap,ys,rfl,h1,h2,h3⟩:=h;obtain ⟨b,e1,e2⟩:=slimE c (ys.map mkN) 100 0 (by omega) (by omega) (by omega) (fun j hj h => by omega);refine ⟨b,?_,fun hb => ⟨⟨c,ys.map trmS⟩,⟨A,cap,ys,rfl,h1,h2,fun y hy => ⟨h3 y hy,?_⟩,rfl⟩,?_⟩⟩
 ·have:=lslim.calls 100 c A cap (ys.map mkN) b w (C_nat h2 h3) (by simpa using h1) e1;simpa using this
 ·have:=(e2 hb).2 (mkN y) (List.mem_map_of_mem hy);have e:(mkN y).f1.f2=y.f1.f2.xs:=rfl;rw [e] at this;omega
 ·have:=(e2 hb).1;simp only [List.length_map] at this ⊢;omega
theorem shapeV {w:World} {v:Value} {f:Frm} (h:FormV w v f):∃ c A n k,v=fm c A n k:=by obtain ⟨A,cap,ys,rfl,_⟩:=h;exact ⟨_,_,_,_,rfl⟩
theorem normal_det {a F F':Frm} {e e':Int} (h:NormalR a F e) (h':NormalR a F' e'):F=F'∧e=e':=by
 unfold NormalR at h h';split at h
 ·next hv => rw [if_pos hv] at h';exact norm_det h h' rfl (fun _ => rfl)
 ·next hv => rw [if_neg hv] at h';exact ⟨h.1.trans h'.1.symm,h.2.trans h'.2.symm⟩
theorem sum_det {a b F F':Frm} {e e':Int} (h:SumR a b F e) (h':SumR a b F' e'):F=F'∧e=e':=by
 unfold SumR at h h';split at h
 ·next hv => rw [if_pos hv] at h';exact norm_det h h' rfl (fun _ => rfl)
 ·next hv => rw [if_neg hv] at h';exact ⟨h.1.trans h'.1.symm,h.2.trans h'.2.symm⟩
theorem times_det {a F F':Frm} {n e e':Int} (h:TimesR a n F e) (h':TimesR a n F' e'):F=F'∧e=e':=by
 unfold TimesR at h h';split at h
 ·next hv => rw [if_pos hv] at h';exact norm_det h h' rfl (fun _ => rfl)
 ·next hv => rw [if_neg hv] at h';exact ⟨h.1.trans h'.1.symm,h.2.trans h'.2.symm⟩
theorem norm_len2 {n c:Int} {T:List Trm} {F:Frm} {e:Int} (h:NormR n c T F e):F.T.length ≤ 1000:=by
 obtain ⟨D,-,-,-,h⟩:=h;unfold outN at h;split at h
 ·rw [(frm_of h).1];simp
 ·next h5 =>
  split at h
  ·split at h
   ·rw [(frm_of h).1];simp only [mul,List.length_map];omega
   ·split at h
    ·rw [(frm_of h).1];simp only [mul,List.length_map];omega
    ·rw [(frm_of h).1];simp
  ·rw [(frm_of h).1];simp
theorem len_n {a F:Frm} {e:Int} (h:NormalR a F e):F.T.length ≤ 1000:=by
 unfold NormalR at h;split at h
 ·exact norm_len2 h
 ·rw [h.1];simp
theorem len_s {a b F:Frm} {e:Int} (h:SumR a b F e):F.T.length ≤ 1000:=by
 unfold SumR at h;split at h
 ·exact norm_len2 h
 ·rw [h.1];simp
theorem len_t {a F:Frm} {n e:Int} (h:TimesR a n F e):F.T.length ≤ 1000:=by
 unfold TimesR at h;split at h
 ·exact norm_len2 h
 ·rw [h.1];simp
theorem rv_form {w w':World} {F:Frm} {A:Option Addr} {k:Nat} {D:List S174} (hR:∃ base ok,Kd.R k174 47 w' base ok (.slice A D.length k) D) (hD:∀ y ∈ D,Ok w y) (hT:D.map trmS=F.T) (hb:Below w.heap.size w w'):FormV w' (fm F.c A D.length k) F:=by obtain ⟨_,_,hR⟩:=hR;exact formR hR (fun y hy => ok_below (hD y hy) hb) hT
def f3_T:Bool × List (List Nat × List Nat):=(true,[([],[]),([0,0],[0]),([1],[1]),([1],[1]),([1],[1]),([4,1,1],[1,4]),([2,3,5,5,1],[1,2,3,5]),([1,6],[1,6]),([7,6],[7]),([8],[8]),([8],[8]),([8],[8]),([8],[8]),([11,12,8,8],[8,11,12]),([9,10,13,13,8],[8,9,10,13]),([8,14],[8,14]),([15,14],[15]),([16],[16]),([16],[16]),([16],[16]),([16],[16]),([19,20,16,16],[16,19,20]),([17,18,21,21,16],[16,17,18,21]),([16,22],[16,22]),([23,22,0,1,2,3,4,5,6,7,8,9,10,11,12,13,14,15,16,17,18,19,20,21,22,23],[23])])
def f3_B:List Nat:=[0,1,3,3,3,19,63,127,255,511,511,511,511,6655,16383,32767,65535,131071,131071,131071,131071,1703935,4194303,8388607,16777215]
theorem f3_tab:rtab .any (opsOf Tryz.f3 6)=f3_T:=by kernel_rfl
theorem f3_bits:waitsOk f3_T.2 f3_B=true:=by kernel_rfl
set_option maxHeartbeats 64000000 in
set_option maxRecDepth 100000 in
theorem walkF (sane:∀ w:World,6 ≤ w.heap.size→Calls Tryz.prog 6 #[] w fun e w' => e=.returned (.bool true)∧Below w.heap.size w w') (c1 c2 n:Int) (A1 A2:Option Addr) (n1 n2 k1 k2:Nat) (w:World) (hw:6 ≤ w.heap.size)
 (H1:FormV0 w (fm c1 A1 n1 k1)) (H2:FormV0 w (fm c2 A2 n2 k2)) :
 Calls Tryz.prog 3 #[fm c1 A1 n1 k1,fm c2 A2 n2 k2,.int .i64 n] w fun e w' => e=.returned (.bool true)∧Below w.heap.size w w':=by
 have hu24:=Tryz.underlying24;go_enter Tryz.func3,Tryz.ntmps3
 go_upto_region 0 with fail
 go_cut [3,4,6] from 13 to 13 (fun s3 s4 s6 wc => ∃ g3 g4,s3=pt g3∧s4=pt g4∧s6=.bool false∧CB wc g3 c1 A1 n1 k1∧CB wc g4 c2 A2 n2 k2∧Below w.heap.size w wc)
 case first =>
  go_wp2_with fail
  go_meet;case rel => exact boxes2 w _ _ _ _ _ _ _ _
 obtain ⟨g3,g4,rfl,rfl,rfl,B3,B4,HW⟩:=hcut;replace H1:=H1.below HW;replace H2:=H2.below HW;have hz:6 ≤ wc.heap.size:=Nat.le_trans hw HW.size;clear hw;go_upto_region 1 with fail
 go_cut [20] from 13 to 20 (fun s wx => ∃ b:Bool,s=.bool b∧(b=false→(∃ f,FormV wx (fm c1 A1 n1 k1) f∧f.T.length ≤ 1000)∧(∃ f,FormV wx (fm c2 A2 n2 k2) f∧f.T.length ≤ 1000))∧Below wc.heap.size wc wx)
 case first =>
  have HB:=Below.refl wc.heap.size wc;obtain ⟨lt3,p30,p31,z30,z31⟩:=B3.all;obtain ⟨lt4,p40,p41,z40,z41⟩:=B4.all;have T1:True:=trivial;have T2:True:=trivial;go_wp2_with (first
   | (go_at_call 5;obtain ⟨b,S,T⟩:=slimV2 H1;(with_reducible refine S.mono ?_);rintro e w1 ⟨rfl,hb⟩;replace H1:=H1.below hb;replace H2:=H2.below hb;replace B4:=B4.step hb;replace HB:=HB.trans (hb.mono HB.size);clear lt4 p40 p41 z40 z41;obtain ⟨lt4,p40,p41,z40,z41⟩:=B4.all;clear T1;have T1:b=true→∃ f,FormV w1 (fm c1 A1 n1 k1) f∧f.T.length ≤ 1000:=fun h => (T h).imp fun f hf => And.intro (hf.1.below hb) hf.2;clear S T hb)
   | (go_at_call 5;obtain ⟨b2,S,T⟩:=slimV2 H2;(with_reducible refine S.mono ?_);rintro e w2 ⟨rfl,hb⟩;replace HB:=HB.trans (hb.mono HB.size);replace T1:_=true→∃ f,FormV w2 (fm c1 A1 n1 k1) f∧f.T.length ≤ 1000:=fun h => (T1 h).imp fun f hf => And.intro (hf.1.below hb) hf.2;clear T2;have T2:b2=true→∃ f,FormV w2 (fm c2 A2 n2 k2) f∧f.T.length ≤ 1000:=fun h => (T h).imp fun f hf => And.intro (hf.1.below hb) hf.2;clear S T hb)
   | go_in)
  all_goals
   go_meet
   case rel =>
    refine ⟨_,rfl,fun h => ?_,HB⟩
    first | exact absurd h (by decide) | exact ⟨T1 (by assumption),T2 (by simpa using h)⟩
 obtain ⟨b,rfl,HF,hb⟩:=hcut;replace B3:=B3.step hb;replace B4:=B4.step hb;replace HW:=HW.trans (hb.mono HW.size);replace hz:=Nat.le_trans hz hb.size;clear H1 H2 hb;cases b;case true =>
  go_wp2_with (first | (go_at_call 6;refine (sane _ hz).mono ?_;rintro e w2 ⟨rfl,hb⟩) | go_in)
  go_ret;exact ⟨rfl,HW.trans (hb.mono HW.size)⟩
 case false =>
  obtain ⟨⟨f1,V3,l1⟩,⟨f2,V4,l2⟩⟩:=HF rfl;clear HF;replace l1:=ak l1;replace l2:=ak l2;go_upto_region 3 with fail
  go_cut [7,8] from 22 to 26 (fun s1 s2 wx => ∃ (g:Nat) (c:Int) (A:Option Addr) (n_ k_:Nat) (f:Frm) (e:Int),s1=pt g∧s2=.int .i64 e∧NormalR f1 f e∧CB wx g c A n_ k_∧FormV wx (fm c A n_ k_) f∧Below wc.heap.size wc wx)
  case first => obtain ⟨lt3,p30,p31,z30,z31⟩:=B3.all;obtain ⟨lt4,p40,p41,z40,z41⟩:=B4.all;obtain ⟨f,e,hR,hC⟩:=normalV V3;(go_wp2_with (first | (go_at_call 7;(with_reducible refine hC.mono ?_);rintro en w2 ⟨vf,rfl,hF,hb⟩;obtain ⟨c,A,n_,k_,rfl⟩:=shapeV hF) | go_in));go_meet;case rel => exact ⟨_,_,_,_,_,_,_,rfl,rfl,hR,wnew w2 _,hF.below (bl_new w2 _),hb.trans ((bl_new w2 _).mono hb.size)⟩
  obtain ⟨g7,c7,A7,n7,k7,f7,e7,rfl,rfl,R7,NB,NV,hb⟩:=hcut;replace B3:=B3.step hb;replace V3:=V3.below hb;replace B4:=B4.step hb;replace V4:=V4.below hb;have B7:=NB;have V7:=NV;clear NB NV;replace HW:=HW.trans (hb.mono HW.size);replace hz:=Nat.le_trans hz hb.size;clear hb;go_upto_region 4 with fail
  go_cut [9,10] from 27 to 32 (fun s1 s2 wx => ∃ (g:Nat) (c:Int) (A:Option Addr) (n_ k_:Nat) (f:Frm) (e:Int),s1=pt g∧s2=.int .i64 e∧SumR f1 f2 f e∧CB wx g c A n_ k_∧FormV wx (fm c A n_ k_) f∧Below wc.heap.size wc wx)
  case first => obtain ⟨lt3,p30,p31,z30,z31⟩:=B3.all;obtain ⟨lt4,p40,p41,z40,z41⟩:=B4.all;obtain ⟨f,e,hR,hC⟩:=sumV V3 V4;(go_wp2_with (first | (go_at_call 8;(with_reducible refine hC.mono ?_);rintro en w2 ⟨vf,rfl,hF,hb⟩;obtain ⟨c,A,n_,k_,rfl⟩:=shapeV hF) | go_in));go_meet;case rel => exact ⟨_,_,_,_,_,_,_,rfl,rfl,hR,wnew w2 _,hF.below (bl_new w2 _),hb.trans ((bl_new w2 _).mono hb.size)⟩
  obtain ⟨g9,c9,A9,n9,k9,f9,e9,rfl,rfl,R9,NB,NV,hb⟩:=hcut;replace B3:=B3.step hb;replace V3:=V3.below hb;replace B4:=B4.step hb;replace V4:=V4.below hb;replace B7:=B7.step hb;replace V7:=V7.below hb;have B9:=NB;have V9:=NV;clear NB NV;replace HW:=HW.trans (hb.mono HW.size);replace hz:=Nat.le_trans hz hb.size;clear hb;go_upto_region 5 with fail
  go_cut [11,12] from 33 to 38 (fun s1 s2 wx => ∃ (g:Nat) (c:Int) (A:Option Addr) (n_ k_:Nat) (f:Frm) (e:Int),s1=pt g∧s2=.int .i64 e∧TimesR f1 n f e∧CB wx g c A n_ k_∧FormV wx (fm c A n_ k_) f∧Below wc.heap.size wc wx)
  case first => obtain ⟨lt3,p30,p31,z30,z31⟩:=B3.all;obtain ⟨lt4,p40,p41,z40,z41⟩:=B4.all;obtain ⟨f,e,hR,hC⟩:=timesV n V3;(go_wp2_with (first | (go_at_call 9;(with_reducible refine hC.mono ?_);rintro en w2 ⟨vf,rfl,hF,hb⟩;obtain ⟨c,A,n_,k_,rfl⟩:=shapeV hF) | go_in));go_meet;case rel => exact ⟨_,_,_,_,_,_,_,rfl,rfl,hR,wnew w2 _,hF.below (bl_new w2 _),hb.trans ((bl_new w2 _).mono hb.size)⟩
  obtain ⟨g11,c11,A11,n11,k11,f11,e11,rfl,rfl,R11,NB,NV,hb⟩:=hcut;replace B3:=B3.step hb;replace V3:=V3.below hb;replace B4:=B4.step hb;replace V4:=V4.below hb;replace B7:=B7.step hb;replace V7:=V7.below hb;replace B9:=B9.step hb;replace V9:=V9.below hb;have B11:=NB;have V11:=NV;clear NB NV;replace HW:=HW.trans (hb.mono HW.size);replace hz:=Nat.le_trans hz hb.size;clear hb;go_upto_region 6 with fail
  have hX0:=below_drew1 (Below.refl wc.heap.size wc);refine start_ (n:=25) (S:=fun w' => w'.cell? ⟨g3,0,none⟩=some (.int .i64 c1)∧w'.cell? ⟨g3,1,none⟩=some (.slice A1 n1 k1)∧w'.cell? ⟨g4,0,none⟩=some (.int .i64 c2)∧w'.cell? ⟨g4,1,none⟩=some (.slice A2 n2 k2)∧w'.cell? ⟨g7,0,none⟩=some (.int .i64 c7)∧w'.cell? ⟨g7,1,none⟩=some (.slice A7 n7 k7)∧w'.cell? ⟨g9,0,none⟩=some (.int .i64 c9)∧w'.cell? ⟨g9,1,none⟩=some (.slice A9 n9 k9)∧w'.cell? ⟨g11,0,none⟩=some (.int .i64 c11)∧w'.cell? ⟨g11,1,none⟩=some (.slice A11 n11 k11)) (ds:=[]) #[false,false,false,false,false,false,false,false,false,false,false,false,false,false,false,false,false,false,false,false,false,false,false,false,false] kr rfl rfl ⟨(B3.step hX0).all.2.1,(B3.step hX0).all.2.2.1,(B4.step hX0).all.2.1,(B4.step hX0).all.2.2.1,(B7.step hX0).all.2.1,(B7.step hX0).all.2.2.1,(B9.step hX0).all.2.1,(B9.step hX0).all.2.2.1,(B11.step hX0).all.2.1,(B11.step hX0).all.2.2.1⟩ (fun hHeld => ?_);refine with_tabW f3_tab f3_bits (fun HT_ HW_ => ?_);generalize wc.drew=w20 at hX0 hHeld ⊢
  ·skip;refine one_ (i:=0) (N:=some 39) #[true,false,false,false,false,false,false,false,false,false,false,false,false,false,false,false,false,false,false,false,false,false,false,false,false] rfl rfl (one_of HT_.out kr) (by decide) (fun K hK => ?_);refine goes_ Tryz.func6 kr rfl #[] (by rfl) rfl rfl ag ?_;(with_reducible refine (sane _ (Nat.le_trans hz hX0.size)).mono ?_);rintro e w1 ⟨rfl,hb⟩;refine ⟨_,rfl,?_⟩;have hX1:=hX0.trans (hb.mono hX0.size);clear hb;refine hK.out _ _ ⟨(B3.step hX1).all.2.1,(B3.step hX1).all.2.2.1,(B4.step hX1).all.2.1,(B4.step hX1).all.2.2.1,(B7.step hX1).all.2.1,(B7.step hX1).all.2.2.1,(B9.step hX1).all.2.1,(B9.step hX1).all.2.2.1,(B11.step hX1).all.2.1,(B11.step hX1).all.2.2.1⟩ (fun hHeld => ?_);clear hK K;refine norm_ (a':=?_) ?_ ?_;rotate_left
   ·show Act.put _ (some 39) _=_;simp only [Act.put,List.setIfInBounds_toArray,List.set_cons_zero,List.set_cons_succ,i64_w,i32_w];rfl
   refine pS 1 (some 40) ?_;refine pS 3 (some 42) ?_;refine pT 2 (some 41) ?_;refine pT 4 (some 43) ?_;refine one_ (i:=5) (N:=some 44) #[true,true,true,true,true,true,false,false,false,false,false,false,false,false,false,false,false,false,false,false,false,false,false,false,false] rfl rfl (one_of HT_.out kr) (by decide) (fun K hK => ?_);obtain ⟨F,e,hR,hC⟩:=rnormalV (V3.below hX1) l1.out;obtain ⟨rfl,rfl⟩:=normal_det hR R7;refine goes_ Tryz.func11 kr rfl #[fm c1 A1 n1 k1] (by rfl) rfl rfl ag ?_;(with_reducible refine hC.mono ?_);rintro en w2 ⟨A',k',D,rfl,hRR,hD,hT,hb⟩;refine ⟨_,rfl,?_⟩;have VV:=rv_form hRR hD hT hb;have hX2:=hX1.trans (hb.mono hX1.size);clear hb hRR hD hT hC hR;refine hK.out _ _ ⟨(B3.step hX2).all.2.1,(B3.step hX2).all.2.2.1,(B4.step hX2).all.2.1,(B4.step hX2).all.2.2.1,(B7.step hX2).all.2.1,(B7.step hX2).all.2.2.1,(B9.step hX2).all.2.1,(B9.step hX2).all.2.2.1,(B11.step hX2).all.2.1,(B11.step hX2).all.2.2.1⟩ (fun hHeld => ?_);clear hK K;refine norm_ (a':=?_) ?_ ?_;rotate_left
   ·show Act.put _ (some 44) _=_;simp only [Act.put,List.setIfInBounds_toArray,List.set_cons_zero,List.set_cons_succ,i64_w,i32_w];rfl
   refine one_ (i:=6) (N:=some 45) #[true,true,true,true,true,true,true,false,false,false,false,false,false,false,false,false,false,false,false,false,false,false,false,false,false] rfl rfl (one_of HT_.out kr) (by decide) (fun K hK => ?_);refine goes_ Tryz.func10 kr rfl #[fm c7 A7 n7 k7,.int .i64 e,.agg #[.int .i64 F.c,.slice A' D.length k',.int .i64 e]] (by rfl) rfl rfl ag ?_;(with_reducible refine (madeV (len_n R7) (V7.below hX2) VV).mono ?_);rintro en w2 ⟨rfl,hb⟩;refine ⟨_,rfl,?_⟩;have hX3:=hX2.trans (hb.mono hX2.size);clear hb VV;refine hK.out _ _ ⟨(B3.step hX3).all.2.1,(B3.step hX3).all.2.2.1,(B4.step hX3).all.2.1,(B4.step hX3).all.2.2.1,(B7.step hX3).all.2.1,(B7.step hX3).all.2.2.1,(B9.step hX3).all.2.1,(B9.step hX3).all.2.2.1,(B11.step hX3).all.2.1,(B11.step hX3).all.2.2.1⟩ (fun hHeld => ?_);clear hK K;refine norm_ (a':=?_) ?_ ?_;rotate_left
   ·show Act.put _ (some 45) _=_;simp only [Act.put,List.setIfInBounds_toArray,List.set_cons_zero,List.set_cons_succ,i64_w,i32_w];rfl
   refine pS 7 (some 46) ?_;refine pS 8 (some 47) ?_;refine pS 10 (some 49) ?_;refine pT 9 (some 48) ?_;refine pT 11 (some 50) ?_;refine pT 12 (some 51) ?_;refine one_ (i:=13) (N:=some 52) #[true,true,true,true,true,true,true,true,true,true,true,true,true,true,false,false,false,false,false,false,false,false,false,false,false] rfl rfl (one_of HT_.out kr) (by decide) (fun K hK => ?_);obtain ⟨F,e,hR,hC⟩:=rsumV (V3.below hX3) l1.out (V4.below hX3) l2.out;obtain ⟨rfl,rfl⟩:=sum_det hR R9;refine goes_ Tryz.func12 kr rfl #[fm c1 A1 n1 k1,fm c2 A2 n2 k2] (by rfl) rfl rfl ag ?_;(with_reducible refine hC.mono ?_);rintro en w2 ⟨A',k',D,rfl,hRR,hD,hT,hb⟩;refine ⟨_,rfl,?_⟩;have VV:=rv_form hRR hD hT hb;have hX4:=hX3.trans (hb.mono hX3.size);clear hb hRR hD hT hC hR;refine hK.out _ _ ⟨(B3.step hX4).all.2.1,(B3.step hX4).all.2.2.1,(B4.step hX4).all.2.1,(B4.step hX4).all.2.2.1,(B7.step hX4).all.2.1,(B7.step hX4).all.2.2.1,(B9.step hX4).all.2.1,(B9.step hX4).all.2.2.1,(B11.step hX4).all.2.1,(B11.step hX4).all.2.2.1⟩ (fun hHeld => ?_);clear hK K;refine norm_ (a':=?_) ?_ ?_;rotate_left
   ·show Act.put _ (some 52) _=_;simp only [Act.put,List.setIfInBounds_toArray,List.set_cons_zero,List.set_cons_succ,i64_w,i32_w];rfl
   refine one_ (i:=14) (N:=some 53) #[true,true,true,true,true,true,true,true,true,true,true,true,true,true,true,false,false,false,false,false,false,false,false,false,false] rfl rfl (one_of HT_.out kr) (by decide) (fun K hK => ?_);refine goes_ Tryz.func10 kr rfl #[fm c9 A9 n9 k9,.int .i64 e,.agg #[.int .i64 F.c,.slice A' D.length k',.int .i64 e]] (by rfl) rfl rfl ag ?_;(with_reducible refine (madeV (len_s R9) (V9.below hX4) VV).mono ?_);rintro en w2 ⟨rfl,hb⟩;refine ⟨_,rfl,?_⟩;have hX5:=hX4.trans (hb.mono hX4.size);clear hb VV;refine hK.out _ _ ⟨(B3.step hX5).all.2.1,(B3.step hX5).all.2.2.1,(B4.step hX5).all.2.1,(B4.step hX5).all.2.2.1,(B7.step hX5).all.2.1,(B7.step hX5).all.2.2.1,(B9.step hX5).all.2.1,(B9.step hX5).all.2.2.1,(B11.step hX5).all.2.1,(B11.step hX5).all.2.2.1⟩ (fun hHeld => ?_);clear hK K;refine norm_ (a':=?_) ?_ ?_;rotate_left
   ·show Act.put _ (some 53) _=_;simp only [Act.put,List.setIfInBounds_toArray,List.set_cons_zero,List.set_cons_succ,i64_w,i32_w];rfl
   refine pS 15 (some 54) ?_;refine pS 16 (some 55) ?_;refine pS 18 (some 57) ?_;refine pS 20 (some 59) ?_;refine pT 17 (some 56) ?_;refine pT 19 (some 58) ?_;refine one_ (i:=21) (N:=some 60) #[true,true,true,true,true,true,true,true,true,true,true,true,true,true,true,true,true,true,true,true,true,true,false,false,false] rfl rfl (one_of HT_.out kr) (by decide) (fun K hK => ?_);obtain ⟨F,e,hR,hC⟩:=rtimesV n (V3.below hX5) l1.out;obtain ⟨rfl,rfl⟩:=times_det hR R11;refine goes_ Tryz.func13 kr rfl #[fm c1 A1 n1 k1,.int .i64 n] (by rfl) rfl rfl ag ?_;(with_reducible refine hC.mono ?_);rintro en w2 ⟨A',k',D,rfl,hRR,hD,hT,hb⟩;refine ⟨_,rfl,?_⟩;have VV:=rv_form hRR hD hT hb;have hX6:=hX5.trans (hb.mono hX5.size);clear hb hRR hD hT hC hR;refine hK.out _ _ ⟨(B3.step hX6).all.2.1,(B3.step hX6).all.2.2.1,(B4.step hX6).all.2.1,(B4.step hX6).all.2.2.1,(B7.step hX6).all.2.1,(B7.step hX6).all.2.2.1,(B9.step hX6).all.2.1,(B9.step hX6).all.2.2.1,(B11.step hX6).all.2.1,(B11.step hX6).all.2.2.1⟩ (fun hHeld => ?_);clear hK K;refine norm_ (a':=?_) ?_ ?_;rotate_left
   ·show Act.put _ (some 60) _=_;simp only [Act.put,List.setIfInBounds_toArray,List.set_cons_zero,List.set_cons_succ,i64_w,i32_w];rfl
   refine one_ (i:=22) (N:=some 61) #[true,true,true,true,true,true,true,true,true,true,true,true,true,true,true,true,true,true,true,true,true,true,true,false,false] rfl rfl (one_of HT_.out kr) (by decide) (fun K hK => ?_);refine goes_ Tryz.func10 kr rfl #[fm c11 A11 n11 k11,.int .i64 e,.agg #[.int .i64 F.c,.slice A' D.length k',.int .i64 e]] (by rfl) rfl rfl ag ?_;(with_reducible refine (madeV (len_t R11) (V11.below hX6) VV).mono ?_);rintro en w2 ⟨rfl,hb⟩;refine ⟨_,rfl,?_⟩;have hX7:=hX6.trans (hb.mono hX6.size);clear hb VV;refine hK.out _ _ ⟨(B3.step hX7).all.2.1,(B3.step hX7).all.2.2.1,(B4.step hX7).all.2.1,(B4.step hX7).all.2.2.1,(B7.step hX7).all.2.1,(B7.step hX7).all.2.2.1,(B9.step hX7).all.2.1,(B9.step hX7).all.2.2.1,(B11.step hX7).all.2.1,(B11.step hX7).all.2.2.1⟩ (fun hHeld => ?_);clear hK K;refine norm_ (a':=?_) ?_ ?_;rotate_left
   ·show Act.put _ (some 61) _=_;simp only [Act.put,List.setIfInBounds_toArray,List.set_cons_zero,List.set_cons_succ,i64_w,i32_w];rfl
   refine pS 23 (some 62) ?_;refine pS 24 (some 6) ?_;refine Go.Proofs.YtkemjdedikobfaaGreatDoorW.PrintLast.done_ (done_of HT_.out kr) ?_;(try go_wp2);go_ret;exact ⟨rfl,HW.trans (hX7.mono HW.size)⟩
end Go.Proofs.YtkemjdedikobfaaGreatDoor.Sem
namespace Go.Proofs.YtkemjdedikobfaaGreatDoor.Sem
open PSx Go.RowKit Go.Proofs.YtkemjdedikobfaaGreatDoorW.PrintWords
open PFx (S95 z95 k95 k95_open k95_openM k95_mk k95_mkM rd_T95 at_T95)
variable {H:Type} {enc:TypeId × Value→H} {P:Program} {w:World} {base:Nat} {spare:Nat→Bool} {held:Bool}
theorem open_rows {α:Type} (k:Kd α) {e t:TypeId} (ht:P.underlying t=some (.slice e)) (hz:P.cellsOf e=k.sz) (good:α→Prop)
 (one:∀ (n:Nat) (cs:List Value) (y:DataW H × List MemPlace),DataW.trod enc P w base spare held n e cs=some y→∃ x:α,k.K w x cs∧good x)
 {fuel:Nat} {cs:List Value} {x:DataW H × List MemPlace} (h:DataW.trod enc P w base spare held fuel t cs=some x) :
 ∃ (A:Option Addr) (n c:Nat) (xs:List α),cs=[.slice A n c]∧n ≤ c∧xs.length=n∧Kd.C k w A n xs∧∀ x ∈ xs,good x:=by
 rcases DataW.trod_slice ht h with ⟨rfl,_⟩ | ⟨a,len,cap,elems,rest,n,rfl,rfl,_,_,hl,_,hlen,hel,_⟩
 ·exact ⟨none,0,0,[],rfl,Nat.le_refl _,rfl,⟨rfl,by decide,fun h => by omega⟩,fun x hx => by simp at hx⟩
 ·have each:∀ i,i < len→∃ (x:α) (cc:List Value),w.cells? base (a.add (i * k.sz)) k.sz=some cc∧k.K w x cc∧good x:=by intro i hi;have h1:=hel i hi;obtain ⟨y,hy⟩:∃ y,elems[i]?=some y:=⟨elems[i]'(by omega),List.getElem?_eq_getElem (by omega)⟩;rw [hy] at h1;obtain ⟨cc,h2,h3⟩:=Option.bind_eq_some_iff.1 h1;obtain ⟨x,h4,h5⟩:=one _ _ _ h3;exact ⟨x,cc,by rw [← hz];exact h2,h4,h5⟩
  have build:∀ m,m ≤ len→∃ xs:List α,xs.length=m∧∀ i x,xs[i]?=some x→∃ cc,w.cells? base (a.add (i * k.sz)) k.sz=some cc∧k.K w x cc∧good x:=by
   intro m;induction m with
   | zero => exact fun _ => ⟨[],rfl,fun i x hx => by simp at hx⟩
   | succ m ih =>
    intro hm;obtain ⟨xs,h1,h2⟩:=ih (by omega);obtain ⟨x,cc,h3,h4,h5⟩:=each m (by omega);refine ⟨xs ++ [x],by simp [h1],fun i y hy => ?_⟩;rcases Nat.lt_or_ge i xs.length with hi | hi
    ·rw [List.getElem?_append_left hi] at hy;exact h2 i y hy
    ·(have him:i=m:=by have:=(List.getElem?_eq_some_iff.1 hy).1;simp at this;omega);subst him;rw [List.getElem?_append_right hi,h1,Nat.sub_self] at hy;(obtain rfl:x=y:=by simpa using hy);exact ⟨cc,h3,h4,h5⟩
  obtain ⟨xs,h1,h2⟩:=build len (Nat.le_refl _);refine ⟨some a,len,cap,xs,rfl,hl,h1,⟨h1,by have:=‹cap ≤ maxLen›;unfold maxLen at this;omega,fun _ => ⟨a,rfl,fun j x hj => ?_⟩⟩,fun x hx => ?_⟩
  ·obtain ⟨cc,h3,h4,_⟩:=h2 j x hj;refine ⟨cc,k.K_len h4,h4,fun i u hu => ?_⟩;(have hlt:i < k.sz:=by have h6:=(List.getElem?_eq_some_iff.1 hu).1;rw [k.K_len h4] at h6;exact h6);have h7:=(World.cells?_some h3).2.2 i hlt;rw [hu] at h7;rw [← h7];congr 1;by_cases h1:j * k.sz=0 <;> by_cases h2:i=0 <;> simp [Addr.add,h1,h2,Nat.add_assoc]
  ·obtain ⟨j,hj,rfl⟩:=List.getElem_of_mem hx;exact (h2 j _ (List.getElem?_eq_getElem hj)).choose_spec.2.2
theorem cells3:Tryz.prog.cellsOf 3=1:=by kernel_rfl
theorem cells22:Tryz.prog.cellsOf 22=1:=by kernel_rfl
theorem cells41:Tryz.prog.cellsOf 41=1:=by kernel_rfl
theorem cells43:Tryz.prog.cellsOf 43=2:=by kernel_rfl
theorem cells45:Tryz.prog.cellsOf 45=5:=by kernel_rfl
theorem cells47:Tryz.prog.cellsOf 47=6:=by kernel_rfl
theorem cells24:Tryz.prog.cellsOf 24=2:=by kernel_rfl
theorem cells103:Tryz.prog.cellsOf 103=2:=by kernel_rfl
theorem at_ {α:Type} {xs:List α} {n:Nat} (h:xs.length=n) {i:Nat} (hi:i < n):∃ x,xs[i]?=some x:=⟨xs[i]'(by omega),List.getElem?_eq_getElem (by omega)⟩
set_option maxRecDepth 100000 in
theorem open_point {n:Nat} {cs:List Value} {y:DataW H × List MemPlace} (h:DataW.trod enc Tryz.prog w base spare held n 103 cs=some y):∃ x:S95,k95.K w x cs∧True:=by
 obtain ⟨xs,m,rfl,_,hl,hx,hf⟩:=DataW.trod_struct Tryz.underlying103 h;rw [cells103] at hl;obtain ⟨x0,e0⟩:=at_ hx (i:=0) (by decide);obtain ⟨x1,e1⟩:=at_ hx (i:=1) (by decide);have h0:=hf 0 _ rfl;have h1:=hf 1 _ rfl;rw [e0] at h0;rw [e1] at h1;match cs,hl with
 | [c0,c1],_ => obtain ⟨a,q0,_⟩:=DataW.trod_int Tryz.underlying3 h0;obtain ⟨b,q1,_⟩:=DataW.trod_int Tryz.underlying3 h1;simp [cells3] at q0 q1;subst q0;subst q1;exact ⟨⟨a,b⟩,k95_mk w ⟨a,b⟩,trivial⟩
set_option maxRecDepth 100000 in
theorem open_span {n:Nat} {cs:List Value} {y:DataW H × List MemPlace} (h:DataW.trod enc Tryz.prog w base spare held n 43 cs=some y):∃ lo hi:Int,cs=[.int .i64 lo,.int .i64 hi]:=by
 obtain ⟨xs,m,rfl,_,hl,hx,hf⟩:=DataW.trod_struct Tryz.underlying43 h;rw [cells43] at hl;obtain ⟨x0,e0⟩:=at_ hx (i:=0) (by decide);obtain ⟨x1,e1⟩:=at_ hx (i:=1) (by decide);have h0:=hf 0 _ rfl;have h1:=hf 1 _ rfl;rw [e0] at h0;rw [e1] at h1;match cs,hl with
 | [c0,c1],_ => obtain ⟨a,q0,_⟩:=DataW.trod_int Tryz.underlying3 h0;obtain ⟨b,q1,_⟩:=DataW.trod_int Tryz.underlying3 h1;simp [cells3] at q0 q1;subst q0;subst q1;exact ⟨a,b,rfl⟩
set_option maxRecDepth 100000 in
theorem open_fig {n:Nat} {cs:List Value} {y:DataW H × List MemPlace} (h:DataW.trod enc Tryz.prog w base spare held n 45 cs=some y) :
 ∃ (k s lo hi:Int) (v:SV),cs=[.int .i64 k,.int .i64 s,svv v,.int .i64 lo,.int .i64 hi]∧v.Good w:=by
 obtain ⟨xs,m,rfl,_,hl,hx,hf⟩:=DataW.trod_struct Tryz.underlying45 h;rw [cells45] at hl;obtain ⟨x0,e0⟩:=at_ hx (i:=0) (by decide);obtain ⟨x1,e1⟩:=at_ hx (i:=1) (by decide);obtain ⟨x2,e2⟩:=at_ hx (i:=2) (by decide);obtain ⟨x3,e3⟩:=at_ hx (i:=3) (by decide);have h0:=hf 0 _ rfl;have h1:=hf 1 _ rfl;have h2:=hf 2 _ rfl;have h3:=hf 3 _ rfl;rw [e0] at h0;rw [e1] at h1;rw [e2] at h2;rw [e3] at h3;match cs,hl with
 | [c0,c1,c2,c3,c4],_ => obtain ⟨a,q0,_⟩:=DataW.trod_int Tryz.underlying3 h0;obtain ⟨b,q1,_⟩:=DataW.trod_int Tryz.underlying3 h1;obtain ⟨A,n,c,xs,q2,g1,g2,g3,_⟩:=open_rows k95 (P:=Tryz.prog) Tryz.underlying41 cells103 (fun _ => True) (fun _ _ _ h => open_point h) h2;obtain ⟨lo,hi,q3⟩:=open_span h3;simp [cells3,cells41,cells43] at q0 q1 q2 q3;obtain ⟨r3,r4⟩:=q3;subst q0;subst q1;subst q2;subst r3;subst r4;exact ⟨a,b,lo,hi,⟨A,n,c,xs⟩,rfl,⟨g2,g1,g3⟩⟩
set_option maxRecDepth 100000 in
theorem open_term {n:Nat} {cs:List Value} {y:DataW H × List MemPlace} (h:DataW.trod enc Tryz.prog w base spare held n 47 cs=some y):∃ x:S174,k174.K w x cs∧x.f1.f2.Good w:=by
 obtain ⟨xs,m,rfl,_,hl,hx,hf⟩:=DataW.trod_struct Tryz.underlying47 h;rw [cells47] at hl;obtain ⟨x0,e0⟩:=at_ hx (i:=0) (by decide);obtain ⟨x1,e1⟩:=at_ hx (i:=1) (by decide);have h0:=hf 0 _ rfl;have h1:=hf 1 _ rfl;rw [e0] at h0;rw [e1] at h1;match cs,hl with
 | [c0,c1,c2,c3,c4,c5],_ => obtain ⟨a,q0,_⟩:=DataW.trod_int Tryz.underlying3 h0;obtain ⟨k,s,lo,hi,v,q1,g⟩:=open_fig h1;simp [cells3,cells45] at q0 q1;obtain ⟨r1,r2,r3,r4,r5⟩:=q1;subst q0;subst r1;subst r2;subst r3;subst r4;subst r5;exact ⟨⟨a,⟨k,s,v,⟨lo,hi⟩⟩⟩,k174_mk w ⟨a,⟨k,s,v,⟨lo,hi⟩⟩⟩,g⟩
set_option maxRecDepth 100000 in
theorem open_form {n:Nat} {cs:List Value} {y:DataW H × List MemPlace} (h:DataW.trod enc Tryz.prog w base spare held n 24 cs=some y) :
 ∃ (c:Int) (A:Option Addr) (m k:Nat),cs=[.int .i64 c,.slice A m k]∧FormV0 w (.agg #[.int .i64 c,.slice A m k]):=by
 obtain ⟨xs,m,rfl,_,hl,hx,hf⟩:=DataW.trod_struct Tryz.underlying24 h;rw [cells24] at hl;obtain ⟨x0,e0⟩:=at_ hx (i:=0) (by decide);obtain ⟨x1,e1⟩:=at_ hx (i:=1) (by decide);have h0:=hf 0 _ rfl;have h1:=hf 1 _ rfl;rw [e0] at h0;rw [e1] at h1;match cs,hl with
 | [c0,c1],_ => obtain ⟨a,q0,_⟩:=DataW.trod_int Tryz.underlying3 h0;obtain ⟨A,n,c,ys,q1,g1,g2,g3,g4⟩:=open_rows k174 (P:=Tryz.prog) Tryz.underlying22 cells47 (fun x => x.f1.f2.Good w) (fun _ _ _ h => open_term h) h1;simp [cells3,cells22] at q0 q1;subst q0;subst q1;subst g2;exact ⟨a,A,ys.length,c,rfl,a,A,c,ys,rfl,g1,g3,g4⟩
end Go.Proofs.YtkemjdedikobfaaGreatDoor.Sem
