/- What is proved: what functions of the program do (walks: printed by a copy of the kit's print that programs of this repository have turned and shortened, or by hand). Conditions stand in each theorem. -/
import Derived.Test.YtkemjdedikobfaaGreatDoorPa
set_option linter.unusedVariables false
set_option linter.unusedSimpArgs false
namespace Go.Proofs.YtkemjdedikobfaaGreatDoor.PSx
open PFx (S95 z95 k95 k95_open k95_openM k95_mk k95_mkM rd_T95 at_T95)
noncomputable section
variable (W0:World)
open Go.Proofs.YtkemjdedikobfaaGreatDoor.Sh
open Go.RowKit Go.Proofs.YtkemjdedikobfaaGreatDoorW.PrintWords Go.Proofs.YtkemjdedikobfaaGreatDoorW.PrintLast Go.Proofs.YtkemjdedikobfaaGreatDoorW.PrintMore
attribute [local go_sem] max2_int min2_int max_two min_two max_three min_three max_four min_four   -- for this text's walks alone
set_option linter.unusedVariables false
set_option linter.unusedSimpArgs false
mutual
def slices_insertion_at.l0:Nat→List (S174)→Int→Int→Int→Option ((List (S174)))
 | 0,_,_,_,_ => none
 | k + 1,x0,x1,x2,x8 => if x8 < x2 then (slices_insertion_at.l1 k x0 x1 x2 x8 x8) else (some x0)
def slices_insertion_at.l1:Nat→List (S174)→Int→Int→Int→Int→Option ((List (S174)))
 | 0,_,_,_,_,_ => none
 | k + 1,x0,x1,x2,x8,x9 => if x9 > x1 then (if 0 ≤ x9 then (if x9 < (x0.length:Int) then (if 0 ≤ (wrap64 (x9 - 1)) then (if (wrap64 (x9 - 1)) < (x0.length:Int) then ((cmpT.f W0 ((rd_T174 x0 x9).f0) ((rd_T174 x0 x9).f1.f0) ((rd_T174 x0 x9).f1.f1) ((rd_T174 x0 x9).f1.f2) ((rd_T174 x0 x9).f1.f3.f0) ((rd_T174 x0 x9).f1.f3.f1) ((rd_T174 x0 (wrap64 (x9 - 1))).f0) ((rd_T174 x0 (wrap64 (x9 - 1))).f1.f0) ((rd_T174 x0 (wrap64 (x9 - 1))).f1.f1) ((rd_T174 x0 (wrap64 (x9 - 1))).f1.f2) ((rd_T174 x0 (wrap64 (x9 - 1))).f1.f3.f0) ((rd_T174 x0 (wrap64 (x9 - 1))).f1.f3.f1)).bind fun t103 => (if t103 < 0 then (slices_insertion_at.l1 k ((x0.set (x9:Int).toNat (⟨(rd_T174 x0 (wrap64 (x9 - 1))).f0,(⟨(rd_T174 x0 (wrap64 (x9 - 1))).f1.f0,(rd_T174 x0 (wrap64 (x9 - 1))).f1.f1,(rd_T174 x0 (wrap64 (x9 - 1))).f1.f2,(⟨(rd_T174 x0 (wrap64 (x9 - 1))).f1.f3.f0,(rd_T174 x0 (wrap64 (x9 - 1))).f1.f3.f1⟩:S58)⟩:S172)⟩:S174)).set ((wrap64 (x9 - 1)):Int).toNat (⟨(rd_T174 x0 x9).f0,(⟨(rd_T174 x0 x9).f1.f0,(rd_T174 x0 x9).f1.f1,(rd_T174 x0 x9).f1.f2,(⟨(rd_T174 x0 x9).f1.f3.f0,(rd_T174 x0 x9).f1.f3.f1⟩:S58)⟩:S172)⟩:S174)) x1 x2 x8 (wrap64 (x9 - 1))) else (slices_insertion_at.l0 k x0 x1 x2 (wrap64 (x8 + 1))))) else (none)) else (none)) else (none)) else (none)) else (slices_insertion_at.l0 k x0 x1 x2 (wrap64 (x8 + 1)))
end
def slices_insertion_at.f (k:Nat) (l0:List (S174)) (a1:Int) (a2:Int) (a3:Nat):Option ((List (S174))):=slices_insertion_at.l0 W0 k l0 a1 a2 (wrap64 (a1 + 1))
theorem slices_insertion_at.mono_l:∀ k,(∀ y0 y1 y2 y3,LeO (slices_insertion_at.l0 W0 k y0 y1 y2 y3) (slices_insertion_at.l0 W0 (k + 1) y0 y1 y2 y3))∧(∀ y0 y1 y2 y3 y4,LeO (slices_insertion_at.l1 W0 k y0 y1 y2 y3 y4) (slices_insertion_at.l1 W0 (k + 1) y0 y1 y2 y3 y4))
 | 0 => ⟨fun _ _ _ _ r h => by simp [slices_insertion_at.l0] at h,fun _ _ _ _ _ r h => by simp [slices_insertion_at.l1] at h⟩
 | k + 1 => by
  obtain ⟨ih0,ih1⟩:=slices_insertion_at.mono_l k
  refine ⟨?_,?_⟩
  ·
   intro y0 y1 y2 y3
   unfold slices_insertion_at.l0
   repeat' first
   | (with_reducible exact ih0 _ _ _ _)
   | (with_reducible exact ih1 _ _ _ _ _)
   | (with_reducible exact LeO.refl _)
   | (with_reducible exact LeO.none _)
   | (with_reducible refine LeO.ite ?_ ?_)
   | (with_reducible refine LeO.bind ?_ (fun _ => ?_))
   | exact ih0 _ _ _ _
   | exact ih1 _ _ _ _ _
   | exact LeO.none _
   | refine LeO.ite ?_ ?_
   | refine LeO.bind ?_ (fun _ => ?_)
  ·
   intro y0 y1 y2 y3 y4
   unfold slices_insertion_at.l1
   repeat' first
   | (with_reducible exact ih0 _ _ _ _)
   | (with_reducible exact ih1 _ _ _ _ _)
   | (with_reducible exact LeO.refl _)
   | (with_reducible exact LeO.none _)
   | (with_reducible refine LeO.ite ?_ ?_)
   | (with_reducible refine LeO.bind ?_ (fun _ => ?_))
   | exact ih0 _ _ _ _
   | exact ih1 _ _ _ _ _
   | exact LeO.none _
   | refine LeO.ite ?_ ?_
   | refine LeO.bind ?_ (fun _ => ?_)
theorem slices_insertion_at.mono:∀ a0 a1 a2 a3 k,LeO (slices_insertion_at.f W0 k a0 a1 a2 a3) (slices_insertion_at.f W0 (k + 1) a0 a1 a2 a3):=by
 intro a0 a1 a2 a3 k
 obtain ⟨ih0,ih1⟩:=slices_insertion_at.mono_l W0 k
 unfold slices_insertion_at.f
 repeat' first
   | (with_reducible exact ih0 _ _ _ _)
   | (with_reducible exact ih1 _ _ _ _ _)
   | (with_reducible exact LeO.refl _)
   | (with_reducible exact LeO.none _)
   | (with_reducible refine LeO.ite ?_ ?_)
   | (with_reducible refine LeO.bind ?_ (fun _ => ?_))
   | exact ih0 _ _ _ _
   | exact ih1 _ _ _ _ _
   | exact LeO.none _
   | refine LeO.ite ?_ ?_
   | refine LeO.bind ?_ (fun _ => ?_)
def slices_insertion_at.T4:Bool × List (List Nat × List Nat):=(true,[([],[]),([],[]),([0,1],[0,1]),([2],[2]),([3],[3]),([3],[3]),([3],[3]),([5,6,3],[3,5,6]),([7,3],[3,7]),([3],[3]),([3],[3]),([10,3],[3,10]),([9,11,3],[3,9,11]),([12,3],[3,12]),([4,8,13,3,3],[3,4,8,13]),([14,3],[3,14]),([3,15],[3,15])])
def slices_insertion_at.B4:List Nat:=[0,0,3,7,15,15,15,111,239,15,15,1039,3599,7695,16383,32767,65535]
theorem slices_insertion_at.tab4:rtab .any (opsOf Tryz.f121 4)=slices_insertion_at.T4:=by kernel_rfl
theorem slices_insertion_at.bits4:waitsOk slices_insertion_at.T4.2 slices_insertion_at.B4=true:=by kernel_rfl
def slices_insertion_at.T6:Bool × List (List Nat × List Nat):=(true,[([],[]),([],[]),([],[]),([],[]),([3],[3]),([],[]),([],[]),([6],[6]),([5,7],[5,7]),([8],[8]),([],[]),([],[]),([10,11],[10,11]),([12],[12]),([0,1,0,1,5,6,7,8,9,13],[0,1]),([14,9,0,1,5,6,7,8,9,13],[9,14]),([2,4,0,1,2,3,4,5,6,7,8,9,10,11,12,13,14,15],[2,4]),([16,13,15,0,1,2,3,4,5,6,7,8,9,10,11,12,13,14,15],[13,16])])
def slices_insertion_at.B6:List Nat:=[0,0,0,0,8,0,0,64,224,480,0,0,3072,7168,16355,32739,65535,131071]
theorem slices_insertion_at.tab6:rtab .any (opsOf Tryz.f121 6)=slices_insertion_at.T6:=by kernel_rfl
theorem slices_insertion_at.bits6:waitsOk slices_insertion_at.T6.2 slices_insertion_at.B6=true:=by kernel_rfl
set_option maxHeartbeats 8000000 in
set_option maxRecDepth 100000 in
theorem slices_insertion_at.calls (k:Nat) (P0_:Nat→Prop) (u9000_:Value) (l0:List (S174)) (a1:Int) (a2:Int) (a3:Nat) (r:List (S174)) (w0 w:World) (hB:Below w0.heap.size w0 w) (ho0:Kd.R k174 47 w w0.heap.size P0_ u9000_ l0) (h:slices_insertion_at.f w0 k l0 a1 a2 a3=some r) :
  Calls Tryz.prog 121 #[u9000_,.int .i64 a1,.int .i64 a2,.func (.func 46) #[] #[]] w fun e w' => e=.returned (.tuple #[])∧Kd.R k174 47 w' w0.heap.size (fun k_ => (P0_ k_ ∨ w.heap.size ≤ k_)) u9000_ r∧Below w0.heap.size w0 w'∧Kept w w' (fun k_ => P0_ k_):=by
 have hu47:=Tryz.underlying47
 have HO0:=ak (show Kd.R k174 47 w w0.heap.size (fun k_ => (P0_ k_ ∨ w.heap.size ≤ k_)) u9000_ l0 from Kd.R_mono ho0 (fun k_ hk => (.inl hk)))
 have HK:=ak (Kept.refl w (fun k_ => P0_ k_))
 have HW0:=ak hB.size
 have HB:=ak hB
 clear hB
 have H:(slices_insertion_at.l0 w0 k l0 a1 a2 (wrap64 (a1 + 1)))=some r:=h
 clear h
 have H':=ak H
 clear H
 go_enter Tryz.func121,Tryz.ntmps121
 go_wp2
 go_loopg [8] k (fun kq v8 w' => ∃ (x0_1:List (S174)) (x8_1:Int),v8=.int .i64 x8_1∧Aside0 (slices_insertion_at.l0 w0 kq x0_1 a1 a2 x8_1=some r)∧Aside0 (kq ≤ k)∧Aside0 (Kd.R k174 47 w' w0.heap.size (fun k_ => (P0_ k_ ∨ w.heap.size ≤ k_)) u9000_ x0_1)∧Aside0 (Kept w w' (fun k_ => P0_ k_))∧Aside0 (Below w0.heap.size w0 w'))
 case atStart => exact ⟨(l0),(wrap64 (a1 + 1)),rf,H',⟨Nat.le_refl _⟩,⟨by (with_reducible repeat (first | apply Kd.R_alloc | apply Kd.R_drewN | apply Kd.R_drew));exact HO0.out⟩,⟨by repeat (first | (with_reducible first | exact HK.out | apply Kept.alloc | apply Kept.drewN | apply Kept.drew) | exact HK.out)⟩,⟨bx⟩⟩
 case round =>
  clear H'
  try clear c1
  try clear p2
  obtain ⟨x0_1,x8_1,rfl,HA,HK1,HO_0,HK,HB⟩:=hrel
  cases gk with
  | zero => exact absurd HA.out (by simp [slices_insertion_at.l0])
  | succ k1 =>
   have H:=HA.out
   clear HA
   simp only [slices_insertion_at.l0] at H
   by_cases c5:x8_1 < a2
   ·
    rw [if_pos c5] at H
    have c5b0:decide (x8_1 < a2)=true:=decide_eq_true c5
    clear c5
    have H':=ak H
    clear H
    go_wp2
    go_loopg [9] k1 (fun kq v9 w' => ∃ (x0_2:List (S174)) (x9_2:Int),v9=.int .i64 x9_2∧Aside0 (slices_insertion_at.l1 w0 kq x0_2 a1 a2 x8_1 x9_2=some r)∧Aside0 (kq ≤ k1)∧Aside0 (Kd.R k174 47 w' w0.heap.size (fun k_ => (P0_ k_ ∨ w.heap.size ≤ k_)) u9000_ x0_2)∧Aside0 (Kept w w' (fun k_ => P0_ k_))∧Aside0 (Below w0.heap.size w0 w'))
    case atStart => exact ⟨(x0_1),(x8_1),rf,H',⟨Nat.le_refl _⟩,⟨by (with_reducible repeat (first | apply Kd.R_alloc | apply Kd.R_drewN | apply Kd.R_drew));exact HO_0.out⟩,⟨by repeat (first | (with_reducible first | exact HK.out | apply Kept.alloc | apply Kept.drewN | apply Kept.drew) | exact HK.out)⟩,⟨bx⟩⟩
    case round =>
     clear H'
     try clear c1
     try clear p2 p2
     try clear c5
     try clear c5b0
     obtain ⟨x0_2,x9_2,rfl,HA,HK2,HO_0,HK,HB⟩:=hrel
     cases gk with
     | zero => exact absurd HA.out (by simp [slices_insertion_at.l1])
     | succ k2 =>
      have H:=HA.out
      clear HA
      simp only [slices_insertion_at.l1] at H
      by_cases c6:x9_2 > a1
      ·
       rw [if_pos c6] at H
       have c6b0:decide (a1 < x9_2)=true:=decide_eq_true c6
       clear c6
       by_cases c7:0 ≤ x9_2
       ·
        rw [if_pos c7] at H
        have c7b0:decide (0 ≤ x9_2)=true:=decide_eq_true c7
        clear c7
        by_cases c8:x9_2 < (x0_2.length:Int)
        ·
         rw [if_pos c8] at H
         have c8b0:decide (x9_2 < (x0_2.length:Int))=true:=decide_eq_true c8
         clear c8
         obtain ⟨ji9,hji9⟩:∃ j_:Int,(wrap64 (x9_2 - 1))=j_:=⟨_,rfl⟩
         replace H:(if 0 ≤ (ji9) then (if (ji9) < (x0_2.length:Int) then ((cmpT.f w0 ((rd_T174 x0_2 x9_2).f0) ((rd_T174 x0_2 x9_2).f1.f0) ((rd_T174 x0_2 x9_2).f1.f1) ((rd_T174 x0_2 x9_2).f1.f2) ((rd_T174 x0_2 x9_2).f1.f3.f0) ((rd_T174 x0_2 x9_2).f1.f3.f1) ((rd_T174 x0_2 (ji9)).f0) ((rd_T174 x0_2 (ji9)).f1.f0) ((rd_T174 x0_2 (ji9)).f1.f1) ((rd_T174 x0_2 (ji9)).f1.f2) ((rd_T174 x0_2 (ji9)).f1.f3.f0) ((rd_T174 x0_2 (ji9)).f1.f3.f1)).bind fun t103 => (if t103 < 0 then (slices_insertion_at.l1 w0 k2 ((x0_2.set (x9_2:Int).toNat (⟨(rd_T174 x0_2 (ji9)).f0,(⟨(rd_T174 x0_2 (ji9)).f1.f0,(rd_T174 x0_2 (ji9)).f1.f1,(rd_T174 x0_2 (ji9)).f1.f2,(⟨(rd_T174 x0_2 (ji9)).f1.f3.f0,(rd_T174 x0_2 (ji9)).f1.f3.f1⟩:S58)⟩:S172)⟩:S174)).set ((ji9):Int).toNat (⟨(rd_T174 x0_2 x9_2).f0,(⟨(rd_T174 x0_2 x9_2).f1.f0,(rd_T174 x0_2 x9_2).f1.f1,(rd_T174 x0_2 x9_2).f1.f2,(⟨(rd_T174 x0_2 x9_2).f1.f3.f0,(rd_T174 x0_2 x9_2).f1.f3.f1⟩:S58)⟩:S172)⟩:S174)) a1 a2 x8_1 ji9) else (slices_insertion_at.l0 w0 k2 x0_2 a1 a2 (wrap64 (x8_1 + 1))))) else (none)) else (none))=some r:=by first | (rw [hji9] at H;exact H) | (simp only [hji9] at H ⊢;exact H)
         have hji9w:(IntKind.i64.wrap (x9_2 - 1))=ji9:=(i64_w _).trans hji9
         by_cases c10:0 ≤ (ji9)
         ·
          rw [if_pos c10] at H
          have c10b0:decide (0 ≤ (ji9))=true:=decide_eq_true c10
          clear c10
          by_cases c11:(ji9) < (x0_2.length:Int)
          ·
           rw [if_pos c11] at H
           have c11b0:decide ((ji9) < (x0_2.length:Int))=true:=decide_eq_true c11
           clear c11
           replace H:=Option.bind_eq_some_iff.mp H
           obtain ⟨t103,A120,H⟩:=H
           replace H:(if t103 < 0 then (slices_insertion_at.l1 w0 k2 ((x0_2.set (x9_2:Int).toNat (⟨(rd_T174 x0_2 (ji9)).f0,(⟨(rd_T174 x0_2 (ji9)).f1.f0,(rd_T174 x0_2 (ji9)).f1.f1,(rd_T174 x0_2 (ji9)).f1.f2,(⟨(rd_T174 x0_2 (ji9)).f1.f3.f0,(rd_T174 x0_2 (ji9)).f1.f3.f1⟩:S58)⟩:S172)⟩:S174)).set ((ji9):Int).toNat (⟨(rd_T174 x0_2 x9_2).f0,(⟨(rd_T174 x0_2 x9_2).f1.f0,(rd_T174 x0_2 x9_2).f1.f1,(rd_T174 x0_2 x9_2).f1.f2,(⟨(rd_T174 x0_2 x9_2).f1.f3.f0,(rd_T174 x0_2 x9_2).f1.f3.f1⟩:S58)⟩:S172)⟩:S174)) a1 a2 x8_1 ji9) else (slices_insertion_at.l0 w0 k2 x0_2 a1 a2 (wrap64 (x8_1 + 1))))=some r:=H
           have A12:=ak A120
           clear A120
           by_cases c13:t103 < 0
           ·
            rw [if_pos c13] at H
            have c13b0:decide (t103 < 0)=true:=decide_eq_true c13
            clear c13
            obtain ⟨y106,hy106⟩:∃ y_:List (S174),y_=(x0_2.set (x9_2:Int).toNat (⟨(rd_T174 x0_2 (ji9)).f0,(⟨(rd_T174 x0_2 (ji9)).f1.f0,(rd_T174 x0_2 (ji9)).f1.f1,(rd_T174 x0_2 (ji9)).f1.f2,(⟨(rd_T174 x0_2 (ji9)).f1.f3.f0,(rd_T174 x0_2 (ji9)).f1.f3.f1⟩:S58)⟩:S172)⟩:S174)):=⟨_,rfl⟩
            replace H:(slices_insertion_at.l1 w0 k2 (y106.set ((ji9):Int).toNat (⟨(rd_T174 x0_2 x9_2).f0,(⟨(rd_T174 x0_2 x9_2).f1.f0,(rd_T174 x0_2 x9_2).f1.f1,(rd_T174 x0_2 x9_2).f1.f2,(⟨(rd_T174 x0_2 x9_2).f1.f3.f0,(rd_T174 x0_2 x9_2).f1.f3.f1⟩:S58)⟩:S172)⟩:S174)) a1 a2 x8_1 ji9)=some r:=by first | (rw [hy106];with_reducible exact H) | (have H2_:=(Option.bind_some _ _).symm.trans H;rw [hy106];with_reducible exact H2_) | (have H2_:=(Option.bind_some _ _).symm.trans H;with_reducible exact H2_) | with_reducible exact H | (rw [hy106];exact H) | exact H
            have Ny106:=ak hy106
            clear hy106
            obtain ⟨y107,hy107⟩:∃ y_:List (S174),y_=(y106.set ((ji9):Int).toNat (⟨(rd_T174 x0_2 x9_2).f0,(⟨(rd_T174 x0_2 x9_2).f1.f0,(rd_T174 x0_2 x9_2).f1.f1,(rd_T174 x0_2 x9_2).f1.f2,(⟨(rd_T174 x0_2 x9_2).f1.f3.f0,(rd_T174 x0_2 x9_2).f1.f3.f1⟩:S58)⟩:S172)⟩:S174)):=⟨_,rfl⟩
            replace H:(slices_insertion_at.l1 w0 k2 y107 a1 a2 x8_1 ji9)=some r:=by first | (rw [hy107];with_reducible exact H) | (have H2_:=(Option.bind_some _ _).symm.trans H;rw [hy107];with_reducible exact H2_) | (have H2_:=(Option.bind_some _ _).symm.trans H;with_reducible exact H2_) | with_reducible exact H | (rw [hy107];exact H) | exact H
            have Ny107:=ak hy107
            clear hy107
            have H':=ak H
            clear H
            try go_wp2
            have n0_:=ak (Kd.R_drew HO_0.out)
            have n1_:=ak (Kept.drew HK.out)
            have n2_:=ak (below_drew1 HB.out)
            clear HO_0
            clear HK
            clear HB
            have HO_0:=n0_
            have HK:=n1_
            have HB:=n2_
            clear n0_ n1_ n2_
            obtain ⟨Ao17,co17,eo17⟩:=Kd.R_slice HO_0.out
            (first | subst eo17 | (injection eo17 with f1_ f2_ f3_;have f4_:=f1_.symm;have f5_:=f3_.symm;clear f1_ f2_ f3_;subst f4_;subst f5_))
            have p101:0 ≤ (x9_2:Int):=of_decide_eq_true asm
            have q101:x9_2 < (x0_2.length:Int):=of_decide_eq_true asm
            obtain ⟨ad101,e101,hx101_0,hx101_1,hx101_2,hx101_3,hx101_4,hx101_5⟩:=at_T174 (Kd.R_reads' HO_0.out).2.2 x9_2 p101 q101
            cases e101
            replace p101:=eq_true p101
            replace q101:=eq_true q101
            have p102:0 ≤ ((ji9):Int):=of_decide_eq_true asm
            have q102:(ji9) < (x0_2.length:Int):=of_decide_eq_true asm
            obtain ⟨ad102,e102,hx102_0,hx102_1,hx102_2,hx102_3,hx102_4,hx102_5⟩:=at_T174 (Kd.R_reads' HO_0.out).2.2 (ji9) p102 q102
            obtain rfl:ad101=ad102:=(by injection e102)
            replace p102:=eq_true p102
            replace q102:=eq_true q102
            refine start_ (n:=17) (S:=fun w' => w'.cell? (ad101.add ((x9_2).toNat * 6))=some (.int .i64 ((rd_T174 x0_2 x9_2).f0))∧w'.cell? ⟨(ad101.add ((x9_2).toNat * 6)).block,(ad101.add ((x9_2).toNat * 6)).off + 1,none⟩=some (.int .i64 ((rd_T174 x0_2 x9_2).f1.f0))∧w'.cell? ⟨(ad101.add ((x9_2).toNat * 6)).block,(ad101.add ((x9_2).toNat * 6)).off + 2,none⟩=some (.int .i64 ((rd_T174 x0_2 x9_2).f1.f1))∧w'.cell? ⟨(ad101.add ((x9_2).toNat * 6)).block,(ad101.add ((x9_2).toNat * 6)).off + 3,none⟩=some ((svv ((rd_T174 x0_2 x9_2).f1.f2)))∧w'.cell? ⟨(ad101.add ((x9_2).toNat * 6)).block,(ad101.add ((x9_2).toNat * 6)).off + 4,none⟩=some (.int .i64 ((rd_T174 x0_2 x9_2).f1.f3.f0))∧w'.cell? ⟨(ad101.add ((x9_2).toNat * 6)).block,(ad101.add ((x9_2).toNat * 6)).off + 5,none⟩=some (.int .i64 ((rd_T174 x0_2 x9_2).f1.f3.f1))∧w'.cell? (ad101.add (((ji9)).toNat * 6))=some (.int .i64 ((rd_T174 x0_2 (ji9)).f0))∧w'.cell? ⟨(ad101.add (((ji9)).toNat * 6)).block,(ad101.add (((ji9)).toNat * 6)).off + 1,none⟩=some (.int .i64 ((rd_T174 x0_2 (ji9)).f1.f0))∧w'.cell? ⟨(ad101.add (((ji9)).toNat * 6)).block,(ad101.add (((ji9)).toNat * 6)).off + 2,none⟩=some (.int .i64 ((rd_T174 x0_2 (ji9)).f1.f1))∧w'.cell? ⟨(ad101.add (((ji9)).toNat * 6)).block,(ad101.add (((ji9)).toNat * 6)).off + 3,none⟩=some ((svv ((rd_T174 x0_2 (ji9)).f1.f2)))∧w'.cell? ⟨(ad101.add (((ji9)).toNat * 6)).block,(ad101.add (((ji9)).toNat * 6)).off + 4,none⟩=some (.int .i64 ((rd_T174 x0_2 (ji9)).f1.f3.f0))∧w'.cell? ⟨(ad101.add (((ji9)).toNat * 6)).block,(ad101.add (((ji9)).toNat * 6)).off + 5,none⟩=some (.int .i64 ((rd_T174 x0_2 (ji9)).f1.f3.f1))) (ds:=[]) #[false,false,false,false,false,false,false,false,false,false,false,false,false,false,false,false,false] kr rfl rfl ⟨hx101_0,hx101_1,hx101_2,hx101_3,hx101_4,hx101_5,hx102_0,hx102_1,hx102_2,hx102_3,hx102_4,hx102_5⟩ (fun hHeld => ?_);refine with_tabW slices_insertion_at.tab4 slices_insertion_at.bits4 (fun HT_ HW_ => ?_)
            generalize wr.drew=w16 at HO_0 HK HB hx101_0 hx101_1 hx101_2 hx101_3 hx101_4 hx101_5 hx102_0 hx102_1 hx102_2 hx102_3 hx102_4 hx102_5 hHeld ⊢
            refine pS 0 (some 18) ?_
            refine pS 1 (some 19) ?_
            refine pS 2 (some 20) ?_
            refine pS 3 (some 21) ?_
            refine pS 4 (some 22) ?_
            refine pS 5 (some 23) ?_
            refine pS 6 (some 24) ?_
            refine pS 7 (some 25) ?_
            refine pS 9 (some 27) ?_
            refine pS 10 (some 28) ?_
            refine pS 11 (some 29) ?_
            refine pS 12 (some 30) ?_
            refine pT 8 (some 26) ?_
            refine pT 13 (some 31) ?_
            refine one_ (i:=14) (N:=some 32) #[true,true,true,true,true,true,true,true,true,true,true,true,true,true,true,false,false] rfl rfl (one_of HT_.out kr) (by decide) (fun K hK => ?_)
            refine goesT_ Tryz.func46 kr rfl #[.agg #[.int .i64 ((rd_T174 x0_2 x9_2).f0),.int .i64 ((rd_T174 x0_2 x9_2).f1.f0),.int .i64 ((rd_T174 x0_2 x9_2).f1.f1),(svv ((rd_T174 x0_2 x9_2).f1.f2)),.int .i64 ((rd_T174 x0_2 x9_2).f1.f3.f0),.int .i64 ((rd_T174 x0_2 x9_2).f1.f3.f1)],.agg #[.int .i64 ((rd_T174 x0_2 (ji9)).f0),.int .i64 ((rd_T174 x0_2 (ji9)).f1.f0),.int .i64 ((rd_T174 x0_2 (ji9)).f1.f1),(svv ((rd_T174 x0_2 (ji9)).f1.f2)),.int .i64 ((rd_T174 x0_2 (ji9)).f1.f3.f0),.int .i64 ((rd_T174 x0_2 (ji9)).f1.f3.f1)]] (by rfl) rfl rfl rfl (by (try simp only [List.map_toArray,List.map_cons,List.map_nil]);first | done | (simp only [hji9];rfl) | rfl | (simp only [List.length_drop,List.length_take];rfl)) ?_
            with_reducible refine (cmpT.calls w0 ((rd_T174 x0_2 x9_2).f0) ((rd_T174 x0_2 x9_2).f1.f0) ((rd_T174 x0_2 x9_2).f1.f1) ((rd_T174 x0_2 x9_2).f1.f2) ((rd_T174 x0_2 x9_2).f1.f3.f0) ((rd_T174 x0_2 x9_2).f1.f3.f1) ((rd_T174 x0_2 (ji9)).f0) ((rd_T174 x0_2 (ji9)).f1.f0) ((rd_T174 x0_2 (ji9)).f1.f1) ((rd_T174 x0_2 (ji9)).f1.f2) ((rd_T174 x0_2 (ji9)).f1.f3.f0) ((rd_T174 x0_2 (ji9)).f1.f3.f1) t103 _ bx A12.out).mono ?_
            rintro e w18 ⟨rfl,hb⟩
            have HS0_:=(hb.cell (World.block_lt_of_cell? _ _ (hHeld.1))).trans (hHeld.1)
            have HS1_:=(hb.cell (World.block_lt_of_cell? _ _ (hHeld.2.1))).trans (hHeld.2.1)
            have HS2_:=(hb.cell (World.block_lt_of_cell? _ _ (hHeld.2.2.1))).trans (hHeld.2.2.1)
            have HS3_:=(hb.cell (World.block_lt_of_cell? _ _ (hHeld.2.2.2.1))).trans (hHeld.2.2.2.1)
            have HS4_:=(hb.cell (World.block_lt_of_cell? _ _ (hHeld.2.2.2.2.1))).trans (hHeld.2.2.2.2.1)
            have HS5_:=(hb.cell (World.block_lt_of_cell? _ _ (hHeld.2.2.2.2.2.1))).trans (hHeld.2.2.2.2.2.1)
            have HS6_:=(hb.cell (World.block_lt_of_cell? _ _ (hHeld.2.2.2.2.2.2.1))).trans (hHeld.2.2.2.2.2.2.1)
            have HS7_:=(hb.cell (World.block_lt_of_cell? _ _ (hHeld.2.2.2.2.2.2.2.1))).trans (hHeld.2.2.2.2.2.2.2.1)
            have HS8_:=(hb.cell (World.block_lt_of_cell? _ _ (hHeld.2.2.2.2.2.2.2.2.1))).trans (hHeld.2.2.2.2.2.2.2.2.1)
            have HS9_:=(hb.cell (World.block_lt_of_cell? _ _ (hHeld.2.2.2.2.2.2.2.2.2.1))).trans (hHeld.2.2.2.2.2.2.2.2.2.1)
            have HS10_:=(hb.cell (World.block_lt_of_cell? _ _ (hHeld.2.2.2.2.2.2.2.2.2.2.1))).trans (hHeld.2.2.2.2.2.2.2.2.2.2.1)
            have HS11_:=(hb.cell (World.block_lt_of_cell? _ _ (hHeld.2.2.2.2.2.2.2.2.2.2.2))).trans (hHeld.2.2.2.2.2.2.2.2.2.2.2)
            refine ⟨_,rfl,?_⟩
            have n0_:=ak (Kd.R_below (rx HO_0) hb)
            have n1_:=ak (Kept.below (S:=(fun k_ => P0_ k_)) (by repeat (first | (with_reducible first | exact HK.out | apply Kept.alloc | apply Kept.drewN | apply Kept.drew) | exact HK.out)) hb)
            have n2_:=ak (below_step bx hb)
            clear HO_0
            clear HK
            clear HB
            have HO_0:=n0_
            have HK:=n1_
            have HB:=n2_
            clear n0_ n1_ n2_
            (try clear hb)
            (try clear hb2)
            (try clear hk)
            (try clear hi)
            refine hK.out _ _ ⟨HS0_,HS1_,HS2_,HS3_,HS4_,HS5_,HS6_,HS7_,HS8_,HS9_,HS10_,HS11_⟩ (fun hHeld => ?_)
            clear hK K
            refine norm_ (a':=?_) ?_ ?_
            rotate_left
            ·
             show Act.put _ (some 32) _=_
             simp only [Act.put,List.setIfInBounds_toArray,List.set_cons_zero,List.set_cons_succ,i64_w,i32_w]
             rfl
            refine pS 15 (some 33) ?_
            refine pS 16 (some 34) ?_
            refine done_ (done_of HT_.out kr) ?_
            try go_wp2
            have n0_:=ak (Kd.R_drew HO_0.out)
            have n1_:=ak (Kept.drew HK.out)
            have n2_:=ak (below_drew1 HB.out)
            clear HO_0
            clear HK
            clear HB
            have HO_0:=n0_
            have HK:=n1_
            have HB:=n2_
            clear n0_ n1_ n2_
            have p104:0 ≤ ((ji9):Int):=of_decide_eq_true asm
            have q104:(ji9) < (x0_2.length:Int):=of_decide_eq_true asm
            obtain ⟨ad104,e104,hx104_0,hx104_1,hx104_2,hx104_3,hx104_4,hx104_5⟩:=at_T174 (Kd.R_reads' HO_0.out).2.2 (ji9) p104 q104
            obtain rfl:ad101=ad104:=(by injection e104)
            replace p104:=eq_true p104
            replace q104:=eq_true q104
            have p105:0 ≤ (x9_2:Int):=of_decide_eq_true asm
            have q105:x9_2 < (x0_2.length:Int):=of_decide_eq_true asm
            obtain ⟨ad105,e105,hx105_0,hx105_1,hx105_2,hx105_3,hx105_4,hx105_5⟩:=at_T174 (Kd.R_reads' HO_0.out).2.2 x9_2 p105 q105
            obtain rfl:ad101=ad105:=(by injection e105)
            replace p105:=eq_true p105
            replace q105:=eq_true q105
            have p14:0 ≤ (x9_2:Int):=of_decide_eq_true asm
            have q14:(x9_2:Int) < ((x0_2.length:Int):Int):=of_decide_eq_true asm
            obtain ⟨go14,co14,eo14,gb14,gl14,cl14,HG14⟩:=Kd.R_form HO_0.out (by omega)
            (first | cases eo14 | (injection eo14 with ea_ en_ ec_;(first | subst ea_ | (injection ea_ with ea_;subst ea_));subst ec_;clear en_))
            have GB14:=ak gb14
            have GG14:=ak HG14
            clear gb14 gl14 HG14
            have HMgo14:=ak (show (P0_ go14 ∨ w.heap.size ≤ go14) from (HO_0.out.1 _ rfl))
            (first | simp only [add_plain] at hx101_0 | skip)
            (first | simp only [add_plain] at hx101_1 | skip)
            (first | simp only [add_plain] at hx101_2 | skip)
            (first | simp only [add_plain] at hx101_3 | skip)
            (first | simp only [add_plain] at hx101_4 | skip)
            (first | simp only [add_plain] at hx101_5 | skip)
            (first | simp only [add_plain] at hx102_0 | skip)
            (first | simp only [add_plain] at hx102_1 | skip)
            (first | simp only [add_plain] at hx102_2 | skip)
            (first | simp only [add_plain] at hx102_3 | skip)
            (first | simp only [add_plain] at hx102_4 | skip)
            (first | simp only [add_plain] at hx102_5 | skip)
            (first | simp only [add_plain] at hx104_0 | skip)
            (first | simp only [add_plain] at hx104_1 | skip)
            (first | simp only [add_plain] at hx104_2 | skip)
            (first | simp only [add_plain] at hx104_3 | skip)
            (first | simp only [add_plain] at hx104_4 | skip)
            (first | simp only [add_plain] at hx104_5 | skip)
            (first | simp only [add_plain] at hx105_0 | skip)
            (first | simp only [add_plain] at hx105_1 | skip)
            (first | simp only [add_plain] at hx105_2 | skip)
            (first | simp only [add_plain] at hx105_3 | skip)
            (first | simp only [add_plain] at hx105_4 | skip)
            (first | simp only [add_plain] at hx105_5 | skip)
            obtain ⟨ce14,hcl14,hM14,hcc14,hfr14⟩:=Kd.R_elem HO_0.out z174 (x9_2:Int) p14 q14
            obtain rfl:=k174_openM hM14
            have hx14_0:World.cell? _ ⟨go14,(x9_2:Int).toNat * 6,none⟩=some (.int .i64 ((rd_T174 x0_2 x9_2).f0)):=hcc14 0 _ rfl
            have hx14_1:World.cell? _ ⟨go14,(x9_2:Int).toNat * 6 + 1,none⟩=some (.int .i64 ((rd_T174 x0_2 x9_2).f1.f0)):=hcc14 1 _ rfl
            have hx14_2:World.cell? _ ⟨go14,(x9_2:Int).toNat * 6 + 2,none⟩=some (.int .i64 ((rd_T174 x0_2 x9_2).f1.f1)):=hcc14 2 _ rfl
            have hx14_3:World.cell? _ ⟨go14,(x9_2:Int).toNat * 6 + 3,none⟩=some ((svv ((rd_T174 x0_2 x9_2).f1.f2))):=hcc14 3 _ rfl
            have hx14_4:World.cell? _ ⟨go14,(x9_2:Int).toNat * 6 + 4,none⟩=some (.int .i64 ((rd_T174 x0_2 x9_2).f1.f3.f0)):=hcc14 4 _ rfl
            have hx14_5:World.cell? _ ⟨go14,(x9_2:Int).toNat * 6 + 5,none⟩=some (.int .i64 ((rd_T174 x0_2 x9_2).f1.f3.f1)):=hcc14 5 _ rfl
            have hf14_0:World.frozen? _ ⟨go14,(x9_2:Int).toNat * 6,none⟩=false:=hfr14 0
            have hf14_1:World.frozen? _ ⟨go14,(x9_2:Int).toNat * 6 + 1,none⟩=false:=hfr14 1
            have hf14_2:World.frozen? _ ⟨go14,(x9_2:Int).toNat * 6 + 2,none⟩=false:=hfr14 2
            have hf14_3:World.frozen? _ ⟨go14,(x9_2:Int).toNat * 6 + 3,none⟩=false:=hfr14 3
            have hf14_4:World.frozen? _ ⟨go14,(x9_2:Int).toNat * 6 + 4,none⟩=false:=hfr14 4
            have hf14_5:World.frozen? _ ⟨go14,(x9_2:Int).toNat * 6 + 5,none⟩=false:=hfr14 5
            clear hcl14 hcc14 hfr14 hM14
            replace p14:=eq_true p14
            replace q14:=eq_true q14
            obtain ⟨ce20,hcl20,hM20,hcc20,hfr20⟩:=Kd.R_elem HO_0.out z174 (x9_2:Int) (of_decide_eq_true asm) (by have h_:(x9_2:Int) < ((x0_2.length:Int):Int):=of_decide_eq_true asm;first | exact h_ | (have e_:=(Kd.R_reads' HO_0.out).1;omega) | simpa using h_)
            obtain rfl:=k174_openM hM20
            have HP20:=(Kd.R_seg HO_0.out (x9_2:Int) (of_decide_eq_true asm) (by have h_:(x9_2:Int) < ((x0_2.length:Int):Int):=of_decide_eq_true asm;first | exact h_ | (have e_:=(Kd.R_reads' HO_0.out).1;omega) | simpa using h_) (seg:=[.int .i64 ((rd_T174 x0_2 (ji9)).f0),.int .i64 ((rd_T174 x0_2 (ji9)).f1.f0),.int .i64 ((rd_T174 x0_2 (ji9)).f1.f1),(svv ((rd_T174 x0_2 (ji9)).f1.f2)),.int .i64 ((rd_T174 x0_2 (ji9)).f1.f3.f0),.int .i64 ((rd_T174 x0_2 (ji9)).f1.f3.f1)]) (j:=0) hcl20 hcc20 (show 6 ≤ 6 from by decide) (x':=(⟨(rd_T174 x0_2 (ji9)).f0,(⟨(rd_T174 x0_2 (ji9)).f1.f0,(rd_T174 x0_2 (ji9)).f1.f1,(rd_T174 x0_2 (ji9)).f1.f2,(⟨(rd_T174 x0_2 (ji9)).f1.f3.f0,(rd_T174 x0_2 (ji9)).f1.f3.f1⟩:S58)⟩:S172)⟩:S174)) (k174_mkM _ _ _ (⟨(rd_T174 x0_2 (ji9)).f0,(⟨(rd_T174 x0_2 (ji9)).f1.f0,(rd_T174 x0_2 (ji9)).f1.f1,(rd_T174 x0_2 (ji9)).f1.f2,(⟨(rd_T174 x0_2 (ji9)).f1.f3.f0,(rd_T174 x0_2 (ji9)).f1.f3.f1⟩:S58)⟩:S172)⟩:S174) ) (fun _ hk => hk)).1
            rw [← Ny106.out] at HP20
            have HQ20:=ak HP20
            clear hcl20 hcc20 hfr20 hM20 HP20
            have p15:0 ≤ ((ji9):Int):=of_decide_eq_true asm
            have q15:((ji9):Int) < ((x0_2.length:Int):Int):=of_decide_eq_true asm
            obtain ⟨ce15,hcl15,hM15,hcc15,hfr15⟩:=Kd.R_elem HQ20.out z174 ((ji9):Int) p15 q15
            obtain rfl:=k174_openM hM15
            have hx15_0:World.cell? _ ⟨go14,((ji9):Int).toNat * 6,none⟩=some (.int .i64 ((rd_T174 y106 (ji9)).f0)):=hcc15 0 _ rfl
            have hx15_1:World.cell? _ ⟨go14,((ji9):Int).toNat * 6 + 1,none⟩=some (.int .i64 ((rd_T174 y106 (ji9)).f1.f0)):=hcc15 1 _ rfl
            have hx15_2:World.cell? _ ⟨go14,((ji9):Int).toNat * 6 + 2,none⟩=some (.int .i64 ((rd_T174 y106 (ji9)).f1.f1)):=hcc15 2 _ rfl
            have hx15_3:World.cell? _ ⟨go14,((ji9):Int).toNat * 6 + 3,none⟩=some ((svv ((rd_T174 y106 (ji9)).f1.f2))):=hcc15 3 _ rfl
            have hx15_4:World.cell? _ ⟨go14,((ji9):Int).toNat * 6 + 4,none⟩=some (.int .i64 ((rd_T174 y106 (ji9)).f1.f3.f0)):=hcc15 4 _ rfl
            have hx15_5:World.cell? _ ⟨go14,((ji9):Int).toNat * 6 + 5,none⟩=some (.int .i64 ((rd_T174 y106 (ji9)).f1.f3.f1)):=hcc15 5 _ rfl
            have hf15_0:World.frozen? _ ⟨go14,((ji9):Int).toNat * 6,none⟩=false:=hfr15 0
            have hf15_1:World.frozen? _ ⟨go14,((ji9):Int).toNat * 6 + 1,none⟩=false:=hfr15 1
            have hf15_2:World.frozen? _ ⟨go14,((ji9):Int).toNat * 6 + 2,none⟩=false:=hfr15 2
            have hf15_3:World.frozen? _ ⟨go14,((ji9):Int).toNat * 6 + 3,none⟩=false:=hfr15 3
            have hf15_4:World.frozen? _ ⟨go14,((ji9):Int).toNat * 6 + 4,none⟩=false:=hfr15 4
            have hf15_5:World.frozen? _ ⟨go14,((ji9):Int).toNat * 6 + 5,none⟩=false:=hfr15 5
            clear hcl15 hcc15 hfr15 hM15
            replace p15:=eq_true p15
            replace q15:=eq_true q15
            obtain ⟨ce21,hcl21,hM21,hcc21,hfr21⟩:=Kd.R_elem HQ20.out z174 ((ji9):Int) (of_decide_eq_true asm) (by have h_:((ji9):Int) < ((x0_2.length:Int):Int):=of_decide_eq_true asm;first | exact h_ | (have e_:=(Kd.R_reads' HO_0.out).1;omega) | simpa using h_)
            obtain rfl:=k174_openM hM21
            have HP21:=(Kd.R_seg HQ20.out ((ji9):Int) (of_decide_eq_true asm) (by have h_:((ji9):Int) < ((x0_2.length:Int):Int):=of_decide_eq_true asm;first | exact h_ | (have e_:=(Kd.R_reads' HO_0.out).1;omega) | simpa using h_) (seg:=[.int .i64 ((rd_T174 x0_2 x9_2).f0),.int .i64 ((rd_T174 x0_2 x9_2).f1.f0),.int .i64 ((rd_T174 x0_2 x9_2).f1.f1),(svv ((rd_T174 x0_2 x9_2).f1.f2)),.int .i64 ((rd_T174 x0_2 x9_2).f1.f3.f0),.int .i64 ((rd_T174 x0_2 x9_2).f1.f3.f1)]) (j:=0) hcl21 hcc21 (show 6 ≤ 6 from by decide) (x':=(⟨(rd_T174 x0_2 x9_2).f0,(⟨(rd_T174 x0_2 x9_2).f1.f0,(rd_T174 x0_2 x9_2).f1.f1,(rd_T174 x0_2 x9_2).f1.f2,(⟨(rd_T174 x0_2 x9_2).f1.f3.f0,(rd_T174 x0_2 x9_2).f1.f3.f1⟩:S58)⟩:S172)⟩:S174)) (k174_mkM _ _ _ (⟨(rd_T174 x0_2 x9_2).f0,(⟨(rd_T174 x0_2 x9_2).f1.f0,(rd_T174 x0_2 x9_2).f1.f1,(rd_T174 x0_2 x9_2).f1.f2,(⟨(rd_T174 x0_2 x9_2).f1.f3.f0,(rd_T174 x0_2 x9_2).f1.f3.f1⟩:S58)⟩:S172)⟩:S174) ) (fun _ hk => hk)).1
            rw [← Ny107.out] at HP21
            have HQ21:=ak HP21
            clear hcl21 hcc21 hfr21 hM21 HP21
            have hlt_:ji9 < x9_2:=by (have h1:(0:Int) ≤ ji9:=of_decide_eq_true asm;have h2:(0:Int) ≤ x9_2:=of_decide_eq_true asm;have h4:=hji9;unfold wrap64 at h4;omega)
            have hne_:¬ (x9_2.toNat=ji9.toNat):=(by have h1:(0:Int) ≤ ji9:=of_decide_eq_true asm;omega)
            have hne2_:¬ (ji9.toNat=x9_2.toNat):=fun h => hne_ h.symm
            obtain ⟨cA_,hA1_,hA2_,hA3_,hfA_⟩:=Kd.R_elem HO_0.out z174 ((ji9):Int) (of_decide_eq_true asm) (by have h_:((ji9):Int) < ((x0_2.length:Int):Int):=of_decide_eq_true asm;exact h_)
            have hfA_0:World.frozen? _ ⟨go14,((ji9):Int).toNat * 6,none⟩=false:=hfA_ 0
            have hfA_1:World.frozen? _ ⟨go14,((ji9):Int).toNat * 6 + 1,none⟩=false:=hfA_ 1
            have hfA_2:World.frozen? _ ⟨go14,((ji9):Int).toNat * 6 + 2,none⟩=false:=hfA_ 2
            have hfA_3:World.frozen? _ ⟨go14,((ji9):Int).toNat * 6 + 3,none⟩=false:=hfA_ 3
            have hfA_4:World.frozen? _ ⟨go14,((ji9):Int).toNat * 6 + 4,none⟩=false:=hfA_ 4
            have hfA_5:World.frozen? _ ⟨go14,((ji9):Int).toNat * 6 + 5,none⟩=false:=hfA_ 5
            clear hA1_ hA2_ hA3_ hfA_
            refine start_ (n:=18) (S:=fun w' => w'.cell? ⟨go14,((ji9)).toNat * 6,none⟩=some (.int .i64 ((rd_T174 x0_2 (ji9)).f0))∧w'.cell? ⟨go14,((ji9)).toNat * 6 + 1,none⟩=some (.int .i64 ((rd_T174 x0_2 (ji9)).f1.f0))∧w'.cell? ⟨go14,((ji9)).toNat * 6 + 2,none⟩=some (.int .i64 ((rd_T174 x0_2 (ji9)).f1.f1))∧w'.cell? ⟨go14,((ji9)).toNat * 6 + 3,none⟩=some ((svv ((rd_T174 x0_2 (ji9)).f1.f2)))∧w'.cell? ⟨go14,((ji9)).toNat * 6 + 4,none⟩=some (.int .i64 ((rd_T174 x0_2 (ji9)).f1.f3.f0))∧w'.cell? ⟨go14,((ji9)).toNat * 6 + 5,none⟩=some (.int .i64 ((rd_T174 x0_2 (ji9)).f1.f3.f1))∧w'.cell? ⟨go14,((x9_2).toNat * 6),none⟩=some (.int .i64 ((rd_T174 x0_2 x9_2).f0))∧w'.cell? ⟨go14,((x9_2).toNat * 6) + 1,none⟩=some (.int .i64 ((rd_T174 x0_2 x9_2).f1.f0))∧w'.cell? ⟨go14,((x9_2).toNat * 6) + 2,none⟩=some (.int .i64 ((rd_T174 x0_2 x9_2).f1.f1))∧w'.cell? ⟨go14,((x9_2).toNat * 6) + 3,none⟩=some ((svv ((rd_T174 x0_2 x9_2).f1.f2)))∧w'.cell? ⟨go14,((x9_2).toNat * 6) + 4,none⟩=some (.int .i64 ((rd_T174 x0_2 x9_2).f1.f3.f0))∧w'.cell? ⟨go14,((x9_2).toNat * 6) + 5,none⟩=some (.int .i64 ((rd_T174 x0_2 x9_2).f1.f3.f1))) (ds:=[15,17]) #[false,false,false,false,false,false,false,false,false,false,false,false,false,false,false,false,false,false] kr rfl rfl ⟨hx104_0,hx104_1,hx104_2,hx104_3,hx104_4,hx104_5,hx105_0,hx105_1,hx105_2,hx105_3,hx105_4,hx105_5⟩ (fun hHeld => ?_);refine with_tabW slices_insertion_at.tab6 slices_insertion_at.bits6 (fun HT_ HW_ => ?_)
            generalize w18.drew=w19 at hfA_0 hfA_1 hfA_2 hfA_3 hfA_4 hfA_5 HO_0 HK HB GG14 HQ20 HQ21 hf14_0 hf14_1 hf14_2 hf14_3 hf14_4 hf14_5 hf15_0 hf15_1 hf15_2 hf15_3 hf15_4 hf15_5 hx101_0 hx101_1 hx101_2 hx101_3 hx101_4 hx101_5 hx102_0 hx102_1 hx102_2 hx102_3 hx102_4 hx102_5 hx104_0 hx104_1 hx104_2 hx104_3 hx104_4 hx104_5 hx105_0 hx105_1 hx105_2 hx105_3 hx105_4 hx105_5 hx14_0 hx14_1 hx14_2 hx14_3 hx14_4 hx14_5 hx15_0 hx15_1 hx15_2 hx15_3 hx15_4 hx15_5 hHeld ⊢
            refine pS 0 (some 37) ?_
            refine pS 1 (some 38) ?_
            refine pS 2 (some 39) ?_
            refine pS 3 (some 40) ?_
            refine pS 4 (some 41) ?_
            refine pS 5 (some 42) ?_
            refine pS 6 (some 43) ?_
            refine pS 7 (some 44) ?_
            refine pS 8 (some 45) ?_
            refine pS 10 (some 47) ?_
            refine pS 11 (some 48) ?_
            refine pS 12 (some 49) ?_
            refine pT 9 (some 46) ?_
            refine pT 13 (some 50) ?_
            refine pS 14 (some 51) ?_
            refine last_ (i:=15) (N:=none) #[true,true,true,true,true,true,true,true,true,true,true,true,true,true,true,true,false,false] rfl rfl (one_of HT_.out kr) (by decide) (fun K hK => ?_)
            refine skip_ (w1:=?_) (by rfl) rfl ?_ ?_
            rotate_left
            ·
             go_simp
             rfl
            refine hK.out _ _ ?_
            clear hK K
            refine pS 16 (some 52) ?_
            refine last_ (i:=17) (N:=none) #[true,true,true,true,true,true,true,true,true,true,true,true,true,true,true,true,true,true] rfl rfl (one_of HT_.out kr) (by decide) (fun K hK => ?_)
            refine skip_ (w1:=?_) (by rfl) rfl ?_ ?_
            rotate_left
            ·
             go_simp
             rfl
            refine hK.out _ _ ?_
            clear hK K
            refine done_ (done_of HT_.out kr) ?_
            try go_wp2
            go_roundg k2
            case measure => have:=HK1.out;have:=HK2.out;omega
            case rel => exact ⟨(y107),(ji9),(by first | rfl | (simp;done) | (simp only [← hji9] <;> (first | rfl | simp)) | (simp [*];done)),H',⟨by have:=HK1.out;have:=HK2.out;omega⟩,⟨by (with_reducible repeat (first | apply Kd.R_alloc | apply Kd.R_drewN | apply Kd.R_drew));exact HQ21.out⟩,⟨by repeat (first | (with_reducible first | exact HK.out | apply Kept.alloc | apply Kept.drewN | apply Kept.drew | refine Kept.setCell ?_ HMgo14.out _ | refine Kept.setCell ?_ HMgo14.out _ | refine Kept.setCell ?_ HMgo14.out _ | refine Kept.setCell ?_ HMgo14.out _ | refine Kept.setCell ?_ HMgo14.out _ | refine Kept.setCell ?_ HMgo14.out _ | refine Kept.setCell ?_ HMgo14.out _ | refine Kept.setCell ?_ HMgo14.out _ | refine Kept.setCell ?_ HMgo14.out _ | refine Kept.setCell ?_ HMgo14.out _ | refine Kept.setCell ?_ HMgo14.out _ | refine Kept.setCell ?_ HMgo14.out _) | exact HK.out)⟩,⟨by repeat (first | (with_reducible first | exact HB.out | apply below_alloc | apply pw_below_drewN | apply below_drew1 | refine below_set ?_ GB14.out | refine below_set ?_ GB14.out | refine below_set ?_ GB14.out | refine below_set ?_ GB14.out | refine below_set ?_ GB14.out | refine below_set ?_ GB14.out | refine below_set ?_ GB14.out | refine below_set ?_ GB14.out | refine below_set ?_ GB14.out | refine below_set ?_ GB14.out | refine below_set ?_ GB14.out | refine below_set ?_ GB14.out) | exact HB.out)⟩⟩
           ·
            rw [if_neg c13] at H
            have c13b0:decide (t103 < 0)=false:=decide_eq_false c13
            clear c13
            have H':=ak H
            clear H
            try go_wp2
            have n0_:=ak (Kd.R_drew HO_0.out)
            have n1_:=ak (Kept.drew HK.out)
            have n2_:=ak (below_drew1 HB.out)
            clear HO_0
            clear HK
            clear HB
            have HO_0:=n0_
            have HK:=n1_
            have HB:=n2_
            clear n0_ n1_ n2_
            obtain ⟨Ao23,co23,eo23⟩:=Kd.R_slice HO_0.out
            (first | subst eo23 | (injection eo23 with f1_ f2_ f3_;have f4_:=f1_.symm;have f5_:=f3_.symm;clear f1_ f2_ f3_;subst f4_;subst f5_))
            have p101:0 ≤ (x9_2:Int):=of_decide_eq_true asm
            have q101:x9_2 < (x0_2.length:Int):=of_decide_eq_true asm
            obtain ⟨ad101,e101,hx101_0,hx101_1,hx101_2,hx101_3,hx101_4,hx101_5⟩:=at_T174 (Kd.R_reads' HO_0.out).2.2 x9_2 p101 q101
            cases e101
            replace p101:=eq_true p101
            replace q101:=eq_true q101
            have p102:0 ≤ ((ji9):Int):=of_decide_eq_true asm
            have q102:(ji9) < (x0_2.length:Int):=of_decide_eq_true asm
            obtain ⟨ad102,e102,hx102_0,hx102_1,hx102_2,hx102_3,hx102_4,hx102_5⟩:=at_T174 (Kd.R_reads' HO_0.out).2.2 (ji9) p102 q102
            obtain rfl:ad101=ad102:=(by injection e102)
            replace p102:=eq_true p102
            replace q102:=eq_true q102
            refine start_ (n:=17) (S:=fun w' => w'.cell? (ad101.add ((x9_2).toNat * 6))=some (.int .i64 ((rd_T174 x0_2 x9_2).f0))∧w'.cell? ⟨(ad101.add ((x9_2).toNat * 6)).block,(ad101.add ((x9_2).toNat * 6)).off + 1,none⟩=some (.int .i64 ((rd_T174 x0_2 x9_2).f1.f0))∧w'.cell? ⟨(ad101.add ((x9_2).toNat * 6)).block,(ad101.add ((x9_2).toNat * 6)).off + 2,none⟩=some (.int .i64 ((rd_T174 x0_2 x9_2).f1.f1))∧w'.cell? ⟨(ad101.add ((x9_2).toNat * 6)).block,(ad101.add ((x9_2).toNat * 6)).off + 3,none⟩=some ((svv ((rd_T174 x0_2 x9_2).f1.f2)))∧w'.cell? ⟨(ad101.add ((x9_2).toNat * 6)).block,(ad101.add ((x9_2).toNat * 6)).off + 4,none⟩=some (.int .i64 ((rd_T174 x0_2 x9_2).f1.f3.f0))∧w'.cell? ⟨(ad101.add ((x9_2).toNat * 6)).block,(ad101.add ((x9_2).toNat * 6)).off + 5,none⟩=some (.int .i64 ((rd_T174 x0_2 x9_2).f1.f3.f1))∧w'.cell? (ad101.add (((ji9)).toNat * 6))=some (.int .i64 ((rd_T174 x0_2 (ji9)).f0))∧w'.cell? ⟨(ad101.add (((ji9)).toNat * 6)).block,(ad101.add (((ji9)).toNat * 6)).off + 1,none⟩=some (.int .i64 ((rd_T174 x0_2 (ji9)).f1.f0))∧w'.cell? ⟨(ad101.add (((ji9)).toNat * 6)).block,(ad101.add (((ji9)).toNat * 6)).off + 2,none⟩=some (.int .i64 ((rd_T174 x0_2 (ji9)).f1.f1))∧w'.cell? ⟨(ad101.add (((ji9)).toNat * 6)).block,(ad101.add (((ji9)).toNat * 6)).off + 3,none⟩=some ((svv ((rd_T174 x0_2 (ji9)).f1.f2)))∧w'.cell? ⟨(ad101.add (((ji9)).toNat * 6)).block,(ad101.add (((ji9)).toNat * 6)).off + 4,none⟩=some (.int .i64 ((rd_T174 x0_2 (ji9)).f1.f3.f0))∧w'.cell? ⟨(ad101.add (((ji9)).toNat * 6)).block,(ad101.add (((ji9)).toNat * 6)).off + 5,none⟩=some (.int .i64 ((rd_T174 x0_2 (ji9)).f1.f3.f1))) (ds:=[]) #[false,false,false,false,false,false,false,false,false,false,false,false,false,false,false,false,false] kr rfl rfl ⟨hx101_0,hx101_1,hx101_2,hx101_3,hx101_4,hx101_5,hx102_0,hx102_1,hx102_2,hx102_3,hx102_4,hx102_5⟩ (fun hHeld => ?_);refine with_tabW slices_insertion_at.tab4 slices_insertion_at.bits4 (fun HT_ HW_ => ?_)
            generalize wr.drew=w22 at HO_0 HK HB hx101_0 hx101_1 hx101_2 hx101_3 hx101_4 hx101_5 hx102_0 hx102_1 hx102_2 hx102_3 hx102_4 hx102_5 hHeld ⊢
            refine pS 0 (some 18) ?_
            refine pS 1 (some 19) ?_
            refine pS 2 (some 20) ?_
            refine pS 3 (some 21) ?_
            refine pS 4 (some 22) ?_
            refine pS 5 (some 23) ?_
            refine pS 6 (some 24) ?_
            refine pS 7 (some 25) ?_
            refine pS 9 (some 27) ?_
            refine pS 10 (some 28) ?_
            refine pS 11 (some 29) ?_
            refine pS 12 (some 30) ?_
            refine pT 8 (some 26) ?_
            refine pT 13 (some 31) ?_
            refine one_ (i:=14) (N:=some 32) #[true,true,true,true,true,true,true,true,true,true,true,true,true,true,true,false,false] rfl rfl (one_of HT_.out kr) (by decide) (fun K hK => ?_)
            refine goesT_ Tryz.func46 kr rfl #[.agg #[.int .i64 ((rd_T174 x0_2 x9_2).f0),.int .i64 ((rd_T174 x0_2 x9_2).f1.f0),.int .i64 ((rd_T174 x0_2 x9_2).f1.f1),(svv ((rd_T174 x0_2 x9_2).f1.f2)),.int .i64 ((rd_T174 x0_2 x9_2).f1.f3.f0),.int .i64 ((rd_T174 x0_2 x9_2).f1.f3.f1)],.agg #[.int .i64 ((rd_T174 x0_2 (ji9)).f0),.int .i64 ((rd_T174 x0_2 (ji9)).f1.f0),.int .i64 ((rd_T174 x0_2 (ji9)).f1.f1),(svv ((rd_T174 x0_2 (ji9)).f1.f2)),.int .i64 ((rd_T174 x0_2 (ji9)).f1.f3.f0),.int .i64 ((rd_T174 x0_2 (ji9)).f1.f3.f1)]] (by rfl) rfl rfl rfl (by (try simp only [List.map_toArray,List.map_cons,List.map_nil]);first | done | (simp only [hji9];rfl) | rfl | (simp only [List.length_drop,List.length_take];rfl)) ?_
            with_reducible refine (cmpT.calls w0 ((rd_T174 x0_2 x9_2).f0) ((rd_T174 x0_2 x9_2).f1.f0) ((rd_T174 x0_2 x9_2).f1.f1) ((rd_T174 x0_2 x9_2).f1.f2) ((rd_T174 x0_2 x9_2).f1.f3.f0) ((rd_T174 x0_2 x9_2).f1.f3.f1) ((rd_T174 x0_2 (ji9)).f0) ((rd_T174 x0_2 (ji9)).f1.f0) ((rd_T174 x0_2 (ji9)).f1.f1) ((rd_T174 x0_2 (ji9)).f1.f2) ((rd_T174 x0_2 (ji9)).f1.f3.f0) ((rd_T174 x0_2 (ji9)).f1.f3.f1) t103 _ bx A12.out).mono ?_
            rintro e w24 ⟨rfl,hb⟩
            have HS0_:=(hb.cell (World.block_lt_of_cell? _ _ (hHeld.1))).trans (hHeld.1)
            have HS1_:=(hb.cell (World.block_lt_of_cell? _ _ (hHeld.2.1))).trans (hHeld.2.1)
            have HS2_:=(hb.cell (World.block_lt_of_cell? _ _ (hHeld.2.2.1))).trans (hHeld.2.2.1)
            have HS3_:=(hb.cell (World.block_lt_of_cell? _ _ (hHeld.2.2.2.1))).trans (hHeld.2.2.2.1)
            have HS4_:=(hb.cell (World.block_lt_of_cell? _ _ (hHeld.2.2.2.2.1))).trans (hHeld.2.2.2.2.1)
            have HS5_:=(hb.cell (World.block_lt_of_cell? _ _ (hHeld.2.2.2.2.2.1))).trans (hHeld.2.2.2.2.2.1)
            have HS6_:=(hb.cell (World.block_lt_of_cell? _ _ (hHeld.2.2.2.2.2.2.1))).trans (hHeld.2.2.2.2.2.2.1)
            have HS7_:=(hb.cell (World.block_lt_of_cell? _ _ (hHeld.2.2.2.2.2.2.2.1))).trans (hHeld.2.2.2.2.2.2.2.1)
            have HS8_:=(hb.cell (World.block_lt_of_cell? _ _ (hHeld.2.2.2.2.2.2.2.2.1))).trans (hHeld.2.2.2.2.2.2.2.2.1)
            have HS9_:=(hb.cell (World.block_lt_of_cell? _ _ (hHeld.2.2.2.2.2.2.2.2.2.1))).trans (hHeld.2.2.2.2.2.2.2.2.2.1)
            have HS10_:=(hb.cell (World.block_lt_of_cell? _ _ (hHeld.2.2.2.2.2.2.2.2.2.2.1))).trans (hHeld.2.2.2.2.2.2.2.2.2.2.1)
            have HS11_:=(hb.cell (World.block_lt_of_cell? _ _ (hHeld.2.2.2.2.2.2.2.2.2.2.2))).trans (hHeld.2.2.2.2.2.2.2.2.2.2.2)
            refine ⟨_,rfl,?_⟩
            have n0_:=ak (Kd.R_below (rx HO_0) hb)
            have n1_:=ak (Kept.below (S:=(fun k_ => P0_ k_)) (by repeat (first | (with_reducible first | exact HK.out | apply Kept.alloc | apply Kept.drewN | apply Kept.drew) | exact HK.out)) hb)
            have n2_:=ak (below_step bx hb)
            clear HO_0
            clear HK
            clear HB
            have HO_0:=n0_
            have HK:=n1_
            have HB:=n2_
            clear n0_ n1_ n2_
            (try clear hb)
            (try clear hb2)
            (try clear hk)
            (try clear hi)
            refine hK.out _ _ ⟨HS0_,HS1_,HS2_,HS3_,HS4_,HS5_,HS6_,HS7_,HS8_,HS9_,HS10_,HS11_⟩ (fun hHeld => ?_)
            clear hK K
            refine norm_ (a':=?_) ?_ ?_
            rotate_left
            ·
             show Act.put _ (some 32) _=_
             simp only [Act.put,List.setIfInBounds_toArray,List.set_cons_zero,List.set_cons_succ,i64_w,i32_w]
             rfl
            refine pS 15 (some 33) ?_
            refine pS 16 (some 34) ?_
            refine done_ (done_of HT_.out kr) ?_
            try go_wp2
            go_roundg k2
            case measure => have:=HK1.out;have:=HK2.out;omega
            case rel => exact ⟨(x0_2),(wrap64 (x8_1 + 1)),rf,H',⟨by have:=HK1.out;have:=HK2.out;omega⟩,⟨by (with_reducible repeat (first | apply Kd.R_alloc | apply Kd.R_drewN | apply Kd.R_drew));exact HO_0.out⟩,⟨by repeat (first | (with_reducible first | exact HK.out | apply Kept.alloc | apply Kept.drewN | apply Kept.drew) | exact HK.out)⟩,⟨bx⟩⟩
          ·
           rw [if_neg c11] at H
           exact absurd H (by simp)
         ·
          rw [if_neg c10] at H
          exact absurd H (by simp)
        ·
         rw [if_neg c8] at H
         exact absurd H (by simp)
       ·
        rw [if_neg c7] at H
        exact absurd H (by simp)
      ·
       rw [if_neg c6] at H
       have c6b0:decide (a1 < x9_2)=false:=decide_eq_false c6
       clear c6
       have H':=ak H
       clear H
       try go_wp2
       have n0_:=ak (Kd.R_drew HO_0.out)
       have n1_:=ak (Kept.drew HK.out)
       have n2_:=ak (below_drew1 HB.out)
       clear HO_0
       clear HK
       clear HB
       have HO_0:=n0_
       have HK:=n1_
       have HB:=n2_
       clear n0_ n1_ n2_
       refine start_ (n:=17) (S:=fun w' => True) (ds:=[]) #[false,false,false,false,false,false,false,false,false,false,false,false,false,false,false,false,false] kr rfl rfl trivial (fun hHeld => ?_);refine with_tabW slices_insertion_at.tab4 slices_insertion_at.bits4 (fun HT_ HW_ => ?_)
       generalize wr.drew=w25 at HO_0 HK HB hHeld ⊢
       refine pS 0 (some 18) ?_
       refine pS 1 (some 19) ?_
       refine pS 2 (some 20) ?_
       refine pS 3 (some 21) ?_
       refine pU 4 (some 22) ?_
       refine pU 5 (some 23) ?_
       refine pU 6 (some 24) ?_
       refine pU 7 (some 25) ?_
       refine pU 8 (some 26) ?_
       refine pU 9 (some 27) ?_
       refine pU 10 (some 28) ?_
       refine pU 11 (some 29) ?_
       refine pU 12 (some 30) ?_
       refine pU 13 (some 31) ?_
       refine pU 14 (some 32) ?_
       refine pU 15 (some 33) ?_
       refine pS 16 (some 34) ?_
       refine done_ (done_of HT_.out kr) ?_
       try go_wp2
       go_roundg k2
       case measure => have:=HK1.out;have:=HK2.out;omega
       case rel => exact ⟨(x0_2),(wrap64 (x8_1 + 1)),rf,H',⟨by have:=HK1.out;have:=HK2.out;omega⟩,⟨by (with_reducible repeat (first | apply Kd.R_alloc | apply Kd.R_drewN | apply Kd.R_drew));exact HO_0.out⟩,⟨by repeat (first | (with_reducible first | exact HK.out | apply Kept.alloc | apply Kept.drewN | apply Kept.drew) | exact HK.out)⟩,⟨bx⟩⟩
   ·
    rw [if_neg c5] at H
    have c5b0:decide (x8_1 < a2)=false:=decide_eq_false c5
    clear c5
    obtain rfl:=Option.some.inj H
    go_wp2
    first | go_end0 | ((try simp only [Exit.inBlock,Exit.then]);refine bodyPost_ret (results_none rfl _ _ _) rfl ?_)
    exact ⟨by first | rfl | (simp [errW_none,errW_some] <;> rfl) | (simp [*,errW_none,errW_some] <;> rfl),by (with_reducible repeat (first | apply Kd.R_alloc | apply Kd.R_drewN | apply Kd.R_drew));exact HO_0.out,bx,by repeat (first | (with_reducible first | exact HK.out | apply Kept.alloc | apply Kept.drewN | apply Kept.drew) | exact HK.out)⟩
end
end Go.Proofs.YtkemjdedikobfaaGreatDoor.PSx
namespace Go.Proofs.YtkemjdedikobfaaGreatDoor.PSx
open PFx (S95 z95 k95 k95_open k95_openM k95_mk k95_mkM rd_T95 at_T95)
noncomputable section
variable (W0:World)
open Go.Proofs.YtkemjdedikobfaaGreatDoor.Sh
open Go.RowKit Go.Proofs.YtkemjdedikobfaaGreatDoorW.PrintWords Go.Proofs.YtkemjdedikobfaaGreatDoorW.PrintLast Go.Proofs.YtkemjdedikobfaaGreatDoorW.PrintMore
attribute [local go_sem] max2_int min2_int max_two min_two max_three min_three max_four min_four   -- for this text's walks alone
set_option linter.unusedVariables false
set_option linter.unusedSimpArgs false
mutual
def slices_stable_at.l0:Nat→List (S174)→Int→Nat→Int→Int→Int→Option ((List (S174)))
 | 0,_,_,_,_,_,_ => none
 | k + 1,x0,x1,x2,x6,x7,x8 => if x8 ≤ x1 then ((slices_insertion_at.f W0 k x0 x7 x8 x2).bind fun t108 => (slices_stable_at.l0 k t108 x1 x2 x6 x8 (wrap64 (x8 + x6)))) else ((slices_insertion_at.f W0 k x0 x7 x1 x2).bind fun t109 => (slices_stable_at.l1 k t109 x1 x2 x6))
def slices_stable_at.l1:Nat→List (S174)→Int→Nat→Int→Option ((List (S174)))
 | 0,_,_,_,_ => none
 | k + 1,x0,x1,x2,x6 => if x6 < x1 then (slices_stable_at.l2 k x0 x1 x2 x6 0 (wrap64 (2 * x6))) else (some x0)
def slices_stable_at.l2:Nat→List (S174)→Int→Nat→Int→Int→Int→Option ((List (S174)))
 | 0,_,_,_,_,_,_ => none
 | k + 1,x0,x1,x2,x6,x7,x8 => if x8 ≤ x1 then ((symM.f W0 x0 x7 (wrap64 (x7 + x6)) x8 x2).bind fun _ => (slices_stable_at.l2 k x0 x1 x2 x6 x8 (wrap64 (x8 + (wrap64 (2 * x6)))))) else (if (wrap64 (x7 + x6)) < x1 then ((symM.f W0 x0 x7 (wrap64 (x7 + x6)) x1 x2).bind fun _ => (slices_stable_at.l1 k x0 x1 x2 (wrap64 (x6 * 2)))) else (slices_stable_at.l1 k x0 x1 x2 (wrap64 (x6 * 2))))
end
def slices_stable_at.f (k:Nat) (l0:List (S174)) (a1:Int) (a2:Nat):Option ((List (S174))):=slices_stable_at.l0 W0 k l0 a1 a2 20 0 20
theorem slices_stable_at.mono_l:∀ k,(∀ y0 y1 y2 y3 y4 y5,LeO (slices_stable_at.l0 W0 k y0 y1 y2 y3 y4 y5) (slices_stable_at.l0 W0 (k + 1) y0 y1 y2 y3 y4 y5))∧(∀ y0 y1 y2 y3,LeO (slices_stable_at.l1 W0 k y0 y1 y2 y3) (slices_stable_at.l1 W0 (k + 1) y0 y1 y2 y3))∧(∀ y0 y1 y2 y3 y4 y5,LeO (slices_stable_at.l2 W0 k y0 y1 y2 y3 y4 y5) (slices_stable_at.l2 W0 (k + 1) y0 y1 y2 y3 y4 y5))
 | 0 => ⟨fun _ _ _ _ _ _ r h => by simp [slices_stable_at.l0] at h,fun _ _ _ _ r h => by simp [slices_stable_at.l1] at h,fun _ _ _ _ _ _ r h => by simp [slices_stable_at.l2] at h⟩
 | k + 1 => by
  obtain ⟨ih0,ih1,ih2⟩:=slices_stable_at.mono_l k
  refine ⟨?_,?_,?_⟩
  ·
   intro y0 y1 y2 y3 y4 y5
   unfold slices_stable_at.l0
   repeat' first
   | (with_reducible exact ih0 _ _ _ _ _ _)
   | (with_reducible exact ih1 _ _ _ _)
   | (with_reducible exact ih2 _ _ _ _ _ _)
   | (with_reducible exact slices_insertion_at.mono W0 _ _ _ _ _)
   | (with_reducible exact LeO.refl _)
   | (with_reducible exact LeO.none _)
   | (with_reducible refine LeO.ite ?_ ?_)
   | (with_reducible refine LeO.bind ?_ (fun _ => ?_))
   | exact ih0 _ _ _ _ _ _
   | exact ih1 _ _ _ _
   | exact ih2 _ _ _ _ _ _
   | exact slices_insertion_at.mono W0 _ _ _ _ _
   | exact LeO.none _
   | refine LeO.ite ?_ ?_
   | refine LeO.bind ?_ (fun _ => ?_)
  ·
   intro y0 y1 y2 y3
   unfold slices_stable_at.l1
   repeat' first
   | (with_reducible exact ih0 _ _ _ _ _ _)
   | (with_reducible exact ih1 _ _ _ _)
   | (with_reducible exact ih2 _ _ _ _ _ _)
   | (with_reducible exact slices_insertion_at.mono W0 _ _ _ _ _)
   | (with_reducible exact LeO.refl _)
   | (with_reducible exact LeO.none _)
   | (with_reducible refine LeO.ite ?_ ?_)
   | (with_reducible refine LeO.bind ?_ (fun _ => ?_))
   | exact ih0 _ _ _ _ _ _
   | exact ih1 _ _ _ _
   | exact ih2 _ _ _ _ _ _
   | exact slices_insertion_at.mono W0 _ _ _ _ _
   | exact LeO.none _
   | refine LeO.ite ?_ ?_
   | refine LeO.bind ?_ (fun _ => ?_)
  ·
   intro y0 y1 y2 y3 y4 y5
   unfold slices_stable_at.l2
   repeat' first
   | (with_reducible exact ih0 _ _ _ _ _ _)
   | (with_reducible exact ih1 _ _ _ _)
   | (with_reducible exact ih2 _ _ _ _ _ _)
   | (with_reducible exact slices_insertion_at.mono W0 _ _ _ _ _)
   | (with_reducible exact LeO.refl _)
   | (with_reducible exact LeO.none _)
   | (with_reducible refine LeO.ite ?_ ?_)
   | (with_reducible refine LeO.bind ?_ (fun _ => ?_))
   | exact ih0 _ _ _ _ _ _
   | exact ih1 _ _ _ _
   | exact ih2 _ _ _ _ _ _
   | exact slices_insertion_at.mono W0 _ _ _ _ _
   | exact LeO.none _
   | refine LeO.ite ?_ ?_
   | refine LeO.bind ?_ (fun _ => ?_)
theorem slices_stable_at.mono:∀ a0 a1 a2 k,LeO (slices_stable_at.f W0 k a0 a1 a2) (slices_stable_at.f W0 (k + 1) a0 a1 a2):=by
 intro a0 a1 a2 k
 obtain ⟨ih0,ih1,ih2⟩:=slices_stable_at.mono_l W0 k
 unfold slices_stable_at.f
 repeat' first
   | (with_reducible exact ih0 _ _ _ _ _ _)
   | (with_reducible exact ih1 _ _ _ _)
   | (with_reducible exact ih2 _ _ _ _ _ _)
   | (with_reducible exact slices_insertion_at.mono W0 _ _ _ _ _)
   | (with_reducible exact LeO.refl _)
   | (with_reducible exact LeO.none _)
   | (with_reducible refine LeO.ite ?_ ?_)
   | (with_reducible refine LeO.bind ?_ (fun _ => ?_))
   | exact ih0 _ _ _ _ _ _
   | exact ih1 _ _ _ _
   | exact ih2 _ _ _ _ _ _
   | exact slices_insertion_at.mono W0 _ _ _ _ _
   | exact LeO.none _
   | refine LeO.ite ?_ ?_
   | refine LeO.bind ?_ (fun _ => ?_)
set_option maxHeartbeats 8000000 in
set_option maxRecDepth 100000 in
theorem slices_stable_at.calls (k:Nat) (P0_:Nat→Prop) (u9000_:Value) (l0:List (S174)) (a1:Int) (a2:Nat) (r:List (S174)) (w0 w:World) (hB:Below w0.heap.size w0 w) (ho0:Kd.R k174 47 w w0.heap.size P0_ u9000_ l0) (h:slices_stable_at.f w0 k l0 a1 a2=some r) :
  Calls Tryz.prog 80 #[u9000_,.int .i64 a1,.func (.func 46) #[] #[]] w fun e w' => e=.returned (.tuple #[])∧Kd.R k174 47 w' w0.heap.size (fun k_ => (P0_ k_ ∨ w.heap.size ≤ k_)) u9000_ r∧Below w0.heap.size w0 w'∧Kept w w' (fun k_ => P0_ k_):=by
 have HO0:=ak (show Kd.R k174 47 w w0.heap.size (fun k_ => (P0_ k_ ∨ w.heap.size ≤ k_)) u9000_ l0 from Kd.R_mono ho0 (fun k_ hk => (.inl hk)))
 have HK:=ak (Kept.refl w (fun k_ => P0_ k_))
 have HW0:=ak hB.size
 have HB:=ak hB
 clear hB
 have H:(slices_stable_at.l0 w0 k l0 a1 a2 20 0 20)=some r:=h
 clear h
 have H':=ak H
 clear H
 go_enter Tryz.func80,Tryz.ntmps80
 go_wp2
 (try simp only [Act.put,List.setIfInBounds_toArray,List.set_cons_zero,List.set_cons_succ])
 go_loopg [7,8] k (fun kq v7 v8 w' => ∃ (x0_1:List (S174)) (x7_1:Int) (x8_1:Int),v7=.int .i64 x7_1∧v8=.int .i64 x8_1∧Aside0 (slices_stable_at.l0 w0 kq x0_1 a1 a2 20 x7_1 x8_1=some r)∧Aside0 (kq ≤ k)∧Aside0 (Kd.R k174 47 w' w0.heap.size (fun k_ => (P0_ k_ ∨ w.heap.size ≤ k_)) u9000_ x0_1)∧Aside0 (Kept w w' (fun k_ => P0_ k_))∧Aside0 (Below w0.heap.size w0 w'))
 case atStart => exact ⟨(l0),(0),(20),rf,rf,H',⟨Nat.le_refl _⟩,⟨by (with_reducible repeat (first | apply Kd.R_alloc | apply Kd.R_drewN | apply Kd.R_drew));exact HO0.out⟩,⟨by repeat (first | (with_reducible first | exact HK.out | apply Kept.alloc | apply Kept.drewN | apply Kept.drew) | exact HK.out)⟩,⟨bx⟩⟩
 case round =>
  clear H'
  try clear c1
  try clear p2
  obtain ⟨x0_1,x7_1,x8_1,rfl,rfl,HA,HK1,HO_0,HK,HB⟩:=hrel
  cases gk with
  | zero => exact absurd HA.out (by simp [slices_stable_at.l0])
  | succ k1 =>
   have H:=HA.out
   clear HA
   simp only [slices_stable_at.l0] at H
   by_cases c4:x8_1 ≤ a1
   ·
    rw [if_pos c4] at H
    have c4b0:decide (x8_1 ≤ a1)=true:=decide_eq_true c4
    clear c4
    replace H:=Option.bind_eq_some_iff.mp H
    obtain ⟨t108,A50,H⟩:=H
    replace H:(slices_stable_at.l0 w0 k1 t108 a1 a2 20 x8_1 (wrap64 (x8_1 + 20)))=some r:=H
    have A5:=ak A50
    clear A50
    have H':=ak H
    clear H
    obtain ⟨Ao6,co6,eo6⟩:=Kd.R_slice HO_0.out
    subst eo6
    go_wp2_with (first | ((with_reducible refine gate_callee (f:=121) rfl ?_);refine goesL_ (some 18) rfl rfl Tryz.func121 kr rfl #[.slice Ao6 x0_1.length co6,.int .i64 x7_1,.int .i64 x8_1,.func (.func 46) #[] #[]] rfl ag ?_;(with_reducible refine (slices_insertion_at.calls k1 (fun k_ => some k_=(.slice Ao6 x0_1.length co6:Value).ownBlock) (.slice Ao6 x0_1.length co6) x0_1 x7_1 x8_1 a2 t108 w0 _ ?side1 ?side2 A5.out).mono ?_);(case side1 => repeat (first | (with_reducible first | exact HB.out | apply below_alloc | apply pw_below_drewN | apply below_drew1) | exact HB.out));(case side2 => exact Kd.R_tight rfl HO_0.out);rintro e w7 ⟨rfl,hy0,hb,hkp⟩;refine ⟨_,rfl,?_⟩;have n0_:=ak (Kd.R_reok rfl hy0 (fun k_ e_ => HO_0.out.1 k_ e_));have n1_:=ak (Kept.then_ (S:=(fun k_ => P0_ k_)) (by repeat (first | (with_reducible first | exact HK.out | apply Kept.alloc | apply Kept.drewN | apply Kept.drew) | exact HK.out)) hkp (fun k_ hs_ => (fun e_ => (HO_0.out.1 k_ e_.symm)) hs_));have n2_:=ak (hb);clear HO_0 HK HB;have HO_0:=n0_;have HK:=n1_;have HB:=n2_;clear n0_ n1_ n2_;(try clear hb);(try clear hkp);(try clear hy0)))
    go_roundg k1
    case measure => have:=HK1.out;omega
    case rel => exact ⟨(t108),(x8_1),(wrap64 (x8_1 + 20)),rf,rf,H',⟨by have:=HK1.out;omega⟩,⟨by (with_reducible repeat (first | apply Kd.R_alloc | apply Kd.R_drewN | apply Kd.R_drew));exact HO_0.out⟩,⟨by repeat (first | (with_reducible first | exact HK.out | apply Kept.alloc | apply Kept.drewN | apply Kept.drew) | exact HK.out)⟩,⟨bx⟩⟩
   ·
    rw [if_neg c4] at H
    have c4b0:decide (x8_1 ≤ a1)=false:=decide_eq_false c4
    clear c4
    replace H:=Option.bind_eq_some_iff.mp H
    obtain ⟨t109,A80,H⟩:=H
    replace H:(slices_stable_at.l1 w0 k1 t109 a1 a2 20)=some r:=H
    have A8:=ak A80
    clear A80
    have H':=ak H
    clear H
    obtain ⟨Ao9,co9,eo9⟩:=Kd.R_slice HO_0.out
    subst eo9
    go_wp2_with (first | ((with_reducible refine gate_callee (f:=121) rfl ?_);refine goesL_ (some 27) rfl rfl Tryz.func121 kr rfl #[.slice Ao9 x0_1.length co9,.int .i64 x7_1,.int .i64 a1,.func (.func 46) #[] #[]] rfl ag ?_;(with_reducible refine (slices_insertion_at.calls k1 (fun k_ => some k_=(.slice Ao9 x0_1.length co9:Value).ownBlock) (.slice Ao9 x0_1.length co9) x0_1 x7_1 a1 a2 t109 w0 _ ?side1 ?side2 A8.out).mono ?_);(case side1 => repeat (first | (with_reducible first | exact HB.out | apply below_alloc | apply pw_below_drewN | apply below_drew1) | exact HB.out));(case side2 => exact Kd.R_tight rfl HO_0.out);rintro e w10 ⟨rfl,hy0,hb,hkp⟩;refine ⟨_,rfl,?_⟩;have n0_:=ak (Kd.R_reok rfl hy0 (fun k_ e_ => HO_0.out.1 k_ e_));have n1_:=ak (Kept.then_ (S:=(fun k_ => P0_ k_)) (by repeat (first | (with_reducible first | exact HK.out | apply Kept.alloc | apply Kept.drewN | apply Kept.drew) | exact HK.out)) hkp (fun k_ hs_ => (fun e_ => (HO_0.out.1 k_ e_.symm)) hs_));have n2_:=ak (hb);clear HO_0 HK HB;have HO_0:=n0_;have HK:=n1_;have HB:=n2_;clear n0_ n1_ n2_;(try clear hb);(try clear hkp);(try clear hy0)))
    (try simp only [Act.put,List.setIfInBounds_toArray,List.set_cons_zero,List.set_cons_succ])
    go_loopg [6] k1 (fun kq v6 w' => ∃ (x6_2:Int),v6=.int .i64 x6_2∧Aside0 (slices_stable_at.l1 w0 kq t109 a1 a2 x6_2=some r)∧Aside0 (kq ≤ k1)∧Aside0 (Kd.R k174 47 w' w0.heap.size (fun k_ => (P0_ k_ ∨ w.heap.size ≤ k_)) (.slice Ao9 x0_1.length co9) t109)∧Aside0 (Kept w w' (fun k_ => P0_ k_))∧Aside0 (Below w0.heap.size w0 w'))
    case atStart => exact ⟨(20),rf,H',⟨Nat.le_refl _⟩,⟨by (with_reducible repeat (first | apply Kd.R_alloc | apply Kd.R_drewN | apply Kd.R_drew));exact HO_0.out⟩,⟨by repeat (first | (with_reducible first | exact HK.out | apply Kept.alloc | apply Kept.drewN | apply Kept.drew) | exact HK.out)⟩,⟨bx⟩⟩
    case round =>
     clear H'
     try clear c1
     try clear p2 p2
     try clear c4
     try clear c4b0
     try clear p6
     try clear c10
     obtain ⟨x6_2,rfl,HA,HK2,HO_0,HK,HB⟩:=hrel
     have hl0_2:=(Kd.R_reads' HO_0.out).1
     rw [hl0_2] at HO_0
     (try simp only [hl0_2])
     cases gk with
     | zero => exact absurd HA.out (by simp [slices_stable_at.l1])
     | succ k2 =>
      have H:=HA.out
      clear HA
      simp only [slices_stable_at.l1] at H
      by_cases c11:x6_2 < a1
      ·
       rw [if_pos c11] at H
       have c11b0:decide (x6_2 < a1)=true:=decide_eq_true c11
       clear c11
       have H':=ak H
       clear H
       go_wp2
       (try simp only [Act.put,List.setIfInBounds_toArray,List.set_cons_zero,List.set_cons_succ])
       go_loopg [7,8] k2 (fun kq v7 v8 w' => ∃ (x7_3:Int) (x8_3:Int),v7=.int .i64 x7_3∧v8=.int .i64 x8_3∧Aside0 (slices_stable_at.l2 w0 kq t109 a1 a2 x6_2 x7_3 x8_3=some r)∧Aside0 (kq ≤ k2)∧Aside0 (Kd.R k174 47 w' w0.heap.size (fun k_ => (P0_ k_ ∨ w.heap.size ≤ k_)) (.slice Ao9 t109.length co9) t109)∧Aside0 (Kept w w' (fun k_ => P0_ k_))∧Aside0 (Below w0.heap.size w0 w'))
       case atStart => exact ⟨(0),(wrap64 (2 * x6_2)),rf,rf,H',⟨Nat.le_refl _⟩,⟨by (try simp only [hl0_2]);(with_reducible repeat (first | apply Kd.R_alloc | apply Kd.R_drewN | apply Kd.R_drew));exact HO_0.out⟩,⟨by repeat (first | (with_reducible first | exact HK.out | apply Kept.alloc | apply Kept.drewN | apply Kept.drew) | exact HK.out)⟩,⟨bx⟩⟩
       case round =>
        clear H'
        try clear c1
        try clear p2 p2
        try clear c4
        try clear c4b0
        try clear p6 p6
        try clear c10
        try clear c11
        try clear c11b0
        obtain ⟨x7_3,x8_3,rfl,rfl,HA,HK3,HO_0,HK,HB⟩:=hrel
        cases gk with
        | zero => exact absurd HA.out (by simp [slices_stable_at.l2])
        | succ k3 =>
         have H:=HA.out
         clear HA
         simp only [slices_stable_at.l2] at H
         by_cases c12:x8_3 ≤ a1
         ·
          rw [if_pos c12] at H
          have c12b0:decide (x8_3 ≤ a1)=true:=decide_eq_true c12
          clear c12
          replace H:=Option.bind_eq_some_iff.mp H
          obtain ⟨_,A130,H⟩:=H
          replace H:(slices_stable_at.l2 w0 k3 t109 a1 a2 x6_2 x8_3 (wrap64 (x8_3 + (wrap64 (2 * x6_2)))))=some r:=H
          have A13:=ak A130
          clear A130
          have H':=ak H
          clear H
          go_wp2_with (first | ((with_reducible refine gate_callee (f:=122) rfl ?_);refine goesL_ (some 43) rfl rfl Tryz.func122 kr rfl #[.slice Ao9 t109.length co9,.int .i64 x7_3,.int .i64 (wrap64 (x7_3 + x6_2)),.int .i64 x8_3,.func (.func 46) #[] #[]] rfl ag ?_;(with_reducible refine (symM.calls w0 _ _ t109 x7_3 (wrap64 (x7_3 + x6_2)) x8_3 a2  _ ?side1 ?side2 A13.out).mono ?_);(case side1 => repeat (first | exact (Kd.R_reads' HO_0.out).2.2 | (with_reducible refine Kd.C_alloc ?_ _) | (with_reducible refine Kd.C_drewN ?_ _) | (with_reducible refine Kd.C_drew ?_)));(case side2 => exact (Kd.R_reads' HO_0.out).2.1);rintro e w14 ⟨rfl,hb⟩;refine ⟨_,rfl,?_⟩;have n0_:=ak (Kd.R_below (rx HO_0) hb);have n1_:=ak (Kept.below (S:=(fun k_ => P0_ k_)) (by repeat (first | (with_reducible first | exact HK.out | apply Kept.alloc | apply Kept.drewN | apply Kept.drew) | exact HK.out)) hb);have n2_:=ak (below_step bx hb);clear HO_0 HK HB;have HO_0:=n0_;have HK:=n1_;have HB:=n2_;clear n0_ n1_ n2_;(try clear hb);(try clear hb2);(try clear hk);(try clear hi)))
          go_roundg k3
          case measure => have:=HK1.out;have:=HK2.out;have:=HK3.out;omega
          case rel => exact ⟨(x8_3),(wrap64 (x8_3 + (wrap64 (2 * x6_2)))),rf,rf,H',⟨by have:=HK1.out;have:=HK2.out;have:=HK3.out;omega⟩,⟨by (try simp only [hl0_2]);(with_reducible repeat (first | apply Kd.R_alloc | apply Kd.R_drewN | apply Kd.R_drew));exact HO_0.out⟩,⟨by repeat (first | (with_reducible first | exact HK.out | apply Kept.alloc | apply Kept.drewN | apply Kept.drew) | exact HK.out)⟩,⟨bx⟩⟩
         ·
          rw [if_neg c12] at H
          have c12b0:decide (x8_3 ≤ a1)=false:=decide_eq_false c12
          clear c12
          by_cases c15:(wrap64 (x7_3 + x6_2)) < a1
          ·
           rw [if_pos c15] at H
           have c15b0:decide ((wrap64 (x7_3 + x6_2)) < a1)=true:=decide_eq_true c15
           clear c15
           replace H:=Option.bind_eq_some_iff.mp H
           obtain ⟨_,A160,H⟩:=H
           replace H:(slices_stable_at.l1 w0 k3 t109 a1 a2 (wrap64 (x6_2 * 2)))=some r:=H
           have A16:=ak A160
           clear A160
           have H':=ak H
           clear H
           go_wp2_with (first | ((with_reducible refine gate_callee (f:=122) rfl ?_);refine goesL_ (some 60) rfl rfl Tryz.func122 kr rfl #[.slice Ao9 t109.length co9,.int .i64 x7_3,.int .i64 (wrap64 (x7_3 + x6_2)),.int .i64 a1,.func (.func 46) #[] #[]] rfl ag ?_;(with_reducible refine (symM.calls w0 _ _ t109 x7_3 (wrap64 (x7_3 + x6_2)) a1 a2  _ ?side1 ?side2 A16.out).mono ?_);(case side1 => repeat (first | exact (Kd.R_reads' HO_0.out).2.2 | (with_reducible refine Kd.C_alloc ?_ _) | (with_reducible refine Kd.C_drewN ?_ _) | (with_reducible refine Kd.C_drew ?_)));(case side2 => exact (Kd.R_reads' HO_0.out).2.1);rintro e w17 ⟨rfl,hb⟩;refine ⟨_,rfl,?_⟩;have n0_:=ak (Kd.R_below (rx HO_0) hb);have n1_:=ak (Kept.below (S:=(fun k_ => P0_ k_)) (by repeat (first | (with_reducible first | exact HK.out | apply Kept.alloc | apply Kept.drewN | apply Kept.drew) | exact HK.out)) hb);have n2_:=ak (below_step bx hb);clear HO_0 HK HB;have HO_0:=n0_;have HK:=n1_;have HB:=n2_;clear n0_ n1_ n2_;(try clear hb);(try clear hb2);(try clear hk);(try clear hi)))
           (try simp only [← hl0_2])
           go_roundg k3
           case measure => have:=HK1.out;have:=HK2.out;have:=HK3.out;omega
           case rel => exact ⟨(wrap64 (x6_2 * 2)),rf,H',⟨by have:=HK1.out;have:=HK2.out;have:=HK3.out;omega⟩,⟨by (try simp only [hl0_2]);(with_reducible repeat (first | apply Kd.R_alloc | apply Kd.R_drewN | apply Kd.R_drew));exact HO_0.out⟩,⟨by repeat (first | (with_reducible first | exact HK.out | apply Kept.alloc | apply Kept.drewN | apply Kept.drew) | exact HK.out)⟩,⟨bx⟩⟩
          ·
           rw [if_neg c15] at H
           have c15b0:decide ((wrap64 (x7_3 + x6_2)) < a1)=false:=decide_eq_false c15
           clear c15
           have H':=ak H
           clear H
           go_wp2
           (try simp only [← hl0_2])
           go_roundg k3
           case measure => have:=HK1.out;have:=HK2.out;have:=HK3.out;omega
           case rel => exact ⟨(wrap64 (x6_2 * 2)),rf,H',⟨by have:=HK1.out;have:=HK2.out;have:=HK3.out;omega⟩,⟨by (try simp only [hl0_2]);(with_reducible repeat (first | apply Kd.R_alloc | apply Kd.R_drewN | apply Kd.R_drew));exact HO_0.out⟩,⟨by repeat (first | (with_reducible first | exact HK.out | apply Kept.alloc | apply Kept.drewN | apply Kept.drew) | exact HK.out)⟩,⟨bx⟩⟩
      ·
       rw [if_neg c11] at H
       have c11b0:decide (x6_2 < a1)=false:=decide_eq_false c11
       clear c11
       obtain rfl:=Option.some.inj H
       go_wp2
       first | go_end0 | ((try simp only [Exit.inBlock,Exit.then]);refine bodyPost_ret (results_none rfl _ _ _) rfl ?_)
       exact ⟨by first | rfl | (simp [errW_none,errW_some] <;> rfl) | (simp [*,errW_none,errW_some] <;> rfl),(by first | exact (rx HO_0) | (simp only [hl0_2];exact (rx HO_0))),bx,by repeat (first | (with_reducible first | exact HK.out | apply Kept.alloc | apply Kept.drewN | apply Kept.drew) | exact HK.out)⟩
def slices_SortStable_at.f (k:Nat) (l0:List (S174)) (a1:Nat):Option ((List (S174))):=(slices_stable_at.f W0 k l0 (l0.length:Int) a1).bind fun t110 => (some t110)
theorem slices_SortStable_at.mono:∀ a0 a1 k,LeO (slices_SortStable_at.f W0 k a0 a1) (slices_SortStable_at.f W0 (k + 1) a0 a1):=by
 intro a0 a1 k
 unfold slices_SortStable_at.f
 repeat' first
   | (with_reducible exact slices_stable_at.mono W0 _ _ _ _)
   | (with_reducible exact LeO.refl _)
   | (with_reducible exact LeO.none _)
   | (with_reducible refine LeO.ite ?_ ?_)
   | (with_reducible refine LeO.bind ?_ (fun _ => ?_))
   | exact slices_stable_at.mono W0 _ _ _ _
   | exact LeO.none _
   | refine LeO.ite ?_ ?_
   | refine LeO.bind ?_ (fun _ => ?_)
set_option maxHeartbeats 8000000 in
set_option maxRecDepth 100000 in
theorem slices_SortStable_at.calls (k:Nat) (P0_:Nat→Prop) (u9000_:Value) (l0:List (S174)) (a1:Nat) (r:List (S174)) (w0 w:World) (hB:Below w0.heap.size w0 w) (ho0:Kd.R k174 47 w w0.heap.size P0_ u9000_ l0) (h:slices_SortStable_at.f w0 k l0 a1=some r) :
  Calls Tryz.prog 45 #[u9000_,.func (.func 46) #[] #[]] w fun e w' => e=.returned (.tuple #[])∧Kd.R k174 47 w' w0.heap.size (fun k_ => (P0_ k_ ∨ w.heap.size ≤ k_)) u9000_ r∧Below w0.heap.size w0 w'∧Kept w w' (fun k_ => P0_ k_):=by
 have HO0:=ak (show Kd.R k174 47 w w0.heap.size (fun k_ => (P0_ k_ ∨ w.heap.size ≤ k_)) u9000_ l0 from Kd.R_mono ho0 (fun k_ hk => (.inl hk)))
 have HK:=ak (Kept.refl w (fun k_ => P0_ k_))
 have HW0:=ak hB.size
 have HB:=ak hB
 clear hB
 have H:((slices_stable_at.f w0 k l0 (l0.length:Int) a1).bind fun t110 => (some t110))=some r:=h
 clear h
 replace H:=Option.bind_eq_some_iff.mp H
 obtain ⟨t110,A30,H⟩:=H
 replace H:(some t110)=some r:=H
 have A3:=ak A30
 clear A30
 obtain rfl:=Option.some.inj H
 obtain ⟨Ao4,co4,eo4⟩:=Kd.R_slice HO0.out
 subst eo4
 go_enter Tryz.func45,Tryz.ntmps45
 go_wp2_with (first | ((with_reducible refine gate_callee (f:=80) rfl ?_);refine goesL_ (some 8) rfl rfl Tryz.func80 kr rfl #[.slice Ao4 l0.length co4,.int .i64 (l0.length:Int),.func (.func 46) #[] #[]] rfl ag ?_;(with_reducible refine (slices_stable_at.calls k (fun k_ => some k_=(.slice Ao4 l0.length co4:Value).ownBlock) (.slice Ao4 l0.length co4) l0 (l0.length:Int) a1 t110 w0 _ ?side1 ?side2 A3.out).mono ?_);(case side1 => repeat (first | (with_reducible first | exact HB.out | apply below_alloc | apply pw_below_drewN | apply below_drew1) | exact HB.out));(case side2 => exact Kd.R_tight rfl HO0.out);rintro e w5 ⟨rfl,hy0,hb,hkp⟩;refine ⟨_,rfl,?_⟩;have n0_:=ak (Kd.R_reok rfl hy0 (fun k_ e_ => HO0.out.1 k_ e_));have n1_:=ak (Kept.then_ (S:=(fun k_ => P0_ k_)) (by repeat (first | (with_reducible first | exact HK.out | apply Kept.alloc | apply Kept.drewN | apply Kept.drew) | exact HK.out)) hkp (fun k_ hs_ => (fun e_ => (HO0.out.1 k_ e_.symm)) hs_));have n2_:=ak (hb);clear HO0 HK HB;have HO0:=n0_;have HK:=n1_;have HB:=n2_;clear n0_ n1_ n2_;(try clear hb);(try clear hkp);(try clear hy0)))
 first | go_end0 | ((try simp only [Exit.inBlock,Exit.then]);refine bodyPost_ret (results_none rfl _ _ _) rfl ?_)
 exact ⟨by first | rfl | (simp [errW_none,errW_some] <;> rfl) | (simp [*,errW_none,errW_some] <;> rfl),by (with_reducible repeat (first | apply Kd.R_alloc | apply Kd.R_drewN | apply Kd.R_drew));exact HO0.out,bx,by repeat (first | (with_reducible first | exact HK.out | apply Kept.alloc | apply Kept.drewN | apply Kept.drew) | exact HK.out)⟩
end
end Go.Proofs.YtkemjdedikobfaaGreatDoor.PSx
