/- What is proved: what functions of the program do (walks: printed by a copy of the kit's print that programs of this repository have turned and shortened, or by hand). Conditions stand in each theorem. -/
import Derived.Test.YtkemjdedikobfaaGreatDoorPb
set_option linter.unusedVariables false
set_option linter.unusedSimpArgs false
namespace Go.Proofs.YtkemjdedikobfaaGreatDoor.PSx
open PFx (S95 z95 k95 k95_open k95_openM k95_mk k95_mkM rd_T95 at_T95)
noncomputable section
variable (W0:World)
open Go.Proofs.YtkemjdedikobfaaGreatDoor.Sh
open Go.RowKit Go.Proofs.YtkemjdedikobfaaGreatDoorW.PrintWords Go.Proofs.YtkemjdedikobfaaGreatDoorW.PrintLast Go.Proofs.YtkemjdedikobfaaGreatDoorW.PrintMore
attribute [local go_sem] max2_int min2_int max_two min_two max_three min_three max_four min_four   -- for this text's walks alone
set_option linter.unusedVariables false
set_option linter.unusedSimpArgs false
mutual
def ask_normal_at.l0:Nat→List (S174)→Int→List (S45)→Int→Int→Int→Option (Int × (List (S20174)) × Int)
 | 0,_,_,_,_,_,_ => none
 | k + 1,x6,x7,x20,x21,x22,x112000 => if x22 < x21 then (if 0 ≤ x22 then (if x22 < (x20.length:Int) then (if x6.length + ((rd_T45 x20 x22).f1).length < 2199023255552 then (ask_normal_at.l0 k (x6 ++ ((rd_T45 x20 x22).f1)) (wrap64 (x7 + ((rd_T45 x20 x22).f0))) x20 x21 (wrap64 (x22 + 1)) x112000) else (none)) else (none)) else (none)) else ((slices_SortStable_at.f W0 k x6 46).bind fun t118 => (ask_normal_at.l1 k x7 t118 (x6.length:Int) 0 x112000 0 ([]:List (S20174))))
def ask_normal_at.l1:Nat→Int→List (S174)→Int→Int→Int→Int→List (S20174)→Option (Int × (List (S20174)) × Int)
 | 0,_,_,_,_,_,_,_ => none
 | k + 1,x7,x37,x38,x39,x112000,x120000,x120001 => if x39 < x38 then (if 0 ≤ x39 then (if x39 < (x37.length:Int) then (if (x120001.length:Int) > 0 then (if 0 ≤ (wrap64 ((x120001.length:Int) - 1)) then (if (wrap64 ((x120001.length:Int) - 1)) < (x120001.length:Int) then ((byFigM.f W0 ((rd_T20174 x120001 (wrap64 ((x120001.length:Int) - 1))).f1.f0) ((rd_T20174 x120001 (wrap64 ((x120001.length:Int) - 1))).f1.f1) ((rd_T20174 x120001 (wrap64 ((x120001.length:Int) - 1))).f1.f2) ((rd_T20174 x120001 (wrap64 ((x120001.length:Int) - 1))).f1.f3.f0) ((rd_T20174 x120001 (wrap64 ((x120001.length:Int) - 1))).f1.f3.f1) ((rd_T174 x37 x39).f1.f0) ((rd_T174 x37 x39).f1.f1) ((rd_T174 x37 x39).f1.f2) ((rd_T174 x37 x39).f1.f3.f0) ((rd_T174 x37 x39).f1.f3.f1)).bind fun t123 => (if t123=0 then (ask_normal_at.l1 k x7 x37 x38 (wrap64 (x39 + 1)) x112000 x120000 (x120001.set ((wrap64 ((x120001.length:Int) - 1)):Int).toNat (⟨wrap64 (((rd_T20174 x120001 (wrap64 ((x120001.length:Int) - 1))).f0) + ((rd_T174 x37 x39).f0)),(⟨(rd_T20174 x120001 (wrap64 ((x120001.length:Int) - 1))).f1.f0,(rd_T20174 x120001 (wrap64 ((x120001.length:Int) - 1))).f1.f1,(rd_T20174 x120001 (wrap64 ((x120001.length:Int) - 1))).f1.f2,(⟨(rd_T20174 x120001 (wrap64 ((x120001.length:Int) - 1))).f1.f3.f0,(rd_T20174 x120001 (wrap64 ((x120001.length:Int) - 1))).f1.f3.f1⟩:S58)⟩:S20172)⟩:S20174))) else ((cloneP.f W0 ((rd_T174 x37 x39).f1.f2)).bind fun t126 => (if x120001.length < 2199023255552 then (ask_normal_at.l1 k x7 x37 x38 (wrap64 (x39 + 1)) x112000 x120000 (x120001 ++ [(⟨(rd_T174 x37 x39).f0,(⟨(rd_T174 x37 x39).f1.f0,(rd_T174 x37 x39).f1.f1,t126,(⟨(rd_T174 x37 x39).f1.f3.f0,(rd_T174 x37 x39).f1.f3.f1⟩:S58)⟩:S20172)⟩:S20174)])) else (none))))) else (none)) else (none)) else ((cloneP.f W0 ((rd_T174 x37 x39).f1.f2)).bind fun t132 => (if x120001.length < 2199023255552 then (ask_normal_at.l1 k x7 x37 x38 (wrap64 (x39 + 1)) x112000 x120000 (x120001 ++ [(⟨(rd_T174 x37 x39).f0,(⟨(rd_T174 x37 x39).f1.f0,(rd_T174 x37 x39).f1.f1,t132,(⟨(rd_T174 x37 x39).f1.f3.f0,(rd_T174 x37 x39).f1.f3.f1⟩:S58)⟩:S20172)⟩:S20174)])) else (none)))) else (none)) else (none)) else ((delT.f x120001 x112000).bind fun t138 => (if (t138.length:Int) > 5 then (some (0,([]:List (S20174)),2)) else (if (t138.length:Int)=0 then (ask_normal_at.j2 k x7 x112000 x120000 ([]:List (S20174))) else (ask_normal_at.j2 k x7 x112000 x120000 t138))))
def ask_normal_at.j2:Nat→Int→Int→Int→List (S20174)→Option (Int × (List (S20174)) × Int)
 | 0,_,_,_,_ => none
 | k + 1,x7,x112000,x120000,x120001 => ask_normal_at.l2 k x7 x120001 (x120001.length:Int) 0 x112000 x120000 x120001
def ask_normal_at.l2:Nat→Int→List (S20174)→Int→Int→Int→Int→List (S20174)→Option (Int × (List (S20174)) × Int)
 | 0,_,_,_,_,_,_,_ => none
 | k + 1,x7,x102,x103,x104,x112000,x120000,x120001 => if x104 < x103 then (if 0 ≤ x104 then (if x104 < (x120001.length:Int) then ((productT.f ((rd_T20174 x120001 x104).f0) x112000).bind fun bt143 => (if bt143.2=true then ((ask_isCoef.f bt143.1).bind fun t145 => (if t145=true then (if x104 < (x120001.length:Int) then (ask_normal_at.l2 k x7 x102 x103 (wrap64 (x104 + 1)) x112000 x120000 (x120001.set (x104:Int).toNat (⟨bt143.1,(⟨(rd_T20174 x120001 x104).f1.f0,(rd_T20174 x120001 x104).f1.f1,(rd_T20174 x120001 x104).f1.f2,(⟨(rd_T20174 x120001 x104).f1.f3.f0,(rd_T20174 x120001 x104).f1.f3.f1⟩:S58)⟩:S20172)⟩:S20174))) else (none)) else (some (0,([]:List (S20174)),3)))) else (some (0,([]:List (S20174)),3)))) else (none)) else (none)) else (if x112000=0 then (some (x120000,x120001,0)) else (if x7 > 2199023255552 then (ask_normal_at.j4 k x7 true x112000 x120000 x120001) else (ask_normal_at.j4 k x7 (decide (x7 < (-2199023255552))) x112000 x120000 x120001)))
def ask_normal_at.j4:Nat→Int→Bool→Int→Int→List (S20174)→Option (Int × (List (S20174)) × Int)
 | 0,_,_,_,_,_ => none
 | k + 1,x7,x139,x112000,x120000,x120001 => if x139=true then (some (0,([]:List (S20174)),3)) else ((productT.f x112000 x7).bind fun bt147 => (if bt147.2=true then ((ask_isConst.f bt147.1).bind fun t149 => (if t149=true then (some (bt147.1,x120001,0)) else (some (0,([]:List (S20174)),3)))) else (some (0,([]:List (S20174)),3))))
end
def ask_normal_at.f (k:Nat) (a0:Int) (l1:List (S45)):Option (Int × (List (S20174)) × Int):=ask_normal_at.l0 W0 k ([]:List (S174)) 0 l1 (l1.length:Int) 0 a0
def ask_normal_at.T15:Bool × List (List Nat × List Nat):=(true,[([],[]),([0],[0]),([1],[1]),([2],[2]),([3,2],[2,3]),([2],[2]),([5,2],[2,5]),([4,6,2],[2,4,6]),([7,2],[2,7]),([8,2],[2,8]),([2],[2]),([10,2],[2,10]),([9,11,2,2],[2,9,11]),([12,2],[2,12]),([2,13],[2,13])])
def ask_normal_at.B15:List Nat:=[0,1,3,7,15,7,39,127,255,511,7,1031,4095,8191,16383]
theorem ask_normal_at.tab15:rtab .any (opsOf Tryz.f25 15)=ask_normal_at.T15:=by kernel_rfl
theorem ask_normal_at.bits15:waitsOk ask_normal_at.T15.2 ask_normal_at.B15=true:=by kernel_rfl
def ask_normal_at.T16:Bool × List (List Nat × List Nat):=(true,[([],[]),([0],[0]),([],[]),([2],[2]),([1,3],[1,3]),([4],[4]),([5],[5]),([],[]),([7],[7]),([6,8],[6,8]),([1,3,0,1,2,3,4,5,6,7,8,9],[1,3]),([10,0,1,2,3,4,5,6,7,8,9],[10]),([11,9,0,1,2,3,4,5,6,7,8,9],[9,11])])
def ask_normal_at.B16:List Nat:=[0,1,0,4,15,31,63,0,128,511,1023,2047,4095]
theorem ask_normal_at.tab16:rtab .any (opsOf Tryz.f25 16)=ask_normal_at.T16:=by kernel_rfl
theorem ask_normal_at.bits16:waitsOk ask_normal_at.T16.2 ask_normal_at.B16=true:=by kernel_rfl
set_option maxHeartbeats 8000000 in
set_option maxRecDepth 100000 in
theorem ask_normal_at.calls (k:Nat) (a0:Int) (A1:Option Addr) (c1:Nat) (l1:List (S45)) (r1:Int) (r2:List (S20174)) (r3:Int) (w:World) (hr1:Kd.C k45 w A1 l1.length l1) (hc1:l1.length ≤ c1) (h:ask_normal_at.f w k a0 l1=some (r1,r2,r3)) :
  Calls Tryz.prog 25 #[.int .i64 a0,.slice A1 l1.length c1] w fun e w' => ∃ v1_:Value,e=.returned (.tuple #[.agg #[.int .i64 r1,v1_],.int .i64 r3])∧Kd.S k20174 47 w' w.heap.size (fun _ => True) v1_ r2∧Below w.heap.size w w':=by
 have hu20003:=Tryz.underlying3
 have hu20045:=Tryz.underlying24
 have hu45:=Tryz.underlying24
 have hu174:=Tryz.underlying47
 have hu20172:=Tryz.underlying45
 have hu172:=Tryz.underlying45
 have hu20174:=Tryz.underlying47
 have HR1:=ak hr1
 have HC1:=ak hc1
 clear hr1 hc1
 have HB:=ak (Below.refl w.heap.size w)
 have H:(ask_normal_at.l0 w k ([]:List (S174)) 0 l1 (l1.length:Int) 0 a0)=some (r1,r2,r3):=h
 clear h
 have H':=ak H
 clear H
 go_enter Tryz.func25,Tryz.ntmps25
 go_wp2_with (first | ((with_reducible refine gate_dst (N:=2) rfl ?_);refine box_event ?hg (N:=2) ?hd (cs:=#[.int .i64 a0]) (t:=3) ?hr ?_;(case hd => rfl);(case hg => rfl);(case hr => first | (go_simp;done) | (go_simp;rfl));intro gb111 hg w3 hbox hb;have n0_:=ak (below_step bx hb);have n1_:=ak (hbox);have n2_:=ak ((by rw [hg];exact (below_size bx):w.heap.size ≤ gb111));have n3_:=ak ((by rw [hg];exact (below_size bx):w.heap.size ≤ gb111));clear HB;have HB:=n0_;have BK111:=n1_;have GW111:=n2_;have GE111:=n3_;clear n0_ n1_ n2_ n3_;clear hb hbox hg) | ((with_reducible refine gate_dst (N:=4) rfl ?_);refine box_event ?hg (N:=4) ?hd (cs:=#[.int .i64 0,.slice none 0 0]) (t:=24) ?hr ?_;(case hd => rfl);(case hg => rfl);(case hr => first | (go_simp;done) | (go_simp;rfl));intro gb112 hg w4 hbox hb;have n0_:=bB BK111 hb;have n1_:=ak (below_step bx hb);have n2_:=ak (hbox);have n3_:=ak ((by rw [hg];exact (below_size bx):w.heap.size ≤ gb112));have n4_:=ak ((by rw [hg];exact (below_size bx):w.heap.size ≤ gb112));have n5_:=ak ((by rw [hg];exact Nat.ne_of_lt (blk_lt (g:=gb111) (o:=.cells #[.int .i64 a0] 3 (0,0)) (bk BK111)):gb111 ≠ gb112));have n6_:=ak ((by rw [hg];exact Nat.ne_of_gt (blk_lt (g:=gb111) (o:=.cells #[.int .i64 a0] 3 (0,0)) (bk BK111)):gb112 ≠ gb111));clear BK111 HB;have BK111:=n0_;have HB:=n1_;have BK112:=n2_;have GW112:=n3_;have GE112:=n4_;have NB111_112:=n5_;have NB112_111:=n6_;clear n0_ n1_ n2_ n3_ n4_ n5_ n6_;clear hb hbox hg))
 (try simp only [Act.put,List.setIfInBounds_toArray,List.set_cons_zero,List.set_cons_succ])
 go_loopg [6,7,22] k (fun kq v6 v7 v22 w' => ∃ (x6_1:List (S174)) (x7_1:Int) (x22_1:Int),v7=.int .i64 x7_1∧v22=.int .i64 x22_1∧Aside0 (ask_normal_at.l0 w kq x6_1 x7_1 l1 (l1.length:Int) x22_1 a0=some (r1,r2,r3))∧Aside0 (kq ≤ k)∧Aside0 (Kd.R k174 47 w' w.heap.size (fun _ => True) v6 x6_1)∧Aside0 (w'.heap[gb111]?=some (.cells #[.int .i64 a0] 3 (0,0)))∧Aside0 (w'.heap[gb112]?=some (.cells #[.int .i64 0,(.slice none 0 0)] 24 (0,0)))∧Aside0 (Below w.heap.size w w'))
 case atStart => exact ⟨(([]:List (S174))),(0),(0),rf,rf,H',⟨Nat.le_refl _⟩,⟨by first | exact Kd.R_nil _ _ _ _ _ | exact Kd.N_nil _ _ _ _ _ | exact Kd.V_nil _ _ _ _ _ | exact Kd.Q_nil _ _ _ _ _ | exact Kd.S_nil _ _ _ _ _⟩,⟨bk BK111⟩,⟨bk BK112⟩,⟨bx⟩⟩
 case round =>
  clear H'
  try clear c1
  try clear p2
  obtain ⟨x6_1,x7_1,x22_1,rfl,rfl,HA,HK1,HO_6,BK111,BK112,HB⟩:=hrel
  cases gk with
  | zero => exact absurd HA.out (by simp [ask_normal_at.l0])
  | succ k1 =>
   have H:=HA.out
   clear HA
   simp only [ask_normal_at.l0] at H
   by_cases c5:x22_1 < (l1.length:Int)
   ·
    rw [if_pos c5] at H
    have c5b0:decide (x22_1 < (l1.length:Int))=true:=decide_eq_true c5
    clear c5
    by_cases c6:0 ≤ x22_1
    ·
     rw [if_pos c6] at H
     have c6b0:decide (0 ≤ x22_1)=true:=decide_eq_true c6
     clear c6
     by_cases c7:x22_1 < (l1.length:Int)
     ·
      rw [if_pos c7] at H
      have c7b0:decide (x22_1 < (l1.length:Int))=true:=decide_eq_true c7
      clear c7
      by_cases c8:x6_1.length + ((rd_T45 l1 x22_1).f1).length < 2199023255552
      ·
       rw [if_pos c8] at H
       have LMc8:=ak c8
       clear c8
       obtain ⟨y115,hy115⟩:∃ y_:List (S174),y_=(x6_1 ++ ((rd_T45 l1 x22_1).f1)):=⟨_,rfl⟩
       replace H:(ask_normal_at.l0 w k1 y115 (wrap64 (x7_1 + ((rd_T45 l1 x22_1).f0))) l1 (l1.length:Int) (wrap64 (x22_1 + 1)) a0)=some (r1,r2,r3):=by first | (rw [hy115];with_reducible exact H) | (have H2_:=(Option.bind_some _ _).symm.trans H;rw [hy115];with_reducible exact H2_) | (have H2_:=(Option.bind_some _ _).symm.trans H;with_reducible exact H2_) | with_reducible exact H | (rw [hy115];exact H) | exact H
       have Ny115:=ak hy115
       clear hy115
       have H':=ak H
       clear H
       have p113:0 ≤ (x22_1:Int):=of_decide_eq_true asm
       have q113:x22_1 < (l1.length:Int):=of_decide_eq_true asm
       obtain ⟨ad113,A113_1,c113_1,e113,hx113_0,hx113_1,hl113_1,hi113_1⟩:=at_T45 HR1.out x22_1 p113 q113
       cases e113
       replace hx113_0:=(HB.out.cell (World.block_lt_of_cell? w _ hx113_0)).trans hx113_0
       replace hx113_1:=(HB.out.cell (World.block_lt_of_cell? w _ hx113_1)).trans hx113_1
       have HR113_1:=ak hi113_1
       have HC113_1:=ak hl113_1
       clear hi113_1 hl113_1
       replace p113:=eq_true p113
       replace q113:=eq_true q113
       go_wp2_with (first | ((with_reducible refine gate_dst (N:=9) rfl ?_);refine box_event ?hg (N:=9) ?hd (cs:=#[.int .i64 0,.slice none 0 0]) (t:=24) ?hr ?_;(case hd => rfl);(case hg => rfl);(case hr => first | (go_simp;done) | (go_simp;rfl));intro gb114 hg w9 hbox hb;have n0_:=ak (Kd.R_below (rx HO_6) hb);have n1_:=bB BK111 hb;have n2_:=bB BK112 hb;have n3_:=ak (below_step bx hb);have n4_:=ak (hbox);have n5_:=ak ((by rw [hg];exact (below_size bx):w.heap.size ≤ gb114));have n6_:=ak ((by rw [hg];exact (below_size bx):w.heap.size ≤ gb114));have n7_:=ak ((by rw [hg];exact Nat.ne_of_lt (blk_lt (g:=gb111) (o:=.cells #[.int .i64 a0] 3 (0,0)) (bk BK111)):gb111 ≠ gb114));have n8_:=ak ((by rw [hg];exact Nat.ne_of_gt (blk_lt (g:=gb111) (o:=.cells #[.int .i64 a0] 3 (0,0)) (bk BK111)):gb114 ≠ gb111));have n9_:=ak ((by rw [hg];exact Nat.ne_of_lt (blk_lt (g:=gb112) (o:=.cells #[.int .i64 0,.slice none 0 0] 24 (0,0)) (bk BK112)):gb112 ≠ gb114));have n10_:=ak ((by rw [hg];exact Nat.ne_of_gt (blk_lt (g:=gb112) (o:=.cells #[.int .i64 0,.slice none 0 0] 24 (0,0)) (bk BK112)):gb114 ≠ gb112));clear HO_6 BK111 BK112 HB;have HO_6:=n0_;have BK111:=n1_;have BK112:=n2_;have HB:=n3_;have BK114:=n4_;have GW114:=n5_;have GE114:=n6_;have NB111_114:=n7_;have NB114_111:=n8_;have NB112_114:=n9_;have NB114_112:=n10_;clear n0_ n1_ n2_ n3_ n4_ n5_ n6_ n7_ n8_ n9_ n10_;clear hb hbox hg;have hnb10:=NB114_111.out;have hnc10:=NB111_114.out;have hnb11:=NB114_112.out;have hnc11:=NB112_114.out;obtain ⟨hcz12_0,hcz12_1,hfz12_0,hfz12_1⟩:=cb2 BK114.out) | ((with_reducible refine gate_builtin (b:=.append) (xs:=#[.tmp 30,.tmp 32]) rfl ?_);at_builtin;refine Kd.R_append_rows k174 (w0:=w) w.heap.size rfl (.tmp 30) (.tmp 32) 22 47 (.agg #[(.int .i64 0),(.int .i64 0),(.int .i64 0),(.slice none 0 0),(.int .i64 0),(.int .i64 0)]) 64 rfl Tryz.underlying22 info47 rfl (by decide) (by omega) u6 x6_1 ((rd_T45 l1 x22_1).f1) _ _ _ (fun _ => True) (fun _ => False) rfl rfl ?aO ?aR (fun _ _ h => h) (fun _ h => h.elim) ?aF ?aB ?aS ?aL ?_;(case aR => exact Kd.C_below HR113_1.out bx);(case aB => exact bx);(case aF => exact (fun _ _ => trivial));(case aO => exact (by (with_reducible repeat (first | apply Kd.R_alloc | apply Kd.R_drewN | apply Kd.R_drew));exact Kd.R_mono (Kd.R_far (p:=⟨gb114,1,none⟩) (Kd.R_far (p:=⟨gb114,0,none⟩) (Kd.R_types HO_6.out BK114.out (by decide)) (fun _ hk => hk.2) (.int .i64 ((rd_T45 l1 x22_1).f0))) (fun _ hk => hk.2) (.slice A113_1 ((rd_T45 l1 x22_1).f1).length c113_1)) (fun _ hk => trivial)));(case aS => exact (below_size bx));(case aL => have:=LMc8.out;omega);intro v116 w13 ho hb hg hat;rw [← Ny115.out] at ho;have n0_:=ak (blk_grown (g:=gb111) (o:=.cells #[.int .i64 a0] 3 (0,0)) (by (refine st ?_);refine blk_far ?_ NB111_114.out _;(refine st ?_);refine blk_far ?_ NB111_114.out _;(refine st ?_);exact BK111.out) hg (Kd.R_ne HO_6.out BK111.out (by decide)));have n1_:=ak (blk_grown (g:=gb112) (o:=.cells #[.int .i64 0,.slice none 0 0] 24 (0,0)) (by (refine st ?_);refine blk_far ?_ NB112_114.out _;(refine st ?_);refine blk_far ?_ NB112_114.out _;(refine st ?_);exact BK112.out) hg (Kd.R_ne HO_6.out BK112.out (by decide)));have n2_:=ak (blk_grown (g:=gb114) (o:=.cells #[.int .i64 ((rd_T45 l1 x22_1).f0),.slice A113_1 ((rd_T45 l1 x22_1).f1).length c113_1] 24 (0,0)) (by (refine st ?_);refine blk_put (cs:=#[.int .i64 ((rd_T45 l1 x22_1).f0),.slice none 0 0]) ?_ 1 _ rfl;(refine st ?_);refine blk_put (cs:=#[.int .i64 0,.slice none 0 0]) ?_ 0 _ rfl;(refine st ?_);exact BK114.out) hg (Kd.R_ne HO_6.out BK114.out (by decide)));have n3_:=ak (hb);have n4_:=ak (ho);clear BK111 BK112 BK114 HB HO_6;have BK111:=n0_;have BK112:=n1_;have BK114:=n2_;have HB:=n3_;have HO117:=n4_;clear n0_ n1_ n2_ n3_ n4_;clear ho hb hg hat))
       go_roundg k1
       case measure => have:=HK1.out;omega
       case rel => exact ⟨(y115),(wrap64 (x7_1 + ((rd_T45 l1 x22_1).f0))),(wrap64 (x22_1 + 1)),rf,rf,H',⟨by have:=HK1.out;omega⟩,⟨by (with_reducible repeat (first | apply Kd.R_alloc | apply Kd.R_drewN | apply Kd.R_drew));exact HO117.out⟩,⟨bk BK111⟩,⟨bk BK112⟩,⟨bx⟩⟩
      ·
       rw [if_neg c8] at H
       exact absurd H (by simp)
     ·
      rw [if_neg c7] at H
      exact absurd H (by simp)
    ·
     rw [if_neg c6] at H
     exact absurd H (by simp)
   ·
    rw [if_neg c5] at H
    have c5b0:decide (x22_1 < (l1.length:Int))=false:=decide_eq_false c5
    clear c5
    replace H:=Option.bind_eq_some_iff.mp H
    obtain ⟨t118,A140,H⟩:=H
    replace H:(ask_normal_at.l1 w k1 x7_1 t118 (x6_1.length:Int) 0 a0 0 ([]:List (S20174)))=some (r1,r2,r3):=H
    have A14:=ak A140
    clear A140
    have H':=ak H
    clear H
    obtain ⟨Ao15,co15,eo15⟩:=Kd.R_slice HO_6.out
    subst eo15
    go_wp2_with (first | ((with_reducible refine gate_callee (f:=45) rfl ?_);refine goesL_ (some 36) rfl rfl Tryz.func45 kr rfl #[.slice Ao15 x6_1.length co15,.func (.func 46) #[] #[]] rfl ag ?_;(with_reducible refine (slices_SortStable_at.calls k1 (fun k_ => some k_=(.slice Ao15 x6_1.length co15:Value).ownBlock) (.slice Ao15 x6_1.length co15) x6_1 46 t118 w _ ?side1 ?side2 A14.out).mono ?_);(case side1 => repeat (first | (with_reducible first | exact HB.out | apply below_alloc | apply pw_below_drewN | apply below_drew1 | refine below_set ?_ GE111.out | refine below_set ?_ GE112.out) | exact HB.out));(case side2 => exact Kd.R_tight rfl HO_6.out);rintro e w16 ⟨rfl,hy0,hb,hkp⟩;refine ⟨_,rfl,?_⟩;have n0_:=ak (Kd.R_reok rfl hy0 (fun k_ e_ => HO_6.out.1 k_ e_));have n1_:=ak (blk_kept (bk BK111) hkp (fun hs_ => (fun e_ => (Kd.R_ne HO_6.out BK111.out (by decide)) e_) hs_));have n2_:=ak (blk_kept (bk BK112) hkp (fun hs_ => (fun e_ => (Kd.R_ne HO_6.out BK112.out (by decide)) e_) hs_));have n3_:=ak (hb);clear HO_6 BK111 BK112 HB;have HO_6:=n0_;have BK111:=n1_;have BK112:=n2_;have HB:=n3_;clear n0_ n1_ n2_ n3_;(try clear hb);(try clear hkp);(try clear hy0)) | ((with_reducible refine gate_dst (N:=10) rfl ?_);refine box_event ?hg (N:=10) ?hd (cs:=#[.int .i64 0,.slice none 0 0]) (t:=24) ?hr ?_;(case hd => rfl);(case hg => rfl);(case hr => first | (go_simp;done) | (go_simp;rfl));intro gb119 hg w17 hbox hb;have n0_:=ak (Kd.R_below (rx HO_6) hb);have n1_:=bB BK111 hb;have n2_:=bB BK112 hb;have n3_:=ak (below_step bx hb);have n4_:=ak (hbox);have n5_:=ak ((by rw [hg];exact (below_size bx):w.heap.size ≤ gb119));have n6_:=ak ((by rw [hg];exact (below_size bx):w.heap.size ≤ gb119));have n7_:=ak ((by rw [hg];exact Nat.ne_of_lt (blk_lt (g:=gb111) (o:=.cells #[.int .i64 a0] 3 (0,0)) (bk BK111)):gb111 ≠ gb119));have n8_:=ak ((by rw [hg];exact Nat.ne_of_gt (blk_lt (g:=gb111) (o:=.cells #[.int .i64 a0] 3 (0,0)) (bk BK111)):gb119 ≠ gb111));have n9_:=ak ((by rw [hg];exact Nat.ne_of_lt (blk_lt (g:=gb112) (o:=.cells #[.int .i64 0,.slice none 0 0] 24 (0,0)) (bk BK112)):gb112 ≠ gb119));have n10_:=ak ((by rw [hg];exact Nat.ne_of_gt (blk_lt (g:=gb112) (o:=.cells #[.int .i64 0,.slice none 0 0] 24 (0,0)) (bk BK112)):gb119 ≠ gb112));clear HO_6 BK111 BK112 HB;have HO_6:=n0_;have BK111:=n1_;have BK112:=n2_;have HB:=n3_;have BK119:=n4_;have GW119:=n5_;have GE119:=n6_;have NB111_119:=n7_;have NB119_111:=n8_;have NB112_119:=n9_;have NB119_112:=n10_;clear n0_ n1_ n2_ n3_ n4_ n5_ n6_ n7_ n8_ n9_ n10_;clear hb hbox hg))
    (try simp only [Act.put,List.setIfInBounds_toArray,List.set_cons_zero,List.set_cons_succ])
    go_loopg [39] k1 (fun kq v39 w' => ∃ (x39_2:Int) (x120001_2:List (S20174)) (u120001:Value),v39=.int .i64 x39_2∧Aside0 (ask_normal_at.l1 w kq x7_1 t118 (x6_1.length:Int) x39_2 a0 0 x120001_2=some (r1,r2,r3))∧Aside0 (kq ≤ k1)∧Aside0 (Kd.R k174 47 w' w.heap.size (fun k_ => some k_ ≠ (u120001:Value).ownBlock) (.slice Ao15 x6_1.length co15) t118)∧Aside0 (Kd.S k20174 47 w' w.heap.size (fun k_ => some k_ ≠ ((.slice Ao15 x6_1.length co15):Value).ownBlock) u120001 x120001_2)∧Aside0 (w'.heap[gb111]?=some (.cells #[.int .i64 a0] 3 (0,0)))∧Aside0 (w'.heap[gb112]?=some (.cells #[.int .i64 0,(.slice none 0 0)] 24 (0,0)))∧Aside0 (w'.heap[gb119]?=some (.cells #[.int .i64 0,u120001] 24 (0,0)))∧Aside0 (Below w.heap.size w w'))
    case atStart => exact ⟨(0),(([]:List (S20174))),(.slice none 0 0),rf,H',⟨Nat.le_refl _⟩,⟨by (with_reducible repeat (first | apply Kd.R_alloc | apply Kd.R_drewN | apply Kd.R_drew));exact Kd.R_mono HO_6.out (fun _ hk => (by simp [Value.ownBlock]))⟩,⟨by first | exact Kd.S_nil _ _ _ _ _ | exact Kd.N_nil _ _ _ _ _ | exact Kd.V_nil _ _ _ _ _ | exact Kd.Q_nil _ _ _ _ _ | exact Kd.R_nil _ _ _ _ _⟩,⟨bk BK111⟩,⟨bk BK112⟩,⟨bk BK119⟩,⟨bx⟩⟩
    case round =>
     clear H'
     try clear c1
     try clear p1
     try clear q1
     try clear hx1
     try clear p2 p2
     try clear c5
     try clear c5b0
     try clear c6
     try clear c6b0
     try clear p6
     try clear c7
     try clear c7b0
     try clear c8
     try clear c10
     try clear c11
     try clear p11
     try clear q11
     try clear hx11
     try clear hcz12_0 hcz12_1 hfz12_0 hfz12_1
     try clear hx113_0 hx113_1
     try clear p113
     try clear q113
     obtain ⟨x39_2,x120001_2,u120001,rfl,HA,HK2,HO_37,HO_120001,BK111,BK112,BK119,HB⟩:=hrel
     have hl37_2:=(Kd.R_reads' HO_37.out).1
     rw [hl37_2] at HO_37
     (try simp only [hl37_2])
     (try simp only [hl37_2] at BK111)
     (try simp only [hl37_2] at BK112)
     (try simp only [hl37_2] at BK119)
     (try simp only [hl37_2] at HO_120001)
     cases gk with
     | zero => exact absurd HA.out (by simp [ask_normal_at.l1])
     | succ k2 =>
      have H:=HA.out
      clear HA
      simp only [ask_normal_at.l1] at H
      by_cases c18:x39_2 < (x6_1.length:Int)
      ·
       rw [if_pos c18] at H
       have c18b0:decide (x39_2 < (x6_1.length:Int))=true:=decide_eq_true c18
       (try have c18z:decide (x39_2 < (t118.length:Int))=true:=by rw [← hl37_2];exact c18b0)
       clear c18
       by_cases c19:0 ≤ x39_2
       ·
        rw [if_pos c19] at H
        have c19b0:decide (0 ≤ x39_2)=true:=decide_eq_true c19
        clear c19
        by_cases c20:x39_2 < (t118.length:Int)
        ·
         rw [if_pos c20] at H
         have c20b0:decide (x39_2 < (t118.length:Int))=true:=decide_eq_true c20
         clear c20
         by_cases c21:(x120001_2.length:Int) > 0
         ·
          rw [if_pos c21] at H
          have c21b0:decide (0 < (x120001_2.length:Int))=true:=decide_eq_true c21
          have c21b1:decide (0 < x120001_2.length)=true:=decide_eq_true (by omega)
          clear c21
          obtain ⟨ji22,hji22⟩:∃ j_:Int,(wrap64 ((x120001_2.length:Int) - 1))=j_:=⟨_,rfl⟩
          replace H:(if 0 ≤ (ji22) then (if (ji22) < (x120001_2.length:Int) then ((byFigM.f w ((rd_T20174 x120001_2 (ji22)).f1.f0) ((rd_T20174 x120001_2 (ji22)).f1.f1) ((rd_T20174 x120001_2 (ji22)).f1.f2) ((rd_T20174 x120001_2 (ji22)).f1.f3.f0) ((rd_T20174 x120001_2 (ji22)).f1.f3.f1) ((rd_T174 t118 x39_2).f1.f0) ((rd_T174 t118 x39_2).f1.f1) ((rd_T174 t118 x39_2).f1.f2) ((rd_T174 t118 x39_2).f1.f3.f0) ((rd_T174 t118 x39_2).f1.f3.f1)).bind fun t123 => (if t123=0 then (ask_normal_at.l1 w k2 x7_1 t118 (x6_1.length:Int) (wrap64 (x39_2 + 1)) a0 0 (x120001_2.set ((ji22):Int).toNat (⟨wrap64 (((rd_T20174 x120001_2 (ji22)).f0) + ((rd_T174 t118 x39_2).f0)),(⟨(rd_T20174 x120001_2 (ji22)).f1.f0,(rd_T20174 x120001_2 (ji22)).f1.f1,(rd_T20174 x120001_2 (ji22)).f1.f2,(⟨(rd_T20174 x120001_2 (ji22)).f1.f3.f0,(rd_T20174 x120001_2 (ji22)).f1.f3.f1⟩:S58)⟩:S20172)⟩:S20174))) else ((cloneP.f w ((rd_T174 t118 x39_2).f1.f2)).bind fun t126 => (if x120001_2.length < 2199023255552 then (ask_normal_at.l1 w k2 x7_1 t118 (x6_1.length:Int) (wrap64 (x39_2 + 1)) a0 0 (x120001_2 ++ [(⟨(rd_T174 t118 x39_2).f0,(⟨(rd_T174 t118 x39_2).f1.f0,(rd_T174 t118 x39_2).f1.f1,t126,(⟨(rd_T174 t118 x39_2).f1.f3.f0,(rd_T174 t118 x39_2).f1.f3.f1⟩:S58)⟩:S20172)⟩:S20174)])) else (none))))) else (none)) else (none))=some (r1,r2,r3):=by first | (rw [hji22] at H;exact H) | (simp only [hji22] at H ⊢;exact H)
          have hji22w:(IntKind.i64.wrap ((x120001_2.length:Int) - 1))=ji22:=(i64_w _).trans hji22
          by_cases c23:0 ≤ (ji22)
          ·
           rw [if_pos c23] at H
           have c23b0:decide (0 ≤ (ji22))=true:=decide_eq_true c23
           clear c23
           by_cases c24:(ji22) < (x120001_2.length:Int)
           ·
            rw [if_pos c24] at H
            have c24b0:decide ((ji22) < (x120001_2.length:Int))=true:=decide_eq_true c24
            clear c24
            replace H:=Option.bind_eq_some_iff.mp H
            obtain ⟨t123,A250,H⟩:=H
            replace H:(if t123=0 then (ask_normal_at.l1 w k2 x7_1 t118 (x6_1.length:Int) (wrap64 (x39_2 + 1)) a0 0 (x120001_2.set ((ji22):Int).toNat (⟨wrap64 (((rd_T20174 x120001_2 (ji22)).f0) + ((rd_T174 t118 x39_2).f0)),(⟨(rd_T20174 x120001_2 (ji22)).f1.f0,(rd_T20174 x120001_2 (ji22)).f1.f1,(rd_T20174 x120001_2 (ji22)).f1.f2,(⟨(rd_T20174 x120001_2 (ji22)).f1.f3.f0,(rd_T20174 x120001_2 (ji22)).f1.f3.f1⟩:S58)⟩:S20172)⟩:S20174))) else ((cloneP.f w ((rd_T174 t118 x39_2).f1.f2)).bind fun t126 => (if x120001_2.length < 2199023255552 then (ask_normal_at.l1 w k2 x7_1 t118 (x6_1.length:Int) (wrap64 (x39_2 + 1)) a0 0 (x120001_2 ++ [(⟨(rd_T174 t118 x39_2).f0,(⟨(rd_T174 t118 x39_2).f1.f0,(rd_T174 t118 x39_2).f1.f1,t126,(⟨(rd_T174 t118 x39_2).f1.f3.f0,(rd_T174 t118 x39_2).f1.f3.f1⟩:S58)⟩:S20172)⟩:S20174)])) else (none))))=some (r1,r2,r3):=H
            have A25:=ak A250
            clear A250
            by_cases c26:t123=0
            ·
             rw [if_pos c26] at H
             have c26b0:(t123 == 0)=true:=beq_iff_eq.mpr c26
             have c26b1:(t123 != 0)=false:=bne_eq_false_iff_eq.mpr c26
             clear c26
             obtain ⟨y125,hy125⟩:∃ y_:List (S20174),y_=(x120001_2.set ((ji22):Int).toNat (⟨wrap64 (((rd_T20174 x120001_2 (ji22)).f0) + ((rd_T174 t118 x39_2).f0)),(⟨(rd_T20174 x120001_2 (ji22)).f1.f0,(rd_T20174 x120001_2 (ji22)).f1.f1,(rd_T20174 x120001_2 (ji22)).f1.f2,(⟨(rd_T20174 x120001_2 (ji22)).f1.f3.f0,(rd_T20174 x120001_2 (ji22)).f1.f3.f1⟩:S58)⟩:S20172)⟩:S20174)):=⟨_,rfl⟩
             replace H:(ask_normal_at.l1 w k2 x7_1 t118 (x6_1.length:Int) (wrap64 (x39_2 + 1)) a0 0 y125)=some (r1,r2,r3):=by first | (rw [hy125];with_reducible exact H) | (have H2_:=(Option.bind_some _ _).symm.trans H;rw [hy125];with_reducible exact H2_) | (have H2_:=(Option.bind_some _ _).symm.trans H;with_reducible exact H2_) | with_reducible exact H | (rw [hy125];exact H) | exact H
             have Ny125:=ak hy125
             clear hy125
             have H':=ak H
             clear H
             have p120:0 ≤ (x39_2:Int):=of_decide_eq_true asm
             have q120:x39_2 < (t118.length:Int):=of_decide_eq_true asm
             obtain ⟨ad120,e120,hx120_0,hx120_1,hx120_2,hx120_3,hx120_4,hx120_5⟩:=at_T174 (Kd.R_reads' HO_37.out).2.2 x39_2 p120 q120
             cases e120
             replace p120:=eq_true p120
             replace q120:=eq_true q120
             try go_wp2_with (first | ((with_reducible refine gate_dst (N:=12) rfl ?_);refine box_event ?hg (N:=12) ?hd (cs:=#[.int .i64 0,.int .i64 0,.int .i64 0,(svv svz),.int .i64 0,.int .i64 0]) (t:=47) ?hr ?_;(case hd => rfl);(case hg => rfl);(case hr => first | (go_simp;done) | (go_simp;rfl));intro gb121 hg w28 hbox hb;have n0_:=ak (Kd.R_below (Kd.R_elderB (rx HO_37) gb121 (Nat.le_of_eq hg.symm)) hb);have n1_:=ak (Kd.S_below (Kd.S_elderB (sx HO_120001) gb121 (Nat.le_of_eq hg.symm)) hb);have n2_:=bB BK111 hb;have n3_:=bB BK112 hb;have n4_:=bB BK119 hb;have n5_:=ak (below_step bx hb);have n6_:=ak (hbox);have n7_:=ak ((by rw [hg];exact (below_size bx):w.heap.size ≤ gb121));have n8_:=ak ((by rw [hg];exact (below_size bx):w.heap.size ≤ gb121));have n9_:=ak ((by rw [hg];exact Nat.ne_of_lt (blk_lt (g:=gb111) (o:=.cells #[.int .i64 a0] 3 (0,0)) (bk BK111)):gb111 ≠ gb121));have n10_:=ak ((by rw [hg];exact Nat.ne_of_gt (blk_lt (g:=gb111) (o:=.cells #[.int .i64 a0] 3 (0,0)) (bk BK111)):gb121 ≠ gb111));have n11_:=ak ((by rw [hg];exact Nat.ne_of_lt (blk_lt (g:=gb112) (o:=.cells #[.int .i64 0,.slice none 0 0] 24 (0,0)) (bk BK112)):gb112 ≠ gb121));have n12_:=ak ((by rw [hg];exact Nat.ne_of_gt (blk_lt (g:=gb112) (o:=.cells #[.int .i64 0,.slice none 0 0] 24 (0,0)) (bk BK112)):gb121 ≠ gb112));have n13_:=ak ((by rw [hg];exact Nat.ne_of_lt (blk_lt (g:=gb119) (o:=.cells #[.int .i64 0,u120001] 24 (0,0)) (bk BK119)):gb119 ≠ gb121));have n14_:=ak ((by rw [hg];exact Nat.ne_of_gt (blk_lt (g:=gb119) (o:=.cells #[.int .i64 0,u120001] 24 (0,0)) (bk BK119)):gb121 ≠ gb119));clear HO_37 HO_120001 BK111 BK112 BK119 HB;have HO_37:=n0_;have HO_120001:=n1_;have BK111:=n2_;have BK112:=n3_;have BK119:=n4_;have HB:=n5_;have BK121:=n6_;have GW121:=n7_;have GE121:=n8_;have NB111_121:=n9_;have NB121_111:=n10_;have NB112_121:=n11_;have NB121_112:=n12_;have NB119_121:=n13_;have NB121_119:=n14_;clear n0_ n1_ n2_ n3_ n4_ n5_ n6_ n7_ n8_ n9_ n10_ n11_ n12_ n13_ n14_;clear hb hbox hg;have hnb29:=NB121_111.out;have hnc29:=NB111_121.out;have hnb30:=NB121_112.out;have hnc30:=NB112_121.out;have hnb31:=NB121_119.out;have hnc31:=NB119_121.out;obtain ⟨hcz32_0,hcz32_1,hcz32_2,hcz32_3,hcz32_4,hcz32_5,hfz32_0,hfz32_1,hfz32_2,hfz32_3,hfz32_4,hfz32_5⟩:=cb6 BK121.out;have hnb33:=NB119_111.out;have hnc33:=NB111_119.out;have hnb34:=NB119_112.out;have hnc34:=NB112_119.out;obtain ⟨hcz35_0,hcz35_1,hfz35_0,hfz35_1⟩:=cb2 BK119.out;obtain ⟨Ao36,co36,eo36⟩:=Kd.S_slice HO_120001.out;subst eo36))
             have n0_:Aside0 (Kd.R k174 47 ((((((w28.setCell ⟨gb121,0,none⟩ (.int .i64 ((rd_T174 t118 x39_2).f0))).setCell ⟨gb121,1,none⟩ (.int .i64 ((rd_T174 t118 x39_2).f1.f0))).setCell ⟨gb121,2,none⟩ (.int .i64 ((rd_T174 t118 x39_2).f1.f1))).setCell ⟨gb121,3,none⟩ ((svv ((rd_T174 t118 x39_2).f1.f2)))).setCell ⟨gb121,4,none⟩ (.int .i64 ((rd_T174 t118 x39_2).f1.f3.f0))).setCell ⟨gb121,5,none⟩ (.int .i64 ((rd_T174 t118 x39_2).f1.f3.f1))) w.heap.size (fun k_ => some k_ ≠ (.slice Ao36 x120001_2.length co36:Value).ownBlock∧k_ ≠ gb121) (.slice (some ad120) t118.length co15) t118):=⟨by (with_reducible repeat (first | apply Kd.R_alloc | apply Kd.R_drewN | apply Kd.R_drew));exact Kd.R_mono (Kd.R_far (p:=⟨gb121,5,none⟩) (Kd.R_far (p:=⟨gb121,4,none⟩) (Kd.R_far (p:=⟨gb121,3,none⟩) (Kd.R_far (p:=⟨gb121,2,none⟩) (Kd.R_far (p:=⟨gb121,1,none⟩) (Kd.R_far (p:=⟨gb121,0,none⟩) (Kd.R_mono HO_37.out (fun k_ hk => (⟨hk,hk.2⟩:_∧k_ ≠ gb121))) (fun _ hk => hk.2) (.int .i64 ((rd_T174 t118 x39_2).f0))) (fun _ hk => hk.2) (.int .i64 ((rd_T174 t118 x39_2).f1.f0))) (fun _ hk => hk.2) (.int .i64 ((rd_T174 t118 x39_2).f1.f1))) (fun _ hk => hk.2) ((svv ((rd_T174 t118 x39_2).f1.f2)))) (fun _ hk => hk.2) (.int .i64 ((rd_T174 t118 x39_2).f1.f3.f0))) (fun _ hk => hk.2) (.int .i64 ((rd_T174 t118 x39_2).f1.f3.f1))) (fun _ hk => ⟨hk.1.1,hk.1.2⟩)⟩
             have n1_:Aside0 (Kd.S k20174 47 ((((((w28.setCell ⟨gb121,0,none⟩ (.int .i64 ((rd_T174 t118 x39_2).f0))).setCell ⟨gb121,1,none⟩ (.int .i64 ((rd_T174 t118 x39_2).f1.f0))).setCell ⟨gb121,2,none⟩ (.int .i64 ((rd_T174 t118 x39_2).f1.f1))).setCell ⟨gb121,3,none⟩ ((svv ((rd_T174 t118 x39_2).f1.f2)))).setCell ⟨gb121,4,none⟩ (.int .i64 ((rd_T174 t118 x39_2).f1.f3.f0))).setCell ⟨gb121,5,none⟩ (.int .i64 ((rd_T174 t118 x39_2).f1.f3.f1))) w.heap.size (fun k_ => some k_ ≠ (.slice (some ad120) t118.length co15:Value).ownBlock∧k_ ≠ gb121) (.slice Ao36 x120001_2.length co36) x120001_2):=⟨by (with_reducible repeat (first | apply Kd.S_alloc | apply Kd.S_drewN | apply Kd.S_drew));exact Kd.S_mono (Kd.S_far (p:=⟨gb121,5,none⟩) (Kd.S_far (p:=⟨gb121,4,none⟩) (Kd.S_far (p:=⟨gb121,3,none⟩) (Kd.S_far (p:=⟨gb121,2,none⟩) (Kd.S_far (p:=⟨gb121,1,none⟩) (Kd.S_far (p:=⟨gb121,0,none⟩) (Kd.S_mono HO_120001.out (fun k_ hk => (⟨hk,hk.2⟩:_∧k_ ≠ gb121))) (fun _ hk => hk.2) (.int .i64 ((rd_T174 t118 x39_2).f0))) (fun _ hk => hk.2) (.int .i64 ((rd_T174 t118 x39_2).f1.f0))) (fun _ hk => hk.2) (.int .i64 ((rd_T174 t118 x39_2).f1.f1))) (fun _ hk => hk.2) ((svv ((rd_T174 t118 x39_2).f1.f2)))) (fun _ hk => hk.2) (.int .i64 ((rd_T174 t118 x39_2).f1.f3.f0))) (fun _ hk => hk.2) (.int .i64 ((rd_T174 t118 x39_2).f1.f3.f1))) (fun _ hk => ⟨hk.1.1,hk.1.2⟩)⟩
             have n2_:Aside0 (((((((w28.setCell ⟨gb121,0,none⟩ (.int .i64 ((rd_T174 t118 x39_2).f0))).setCell ⟨gb121,1,none⟩ (.int .i64 ((rd_T174 t118 x39_2).f1.f0))).setCell ⟨gb121,2,none⟩ (.int .i64 ((rd_T174 t118 x39_2).f1.f1))).setCell ⟨gb121,3,none⟩ ((svv ((rd_T174 t118 x39_2).f1.f2)))).setCell ⟨gb121,4,none⟩ (.int .i64 ((rd_T174 t118 x39_2).f1.f3.f0))).setCell ⟨gb121,5,none⟩ (.int .i64 ((rd_T174 t118 x39_2).f1.f3.f1))).heap[gb111]?=some (.cells #[.int .i64 a0] 3 (0,0))):=⟨by (refine st ?_);refine blk_far ?_ NB111_121.out _;(refine st ?_);refine blk_far ?_ NB111_121.out _;(refine st ?_);refine blk_far ?_ NB111_121.out _;(refine st ?_);refine blk_far ?_ NB111_121.out _;(refine st ?_);refine blk_far ?_ NB111_121.out _;(refine st ?_);refine blk_far ?_ NB111_121.out _;(refine st ?_);exact BK111.out⟩
             have n3_:Aside0 (((((((w28.setCell ⟨gb121,0,none⟩ (.int .i64 ((rd_T174 t118 x39_2).f0))).setCell ⟨gb121,1,none⟩ (.int .i64 ((rd_T174 t118 x39_2).f1.f0))).setCell ⟨gb121,2,none⟩ (.int .i64 ((rd_T174 t118 x39_2).f1.f1))).setCell ⟨gb121,3,none⟩ ((svv ((rd_T174 t118 x39_2).f1.f2)))).setCell ⟨gb121,4,none⟩ (.int .i64 ((rd_T174 t118 x39_2).f1.f3.f0))).setCell ⟨gb121,5,none⟩ (.int .i64 ((rd_T174 t118 x39_2).f1.f3.f1))).heap[gb112]?=some (.cells #[.int .i64 0,.slice none 0 0] 24 (0,0))):=⟨by (refine st ?_);refine blk_far ?_ NB112_121.out _;(refine st ?_);refine blk_far ?_ NB112_121.out _;(refine st ?_);refine blk_far ?_ NB112_121.out _;(refine st ?_);refine blk_far ?_ NB112_121.out _;(refine st ?_);refine blk_far ?_ NB112_121.out _;(refine st ?_);refine blk_far ?_ NB112_121.out _;(refine st ?_);exact BK112.out⟩
             have n4_:Aside0 (((((((w28.setCell ⟨gb121,0,none⟩ (.int .i64 ((rd_T174 t118 x39_2).f0))).setCell ⟨gb121,1,none⟩ (.int .i64 ((rd_T174 t118 x39_2).f1.f0))).setCell ⟨gb121,2,none⟩ (.int .i64 ((rd_T174 t118 x39_2).f1.f1))).setCell ⟨gb121,3,none⟩ ((svv ((rd_T174 t118 x39_2).f1.f2)))).setCell ⟨gb121,4,none⟩ (.int .i64 ((rd_T174 t118 x39_2).f1.f3.f0))).setCell ⟨gb121,5,none⟩ (.int .i64 ((rd_T174 t118 x39_2).f1.f3.f1))).heap[gb119]?=some (.cells #[.int .i64 0,.slice Ao36 x120001_2.length co36] 24 (0,0))):=⟨by (refine st ?_);refine blk_far ?_ NB119_121.out _;(refine st ?_);refine blk_far ?_ NB119_121.out _;(refine st ?_);refine blk_far ?_ NB119_121.out _;(refine st ?_);refine blk_far ?_ NB119_121.out _;(refine st ?_);refine blk_far ?_ NB119_121.out _;(refine st ?_);refine blk_far ?_ NB119_121.out _;(refine st ?_);exact BK119.out⟩
             have n5_:Aside0 (((((((w28.setCell ⟨gb121,0,none⟩ (.int .i64 ((rd_T174 t118 x39_2).f0))).setCell ⟨gb121,1,none⟩ (.int .i64 ((rd_T174 t118 x39_2).f1.f0))).setCell ⟨gb121,2,none⟩ (.int .i64 ((rd_T174 t118 x39_2).f1.f1))).setCell ⟨gb121,3,none⟩ ((svv ((rd_T174 t118 x39_2).f1.f2)))).setCell ⟨gb121,4,none⟩ (.int .i64 ((rd_T174 t118 x39_2).f1.f3.f0))).setCell ⟨gb121,5,none⟩ (.int .i64 ((rd_T174 t118 x39_2).f1.f3.f1))).heap[gb121]?=some (.cells #[.int .i64 ((rd_T174 t118 x39_2).f0),.int .i64 ((rd_T174 t118 x39_2).f1.f0),.int .i64 ((rd_T174 t118 x39_2).f1.f1),(svv ((rd_T174 t118 x39_2).f1.f2)),.int .i64 ((rd_T174 t118 x39_2).f1.f3.f0),.int .i64 ((rd_T174 t118 x39_2).f1.f3.f1)] 47 (0,0))):=⟨by (refine st ?_);refine blk_put (cs:=#[.int .i64 ((rd_T174 t118 x39_2).f0),.int .i64 ((rd_T174 t118 x39_2).f1.f0),.int .i64 ((rd_T174 t118 x39_2).f1.f1),(svv ((rd_T174 t118 x39_2).f1.f2)),.int .i64 ((rd_T174 t118 x39_2).f1.f3.f0),.int .i64 0]) ?_ 5 _ rfl;(refine st ?_);refine blk_put (cs:=#[.int .i64 ((rd_T174 t118 x39_2).f0),.int .i64 ((rd_T174 t118 x39_2).f1.f0),.int .i64 ((rd_T174 t118 x39_2).f1.f1),(svv ((rd_T174 t118 x39_2).f1.f2)),.int .i64 0,.int .i64 0]) ?_ 4 _ rfl;(refine st ?_);refine blk_put (cs:=#[.int .i64 ((rd_T174 t118 x39_2).f0),.int .i64 ((rd_T174 t118 x39_2).f1.f0),.int .i64 ((rd_T174 t118 x39_2).f1.f1),(svv svz),.int .i64 0,.int .i64 0]) ?_ 3 _ rfl;(refine st ?_);refine blk_put (cs:=#[.int .i64 ((rd_T174 t118 x39_2).f0),.int .i64 ((rd_T174 t118 x39_2).f1.f0),.int .i64 0,(svv svz),.int .i64 0,.int .i64 0]) ?_ 2 _ rfl;(refine st ?_);refine blk_put (cs:=#[.int .i64 ((rd_T174 t118 x39_2).f0),.int .i64 0,.int .i64 0,(svv svz),.int .i64 0,.int .i64 0]) ?_ 1 _ rfl;(refine st ?_);refine blk_put (cs:=#[.int .i64 0,.int .i64 0,.int .i64 0,(svv svz),.int .i64 0,.int .i64 0]) ?_ 0 _ rfl;(refine st ?_);exact BK121.out⟩
             have n6_:Aside0 (Below w.heap.size w ((((((w28.setCell ⟨gb121,0,none⟩ (.int .i64 ((rd_T174 t118 x39_2).f0))).setCell ⟨gb121,1,none⟩ (.int .i64 ((rd_T174 t118 x39_2).f1.f0))).setCell ⟨gb121,2,none⟩ (.int .i64 ((rd_T174 t118 x39_2).f1.f1))).setCell ⟨gb121,3,none⟩ ((svv ((rd_T174 t118 x39_2).f1.f2)))).setCell ⟨gb121,4,none⟩ (.int .i64 ((rd_T174 t118 x39_2).f1.f3.f0))).setCell ⟨gb121,5,none⟩ (.int .i64 ((rd_T174 t118 x39_2).f1.f3.f1)))):=⟨bx⟩
             (try clear HO_37)
             (try clear HO_120001)
             (try clear BK111)
             (try clear BK112)
             (try clear BK119)
             (try clear BK121)
             (try clear HB)
             generalize ((((((w28.setCell ⟨gb121,0,none⟩ (.int .i64 ((rd_T174 t118 x39_2).f0))).setCell ⟨gb121,1,none⟩ (.int .i64 ((rd_T174 t118 x39_2).f1.f0))).setCell ⟨gb121,2,none⟩ (.int .i64 ((rd_T174 t118 x39_2).f1.f1))).setCell ⟨gb121,3,none⟩ ((svv ((rd_T174 t118 x39_2).f1.f2)))).setCell ⟨gb121,4,none⟩ (.int .i64 ((rd_T174 t118 x39_2).f1.f3.f0))).setCell ⟨gb121,5,none⟩ (.int .i64 ((rd_T174 t118 x39_2).f1.f3.f1)))=w37 at n0_ n1_ n2_ n3_ n4_ n5_ n6_ ⊢
             have HO_37:=n0_
             have HO_120001:=n1_
             have BK111:=n2_
             have BK112:=n3_
             have BK119:=n4_
             have BK121:=n5_
             have HB:=n6_
             clear n0_ n1_ n2_ n3_ n4_ n5_ n6_
             have n0_:=ak (Kd.R_drew HO_37.out)
             have n1_:=ak (Kd.S_drew HO_120001.out)
             have n2_:=ak (blk_drew BK111.out)
             have n3_:=ak (blk_drew BK112.out)
             have n4_:=ak (blk_drew BK119.out)
             have n5_:=ak (blk_drew BK121.out)
             have n6_:=ak (below_drew1 HB.out)
             clear HO_37
             clear HO_120001
             clear BK111
             clear BK112
             clear BK119
             clear BK121
             clear HB
             have HO_37:=n0_
             have HO_120001:=n1_
             have BK111:=n2_
             have BK112:=n3_
             have BK119:=n4_
             have BK121:=n5_
             have HB:=n6_
             clear n0_ n1_ n2_ n3_ n4_ n5_ n6_
             have p122:0 ≤ ((ji22):Int):=of_decide_eq_true asm
             have q122:(ji22) < (x120001_2.length:Int):=of_decide_eq_true asm
             obtain ⟨ad122,A122_3,c122_3,e122,hx122_0,hx122_1,hx122_2,hx122_3,hx122_4,hx122_5,hl122_3,hi122_3⟩:=at_T20174 (Kd.S_reads' HO_120001.out).2.2 (ji22) p122 q122
             cases e122
             obtain ⟨ce122,hce122,hMe122,hcc122⟩:=Kd.S_get HO_120001.out z20174 (ji22) p122 (by first | exact q122 | exact of_decide_eq_true asm | (have e_:=(Kd.S_reads' HO_120001.out).1;omega))
             obtain ⟨ve122_3,rfl,ge122_3⟩:=k20174_openM hMe122
             have hv122_3:=hcc122 3 _ rfl
             rw [add_field _ _ 3 (by omega)] at hv122_3
             replace hv122_3:=Option.some.inj (hv122_3.symm.trans hx122_3)
             rw [hv122_3] at ge122_3
             have HL122_3:=ak (show Kd.R k95 103 _ _ _ _ ((rd_T20174 x120001_2 (ji22)).f1.f2) from ge122_3)
             clear hv122_3 ge122_3
             clear hcc122 hce122
             have HR122_3:=ak hi122_3
             have HC122_3:=ak hl122_3
             clear hi122_3 hl122_3
             replace p122:=eq_true p122
             replace q122:=eq_true q122
             refine start_ (n:=15) (S:=fun w' => w'.cell? ⟨gb119,0,none⟩=some (.int .i64 0)∧w'.cell? ⟨gb119,1,none⟩=some (.slice (some ad122) x120001_2.length co36)∧w'.cell? ⟨gb121,0,none⟩=some (.int .i64 ((rd_T174 t118 x39_2).f0))∧w'.cell? ⟨gb121,1,none⟩=some (.int .i64 ((rd_T174 t118 x39_2).f1.f0))∧w'.cell? ⟨gb121,2,none⟩=some (.int .i64 ((rd_T174 t118 x39_2).f1.f1))∧w'.cell? ⟨gb121,3,none⟩=some ((svv ((rd_T174 t118 x39_2).f1.f2)))∧w'.cell? ⟨gb121,4,none⟩=some (.int .i64 ((rd_T174 t118 x39_2).f1.f3.f0))∧w'.cell? ⟨gb121,5,none⟩=some (.int .i64 ((rd_T174 t118 x39_2).f1.f3.f1))∧w'.cell? (ad122.add (((ji22)).toNat * 6))=some (.int .i64 ((rd_T20174 x120001_2 (ji22)).f0))∧w'.cell? ⟨(ad122.add (((ji22)).toNat * 6)).block,(ad122.add (((ji22)).toNat * 6)).off + 1,none⟩=some (.int .i64 ((rd_T20174 x120001_2 (ji22)).f1.f0))∧w'.cell? ⟨(ad122.add (((ji22)).toNat * 6)).block,(ad122.add (((ji22)).toNat * 6)).off + 2,none⟩=some (.int .i64 ((rd_T20174 x120001_2 (ji22)).f1.f1))∧w'.cell? ⟨(ad122.add (((ji22)).toNat * 6)).block,(ad122.add (((ji22)).toNat * 6)).off + 3,none⟩=some (.slice A122_3 ((rd_T20174 x120001_2 (ji22)).f1.f2).length c122_3)∧w'.cell? ⟨(ad122.add (((ji22)).toNat * 6)).block,(ad122.add (((ji22)).toNat * 6)).off + 4,none⟩=some (.int .i64 ((rd_T20174 x120001_2 (ji22)).f1.f3.f0))∧w'.cell? ⟨(ad122.add (((ji22)).toNat * 6)).block,(ad122.add (((ji22)).toNat * 6)).off + 5,none⟩=some (.int .i64 ((rd_T20174 x120001_2 (ji22)).f1.f3.f1))) (ds:=[]) #[false,false,false,false,false,false,false,false,false,false,false,false,false,false,false] kr rfl rfl ⟨(blk_cell BK119.out 0).trans rfl,(blk_cell BK119.out 1).trans rfl,(blk_cell BK121.out 0).trans rfl,(blk_cell BK121.out 1).trans rfl,(blk_cell BK121.out 2).trans rfl,(blk_cell BK121.out 3).trans rfl,(blk_cell BK121.out 4).trans rfl,(blk_cell BK121.out 5).trans rfl,hx122_0,hx122_1,hx122_2,hx122_3,hx122_4,hx122_5⟩ (fun hHeld => ?_);refine with_tabW ask_normal_at.tab15 ask_normal_at.bits15 (fun HT_ HW_ => ?_)
             generalize w37.drew=w38 at HO_37 HO_120001 BK111 BK112 BK119 BK121 HB HL122_3 HR122_3 hx122_0 hx122_1 hx122_2 hx122_3 hx122_4 hx122_5 hHeld ⊢
             refine pS 0 (some 46) ?_
             refine pS 1 (some 47) ?_
             refine pS 2 (some 48) ?_
             refine pS 3 (some 49) ?_
             refine pS 5 (some 51) ?_
             refine pS 6 (some 52) ?_
             refine pS 10 (some 56) ?_
             refine pT 4 (some 50) ?_
             refine pS 7 (some 53) ?_
             refine pS 8 (some 54) ?_
             refine pT 9 (some 55) ?_
             refine pT 11 (some 57) ?_
             refine one_ (i:=12) (N:=some 58) #[true,true,true,true,true,true,true,true,true,true,true,true,true,false,false] rfl rfl (one_of HT_.out kr) (by decide) (fun K hK => ?_)
             refine goes_ Tryz.func47 kr rfl #[.agg #[.int .i64 ((rd_T20174 x120001_2 (ji22)).f1.f0),.int .i64 ((rd_T20174 x120001_2 (ji22)).f1.f1),.slice A122_3 ((rd_T20174 x120001_2 (ji22)).f1.f2).length c122_3,.int .i64 ((rd_T20174 x120001_2 (ji22)).f1.f3.f0),.int .i64 ((rd_T20174 x120001_2 (ji22)).f1.f3.f1)],.agg #[.int .i64 ((rd_T174 t118 x39_2).f1.f0),.int .i64 ((rd_T174 t118 x39_2).f1.f1),(svv ((rd_T174 t118 x39_2).f1.f2)),.int .i64 ((rd_T174 t118 x39_2).f1.f3.f0),.int .i64 ((rd_T174 t118 x39_2).f1.f3.f1)]] (by rfl) rfl rfl (by (try simp only [List.map_toArray,List.map_cons,List.map_nil]);first | done | (simp only [hji22];rfl) | rfl | (simp only [List.length_drop,List.length_take];rfl)) ?_
             with_reducible refine (byFigM.calls w ((rd_T20174 x120001_2 (ji22)).f1.f0) ((rd_T20174 x120001_2 (ji22)).f1.f1) _ _ ((rd_T20174 x120001_2 (ji22)).f1.f2) ((rd_T20174 x120001_2 (ji22)).f1.f3.f0) ((rd_T20174 x120001_2 (ji22)).f1.f3.f1) ((rd_T174 t118 x39_2).f1.f0) ((rd_T174 t118 x39_2).f1.f1) ((rd_T174 t118 x39_2).f1.f2) ((rd_T174 t118 x39_2).f1.f3.f0) ((rd_T174 t118 x39_2).f1.f3.f1) t123 _ bx ?side1 ?side2 A25.out).mono ?_
             (case side1 => repeat (first | exact (cx HR122_3) | (with_reducible refine Kd.C_alloc ?_ _) | (with_reducible refine Kd.C_drewN ?_ _) | (with_reducible refine Kd.C_drew ?_)))
             (case side2 => exact HC122_3.out)
             rintro e w39 ⟨rfl,hb⟩
             have HS8_:=(hb.cell (World.block_lt_of_cell? _ _ (hHeld.2.2.2.2.2.2.2.2.1))).trans (hHeld.2.2.2.2.2.2.2.2.1)
             have HS9_:=(hb.cell (World.block_lt_of_cell? _ _ (hHeld.2.2.2.2.2.2.2.2.2.1))).trans (hHeld.2.2.2.2.2.2.2.2.2.1)
             have HS10_:=(hb.cell (World.block_lt_of_cell? _ _ (hHeld.2.2.2.2.2.2.2.2.2.2.1))).trans (hHeld.2.2.2.2.2.2.2.2.2.2.1)
             have HS11_:=(hb.cell (World.block_lt_of_cell? _ _ (hHeld.2.2.2.2.2.2.2.2.2.2.2.1))).trans (hHeld.2.2.2.2.2.2.2.2.2.2.2.1)
             have HS12_:=(hb.cell (World.block_lt_of_cell? _ _ (hHeld.2.2.2.2.2.2.2.2.2.2.2.2.1))).trans (hHeld.2.2.2.2.2.2.2.2.2.2.2.2.1)
             have HS13_:=(hb.cell (World.block_lt_of_cell? _ _ (hHeld.2.2.2.2.2.2.2.2.2.2.2.2.2))).trans (hHeld.2.2.2.2.2.2.2.2.2.2.2.2.2)
             refine ⟨_,rfl,?_⟩
             have n0_:=ak (Kd.R_below (rx HO_37) hb)
             have n1_:=ak (Kd.S_below (sx HO_120001) hb)
             have n2_:=ak (Kd.R_below (rx HL122_3) hb)
             have n3_:=bB BK111 hb
             have n4_:=bB BK112 hb
             have n5_:=bB BK119 hb
             have n6_:=bB BK121 hb
             have n7_:=ak (Kd.C_below (cx HR122_3) hb)
             have n8_:=ak (below_step bx hb)
             clear HO_37
             clear HO_120001
             clear HL122_3
             clear BK111
             clear BK112
             clear BK119
             clear BK121
             clear HR122_3
             clear HB
             have HO_37:=n0_
             have HO_120001:=n1_
             have HL122_3:=n2_
             have BK111:=n3_
             have BK112:=n4_
             have BK119:=n5_
             have BK121:=n6_
             have HR122_3:=n7_
             have HB:=n8_
             clear n0_ n1_ n2_ n3_ n4_ n5_ n6_ n7_ n8_
             (try clear hb)
             (try clear hb2)
             (try clear hk)
             (try clear hi)
             refine hK.out _ _ ⟨(blk_cell BK119.out 0).trans rfl,(blk_cell BK119.out 1).trans rfl,(blk_cell BK121.out 0).trans rfl,(blk_cell BK121.out 1).trans rfl,(blk_cell BK121.out 2).trans rfl,(blk_cell BK121.out 3).trans rfl,(blk_cell BK121.out 4).trans rfl,(blk_cell BK121.out 5).trans rfl,HS8_,HS9_,HS10_,HS11_,HS12_,HS13_⟩ (fun hHeld => ?_)
             clear hK K
             refine norm_ (a':=?_) ?_ ?_
             rotate_left
             ·
              show Act.put _ (some 58) _=_
              simp only [Act.put,List.setIfInBounds_toArray,List.set_cons_zero,List.set_cons_succ,i64_w,i32_w]
              rfl
             refine pS 13 (some 59) ?_
             refine pS 14 (some 60) ?_
             refine done_ (done_of HT_.out kr) ?_
             try go_wp2
             have n0_:=ak (Kd.R_drew HO_37.out)
             have n1_:=ak (Kd.S_drew HO_120001.out)
             have n2_:=ak (Kd.R_drew HL122_3.out)
             have n3_:=ak (blk_drew BK111.out)
             have n4_:=ak (blk_drew BK112.out)
             have n5_:=ak (blk_drew BK119.out)
             have n6_:=ak (blk_drew BK121.out)
             have n7_:=ak (Kd.C_drew HR122_3.out)
             have n8_:=ak (below_drew1 HB.out)
             clear HO_37
             clear HO_120001
             clear HL122_3
             clear BK111
             clear BK112
             clear BK119
             clear BK121
             clear HR122_3
             clear HB
             have HO_37:=n0_
             have HO_120001:=n1_
             have HL122_3:=n2_
             have BK111:=n3_
             have BK112:=n4_
             have BK119:=n5_
             have BK121:=n6_
             have HR122_3:=n7_
             have HB:=n8_
             clear n0_ n1_ n2_ n3_ n4_ n5_ n6_ n7_ n8_
             have p124:0 ≤ ((ji22):Int):=of_decide_eq_true asm
             have q124:(ji22) < (x120001_2.length:Int):=of_decide_eq_true asm
             obtain ⟨ad124,A124_3,c124_3,e124,hx124_0,hx124_1,hx124_2,hx124_3,hx124_4,hx124_5,hl124_3,hi124_3⟩:=at_T20174 (Kd.S_reads' HO_120001.out).2.2 (ji22) p124 q124
             obtain rfl:ad122=ad124:=(by injection e124)
             obtain ⟨ce124,hce124,hMe124,hcc124⟩:=Kd.S_get HO_120001.out z20174 (ji22) p124 (by first | exact q124 | exact of_decide_eq_true asm | (have e_:=(Kd.S_reads' HO_120001.out).1;omega))
             obtain ⟨ve124_3,rfl,ge124_3⟩:=k20174_openM hMe124
             have hv124_3:=hcc124 3 _ rfl
             rw [add_field _ _ 3 (by omega)] at hv124_3
             replace hv124_3:=Option.some.inj (hv124_3.symm.trans hx124_3)
             rw [hv124_3] at ge124_3
             have HL124_3:=ak (show Kd.R k95 103 _ _ _ _ ((rd_T20174 x120001_2 (ji22)).f1.f2) from ge124_3)
             clear hv124_3 ge124_3
             clear hcc124 hce124
             have HR124_3:=ak hi124_3
             have HC124_3:=ak hl124_3
             clear hi124_3 hl124_3
             replace p124:=eq_true p124
             replace q124:=eq_true q124
             have p27:0 ≤ ((ji22):Int):=of_decide_eq_true asm
             have q27:((ji22):Int) < ((x120001_2.length:Int):Int):=of_decide_eq_true asm
             obtain ⟨go27,co27,eo27,gb27,gl27,cl27,HG27⟩:=Kd.S_form HO_120001.out (by omega)
             (first | cases eo27 | (injection eo27 with ea_ en_ ec_;(first | subst ea_ | (injection ea_ with ea_;subst ea_));subst ec_;clear en_))
             have GB27:=ak gb27
             have GG27:=ak HG27
             clear gb27 gl27 HG27
             (first | simp only [add_plain] at hx122_0 | skip)
             (first | simp only [add_plain] at hx122_1 | skip)
             (first | simp only [add_plain] at hx122_2 | skip)
             (first | simp only [add_plain] at hx122_3 | skip)
             (first | simp only [add_plain] at hx122_4 | skip)
             (first | simp only [add_plain] at hx122_5 | skip)
             (first | simp only [add_plain] at hx124_0 | skip)
             (first | simp only [add_plain] at hx124_1 | skip)
             (first | simp only [add_plain] at hx124_2 | skip)
             (first | simp only [add_plain] at hx124_3 | skip)
             (first | simp only [add_plain] at hx124_4 | skip)
             (first | simp only [add_plain] at hx124_5 | skip)
             obtain ⟨_,ce27,hcl27,hM27,hcc27,hfr27,_,_⟩:=Kd.S_elem HO_120001.out z20174 ((ji22):Int) p27 q27
             obtain ⟨ve27_3,rfl,ge27_3⟩:=k20174_openM hM27
             have hx27_0:World.cell? _ ⟨go27,((ji22):Int).toNat * 6,none⟩=some (.int .i64 ((rd_T20174 x120001_2 (ji22)).f0)):=hcc27 0 _ rfl
             have hx27_1:World.cell? _ ⟨go27,((ji22):Int).toNat * 6 + 1,none⟩=some (.int .i64 ((rd_T20174 x120001_2 (ji22)).f1.f0)):=hcc27 1 _ rfl
             have hx27_2:World.cell? _ ⟨go27,((ji22):Int).toNat * 6 + 2,none⟩=some (.int .i64 ((rd_T20174 x120001_2 (ji22)).f1.f1)):=hcc27 2 _ rfl
             have hx27_3:World.cell? _ ⟨go27,((ji22):Int).toNat * 6 + 3,none⟩=some (ve27_3):=hcc27 3 _ rfl
             have hx27_4:World.cell? _ ⟨go27,((ji22):Int).toNat * 6 + 4,none⟩=some (.int .i64 ((rd_T20174 x120001_2 (ji22)).f1.f3.f0)):=hcc27 4 _ rfl
             have hx27_5:World.cell? _ ⟨go27,((ji22):Int).toNat * 6 + 5,none⟩=some (.int .i64 ((rd_T20174 x120001_2 (ji22)).f1.f3.f1)):=hcc27 5 _ rfl
             have hf27_0:World.frozen? _ ⟨go27,((ji22):Int).toNat * 6,none⟩=false:=hfr27 0
             have hf27_1:World.frozen? _ ⟨go27,((ji22):Int).toNat * 6 + 1,none⟩=false:=hfr27 1
             have hf27_2:World.frozen? _ ⟨go27,((ji22):Int).toNat * 6 + 2,none⟩=false:=hfr27 2
             have hf27_3:World.frozen? _ ⟨go27,((ji22):Int).toNat * 6 + 3,none⟩=false:=hfr27 3
             have hf27_4:World.frozen? _ ⟨go27,((ji22):Int).toNat * 6 + 4,none⟩=false:=hfr27 4
             have hf27_5:World.frozen? _ ⟨go27,((ji22):Int).toNat * 6 + 5,none⟩=false:=hfr27 5
             clear hcl27 hcc27 hfr27 hM27
             replace p27:=eq_true p27
             replace q27:=eq_true q27
             have HX41:=ak (show Kd.S k20174 47 _ w.heap.size (fun k_ => ((fun k_ => some k_ ≠ (.slice (some ad120) t118.length co15:Value).ownBlock∧k_ ≠ gb121)) k_∧¬ (fun _ => False) k_) (.slice (some ⟨go27,0,none⟩) x120001_2.length co36) x120001_2 from (by exact Kd.S_mono HO_120001.out (fun k_ hk => ⟨⟨hk.1,hk.2⟩,fun e_ => e_⟩)))
             obtain ⟨oki41,ce41,hcl41,hM41,hcc41,hfr41,hoki41,hH41⟩:=Kd.S_elem HX41.out z20174 ((ji22):Int) (of_decide_eq_true asm) (by have h_:((ji22):Int) < ((x120001_2.length:Int):Int):=of_decide_eq_true asm;first | exact h_ | (have e_:=(Kd.S_reads' HO_120001.out).1;omega) | simpa using h_)
             obtain ⟨ve41_3,rfl,ge41_3⟩:=k20174_openM hM41
             have HP41:=(Kd.S_seg hH41 (of_decide_eq_true asm) (by have h_:((ji22):Int) < ((x120001_2.length:Int):Int):=of_decide_eq_true asm;first | exact h_ | (have e_:=(Kd.S_reads' HO_120001.out).1;omega) | simpa using h_) (seg:=[.int .i64 (wrap64 (((rd_T20174 x120001_2 (ji22)).f0) + ((rd_T174 t118 x39_2).f0)))]) (j:=0) (show 1 ≤ 6 from by decide) (x':=(⟨wrap64 (((rd_T20174 x120001_2 (ji22)).f0) + ((rd_T174 t118 x39_2).f0)),(⟨(rd_T20174 x120001_2 (ji22)).f1.f0,(rd_T20174 x120001_2 (ji22)).f1.f1,(rd_T20174 x120001_2 (ji22)).f1.f2,(⟨(rd_T20174 x120001_2 (ji22)).f1.f3.f0,(rd_T20174 x120001_2 (ji22)).f1.f3.f1⟩:S58)⟩:S20172)⟩:S20174)) (k20174_mkM _ _ _ (⟨wrap64 (((rd_T20174 x120001_2 (ji22)).f0) + ((rd_T174 t118 x39_2).f0)),(⟨(rd_T20174 x120001_2 (ji22)).f1.f0,(rd_T20174 x120001_2 (ji22)).f1.f1,(rd_T20174 x120001_2 (ji22)).f1.f2,(⟨(rd_T20174 x120001_2 (ji22)).f1.f3.f0,(rd_T20174 x120001_2 (ji22)).f1.f3.f1⟩:S58)⟩:S20172)⟩:S20174) ge41_3) (fun _ hk => Or.inl hk) (fun _ hk => hk.elim)).1
             rw [← Ny125.out] at HP41
             have HQ41:=ak HP41
             clear hcl41 hcc41 hfr41 hM41 HP41
             refine start_ (n:=13) (S:=fun w' => w'.cell? ⟨gb119,0,none⟩=some (.int .i64 0)∧w'.cell? ⟨gb119,1,none⟩=some (.slice (some ⟨go27,0,none⟩) x120001_2.length co36)∧w'.cell? ⟨gb121,0,none⟩=some (.int .i64 ((rd_T174 t118 x39_2).f0))∧w'.cell? ⟨gb121,1,none⟩=some (.int .i64 ((rd_T174 t118 x39_2).f1.f0))∧w'.cell? ⟨gb121,2,none⟩=some (.int .i64 ((rd_T174 t118 x39_2).f1.f1))∧w'.cell? ⟨gb121,3,none⟩=some ((svv ((rd_T174 t118 x39_2).f1.f2)))∧w'.cell? ⟨gb121,4,none⟩=some (.int .i64 ((rd_T174 t118 x39_2).f1.f3.f0))∧w'.cell? ⟨gb121,5,none⟩=some (.int .i64 ((rd_T174 t118 x39_2).f1.f3.f1))∧w'.cell? ⟨go27,((ji22)).toNat * 6,none⟩=some (.int .i64 ((rd_T20174 x120001_2 (ji22)).f0))∧w'.cell? ⟨go27,((ji22)).toNat * 6 + 1,none⟩=some (.int .i64 ((rd_T20174 x120001_2 (ji22)).f1.f0))∧w'.cell? ⟨go27,((ji22)).toNat * 6 + 2,none⟩=some (.int .i64 ((rd_T20174 x120001_2 (ji22)).f1.f1))∧w'.cell? ⟨go27,((ji22)).toNat * 6 + 3,none⟩=some (.slice A124_3 ((rd_T20174 x120001_2 (ji22)).f1.f2).length c124_3)∧w'.cell? ⟨go27,((ji22)).toNat * 6 + 4,none⟩=some (.int .i64 ((rd_T20174 x120001_2 (ji22)).f1.f3.f0))∧w'.cell? ⟨go27,((ji22)).toNat * 6 + 5,none⟩=some (.int .i64 ((rd_T20174 x120001_2 (ji22)).f1.f3.f1))) (ds:=[12]) #[false,false,false,false,false,false,false,false,false,false,false,false,false] kr rfl rfl ⟨(blk_cell BK119.out 0).trans rfl,(blk_cell BK119.out 1).trans rfl,(blk_cell BK121.out 0).trans rfl,(blk_cell BK121.out 1).trans rfl,(blk_cell BK121.out 2).trans rfl,(blk_cell BK121.out 3).trans rfl,(blk_cell BK121.out 4).trans rfl,(blk_cell BK121.out 5).trans rfl,hx124_0,hx124_1,hx124_2,hx124_3,hx124_4,hx124_5⟩ (fun hHeld => ?_);refine with_tabW ask_normal_at.tab16 ask_normal_at.bits16 (fun HT_ HW_ => ?_)
             generalize w39.drew=w40 at HO_37 HO_120001 HL122_3 BK111 BK112 BK119 BK121 HR122_3 HB GG27 HL124_3 HQ41 HR124_3 hf27_0 hf27_1 hf27_2 hf27_3 hf27_4 hf27_5 hx122_0 hx122_1 hx122_2 hx122_3 hx122_4 hx122_5 hx124_0 hx124_1 hx124_2 hx124_3 hx124_4 hx124_5 hx27_0 hx27_1 hx27_2 hx27_3 hx27_4 hx27_5 hHeld ⊢
             refine pS 0 (some 61) ?_
             refine pS 2 (some 63) ?_
             refine pS 3 (some 64) ?_
             refine pS 7 (some 68) ?_
             refine pT 1 (some 62) ?_
             refine pS 4 (some 65) ?_
             refine pS 5 (some 66) ?_
             refine pT 6 (some 67) ?_
             refine pT 8 (some 69) ?_
             refine pS 9 (some 70) ?_
             refine pS 10 (some 71) ?_
             refine pS 11 (some 72) ?_
             refine last_ (i:=12) (N:=none) #[true,true,true,true,true,true,true,true,true,true,true,true,true] rfl rfl (one_of HT_.out kr) (by decide) (fun K hK => ?_)
             refine skip_ (w1:=?_) (by rfl) rfl ?_ ?_
             rotate_left
             ·
              go_simp
              rfl
             refine hK.out _ _ ?_
             clear hK K
             refine done_ (done_of HT_.out kr) ?_
             try go_wp2
             (try simp only [← hl37_2])
             go_roundg k2
             case measure => have:=HK1.out;have:=HK2.out;omega
             case rel => exact ⟨(wrap64 (x39_2 + 1)),(y125),(.slice (some ⟨go27,0,none⟩) x120001_2.length co36),rf,H',⟨by have:=HK1.out;have:=HK2.out;omega⟩,⟨by (try simp only [hl37_2]);(with_reducible repeat (first | apply Kd.R_alloc | apply Kd.R_drewN | apply Kd.R_drew));exact Kd.R_mono (Kd.R_far (p:=⟨go27,((ji22):Int).toNat * 6,none⟩) (Kd.R_mono HO_37.out (fun k_ hk => (⟨hk,fun e_ => hk.1 (by rw [e_];rfl)⟩:_∧k_ ≠ go27))) (fun _ hk => hk.2) (.int .i64 (wrap64 (((rd_T20174 x120001_2 (ji22)).f0) + ((rd_T174 t118 x39_2).f0))))) (fun _ hk => hk.1.1)⟩,⟨by (try simp only [hl37_2]);(with_reducible repeat (first | apply Kd.S_alloc | apply Kd.S_drewN | apply Kd.S_drew));exact Kd.S_mono HQ41.out (fun _ hk => hk.1)⟩,⟨by (try simp only [hl37_2]);(refine st ?_);refine blk_far ?_ (by have h_:=Kd.S_ne HO_120001.out BK111.out (by decide);intro e_;exact h_ (by rw [e_];rfl)) _;(refine st ?_);exact BK111.out⟩,⟨by (try simp only [hl37_2]);(refine st ?_);refine blk_far ?_ (by have h_:=Kd.S_ne HO_120001.out BK112.out (by decide);intro e_;exact h_ (by rw [e_];rfl)) _;(refine st ?_);exact BK112.out⟩,⟨by (try simp only [hl37_2]);(refine st ?_);refine blk_far ?_ (by have h_:=Kd.S_ne HO_120001.out BK119.out (by decide);intro e_;exact h_ (by rw [e_];rfl)) _;(refine st ?_);exact BK119.out⟩,⟨by repeat (first | (with_reducible first | exact HB.out | apply below_alloc | apply pw_below_drewN | apply below_drew1 | refine below_set ?_ GB27.out | refine below_set ?_ GE111.out | refine below_set ?_ GE112.out | refine below_set ?_ GE119.out | refine below_set ?_ GE121.out) | exact HB.out)⟩⟩
            ·
             rw [if_neg c26] at H
             have c26b0:(t123 == 0)=false:=beq_eq_false_iff_ne.mpr c26
             have c26b1:(t123 != 0)=true:=bne_iff_ne.mpr c26
             replace H:=Option.bind_eq_some_iff.mp H
             obtain ⟨t126,A420,H⟩:=H
             replace H:(if x120001_2.length < 2199023255552 then (ask_normal_at.l1 w k2 x7_1 t118 (x6_1.length:Int) (wrap64 (x39_2 + 1)) a0 0 (x120001_2 ++ [(⟨(rd_T174 t118 x39_2).f0,(⟨(rd_T174 t118 x39_2).f1.f0,(rd_T174 t118 x39_2).f1.f1,t126,(⟨(rd_T174 t118 x39_2).f1.f3.f0,(rd_T174 t118 x39_2).f1.f3.f1⟩:S58)⟩:S20172)⟩:S20174)])) else (none))=some (r1,r2,r3):=H
             have A42:=ak A420
             clear A420
             by_cases c43:x120001_2.length < 2199023255552
             ·
              rw [if_pos c43] at H
              have LMc43:=ak c43
              clear c43
              obtain ⟨y129,hy129⟩:∃ y_:List (S20174),y_=(x120001_2 ++ [(⟨(rd_T174 t118 x39_2).f0,(⟨(rd_T174 t118 x39_2).f1.f0,(rd_T174 t118 x39_2).f1.f1,t126,(⟨(rd_T174 t118 x39_2).f1.f3.f0,(rd_T174 t118 x39_2).f1.f3.f1⟩:S58)⟩:S20172)⟩:S20174)]):=⟨_,rfl⟩
              replace H:(ask_normal_at.l1 w k2 x7_1 t118 (x6_1.length:Int) (wrap64 (x39_2 + 1)) a0 0 y129)=some (r1,r2,r3):=by first | (rw [hy129];with_reducible exact H) | (have H2_:=(Option.bind_some _ _).symm.trans H;rw [hy129];with_reducible exact H2_) | (have H2_:=(Option.bind_some _ _).symm.trans H;with_reducible exact H2_) | with_reducible exact H | (rw [hy129];exact H) | exact H
              have Ny129:=ak hy129
              clear hy129
              have H':=ak H
              clear H
              have p120:0 ≤ (x39_2:Int):=of_decide_eq_true asm
              have q120:x39_2 < (t118.length:Int):=of_decide_eq_true asm
              obtain ⟨ad120,e120,hx120_0,hx120_1,hx120_2,hx120_3,hx120_4,hx120_5⟩:=at_T174 (Kd.R_reads' HO_37.out).2.2 x39_2 p120 q120
              cases e120
              replace p120:=eq_true p120
              replace q120:=eq_true q120
              try go_wp2_with (first | ((with_reducible refine gate_dst (N:=12) rfl ?_);refine box_event ?hg (N:=12) ?hd (cs:=#[.int .i64 0,.int .i64 0,.int .i64 0,(svv svz),.int .i64 0,.int .i64 0]) (t:=47) ?hr ?_;(case hd => rfl);(case hg => rfl);(case hr => first | (go_simp;done) | (go_simp;rfl));intro gb121 hg w44 hbox hb;have n0_:=ak (Kd.R_below (Kd.R_elderB (rx HO_37) gb121 (Nat.le_of_eq hg.symm)) hb);have n1_:=ak (Kd.S_below (Kd.S_elderB (sx HO_120001) gb121 (Nat.le_of_eq hg.symm)) hb);have n2_:=bB BK111 hb;have n3_:=bB BK112 hb;have n4_:=bB BK119 hb;have n5_:=ak (below_step bx hb);have n6_:=ak (hbox);have n7_:=ak ((by rw [hg];exact (below_size bx):w.heap.size ≤ gb121));have n8_:=ak ((by rw [hg];exact (below_size bx):w.heap.size ≤ gb121));have n9_:=ak ((by rw [hg];exact Nat.ne_of_lt (blk_lt (g:=gb111) (o:=.cells #[.int .i64 a0] 3 (0,0)) (bk BK111)):gb111 ≠ gb121));have n10_:=ak ((by rw [hg];exact Nat.ne_of_gt (blk_lt (g:=gb111) (o:=.cells #[.int .i64 a0] 3 (0,0)) (bk BK111)):gb121 ≠ gb111));have n11_:=ak ((by rw [hg];exact Nat.ne_of_lt (blk_lt (g:=gb112) (o:=.cells #[.int .i64 0,.slice none 0 0] 24 (0,0)) (bk BK112)):gb112 ≠ gb121));have n12_:=ak ((by rw [hg];exact Nat.ne_of_gt (blk_lt (g:=gb112) (o:=.cells #[.int .i64 0,.slice none 0 0] 24 (0,0)) (bk BK112)):gb121 ≠ gb112));have n13_:=ak ((by rw [hg];exact Nat.ne_of_lt (blk_lt (g:=gb119) (o:=.cells #[.int .i64 0,u120001] 24 (0,0)) (bk BK119)):gb119 ≠ gb121));have n14_:=ak ((by rw [hg];exact Nat.ne_of_gt (blk_lt (g:=gb119) (o:=.cells #[.int .i64 0,u120001] 24 (0,0)) (bk BK119)):gb121 ≠ gb119));clear HO_37 HO_120001 BK111 BK112 BK119 HB;have HO_37:=n0_;have HO_120001:=n1_;have BK111:=n2_;have BK112:=n3_;have BK119:=n4_;have HB:=n5_;have BK121:=n6_;have GW121:=n7_;have GE121:=n8_;have NB111_121:=n9_;have NB121_111:=n10_;have NB112_121:=n11_;have NB121_112:=n12_;have NB119_121:=n13_;have NB121_119:=n14_;clear n0_ n1_ n2_ n3_ n4_ n5_ n6_ n7_ n8_ n9_ n10_ n11_ n12_ n13_ n14_;clear hb hbox hg;have hnb45:=NB121_111.out;have hnc45:=NB111_121.out;have hnb46:=NB121_112.out;have hnc46:=NB112_121.out;have hnb47:=NB121_119.out;have hnc47:=NB119_121.out;obtain ⟨hcz48_0,hcz48_1,hcz48_2,hcz48_3,hcz48_4,hcz48_5,hfz48_0,hfz48_1,hfz48_2,hfz48_3,hfz48_4,hfz48_5⟩:=cb6 BK121.out;have hnb49:=NB119_111.out;have hnc49:=NB111_119.out;have hnb50:=NB119_112.out;have hnc50:=NB112_119.out;obtain ⟨hcz51_0,hcz51_1,hfz51_0,hfz51_1⟩:=cb2 BK119.out;obtain ⟨Ao52,co52,eo52⟩:=Kd.S_slice HO_120001.out;subst eo52))
              have n0_:Aside0 (Kd.R k174 47 ((((((w44.setCell ⟨gb121,0,none⟩ (.int .i64 ((rd_T174 t118 x39_2).f0))).setCell ⟨gb121,1,none⟩ (.int .i64 ((rd_T174 t118 x39_2).f1.f0))).setCell ⟨gb121,2,none⟩ (.int .i64 ((rd_T174 t118 x39_2).f1.f1))).setCell ⟨gb121,3,none⟩ ((svv ((rd_T174 t118 x39_2).f1.f2)))).setCell ⟨gb121,4,none⟩ (.int .i64 ((rd_T174 t118 x39_2).f1.f3.f0))).setCell ⟨gb121,5,none⟩ (.int .i64 ((rd_T174 t118 x39_2).f1.f3.f1))) w.heap.size (fun k_ => some k_ ≠ (.slice Ao52 x120001_2.length co52:Value).ownBlock∧k_ ≠ gb121) (.slice (some ad120) t118.length co15) t118):=⟨by (with_reducible repeat (first | apply Kd.R_alloc | apply Kd.R_drewN | apply Kd.R_drew));exact Kd.R_mono (Kd.R_far (p:=⟨gb121,5,none⟩) (Kd.R_far (p:=⟨gb121,4,none⟩) (Kd.R_far (p:=⟨gb121,3,none⟩) (Kd.R_far (p:=⟨gb121,2,none⟩) (Kd.R_far (p:=⟨gb121,1,none⟩) (Kd.R_far (p:=⟨gb121,0,none⟩) (Kd.R_mono HO_37.out (fun k_ hk => (⟨hk,hk.2⟩:_∧k_ ≠ gb121))) (fun _ hk => hk.2) (.int .i64 ((rd_T174 t118 x39_2).f0))) (fun _ hk => hk.2) (.int .i64 ((rd_T174 t118 x39_2).f1.f0))) (fun _ hk => hk.2) (.int .i64 ((rd_T174 t118 x39_2).f1.f1))) (fun _ hk => hk.2) ((svv ((rd_T174 t118 x39_2).f1.f2)))) (fun _ hk => hk.2) (.int .i64 ((rd_T174 t118 x39_2).f1.f3.f0))) (fun _ hk => hk.2) (.int .i64 ((rd_T174 t118 x39_2).f1.f3.f1))) (fun _ hk => ⟨hk.1.1,hk.1.2⟩)⟩
              have n1_:Aside0 (Kd.S k20174 47 ((((((w44.setCell ⟨gb121,0,none⟩ (.int .i64 ((rd_T174 t118 x39_2).f0))).setCell ⟨gb121,1,none⟩ (.int .i64 ((rd_T174 t118 x39_2).f1.f0))).setCell ⟨gb121,2,none⟩ (.int .i64 ((rd_T174 t118 x39_2).f1.f1))).setCell ⟨gb121,3,none⟩ ((svv ((rd_T174 t118 x39_2).f1.f2)))).setCell ⟨gb121,4,none⟩ (.int .i64 ((rd_T174 t118 x39_2).f1.f3.f0))).setCell ⟨gb121,5,none⟩ (.int .i64 ((rd_T174 t118 x39_2).f1.f3.f1))) w.heap.size (fun k_ => some k_ ≠ (.slice (some ad120) t118.length co15:Value).ownBlock∧k_ ≠ gb121) (.slice Ao52 x120001_2.length co52) x120001_2):=⟨by (with_reducible repeat (first | apply Kd.S_alloc | apply Kd.S_drewN | apply Kd.S_drew));exact Kd.S_mono (Kd.S_far (p:=⟨gb121,5,none⟩) (Kd.S_far (p:=⟨gb121,4,none⟩) (Kd.S_far (p:=⟨gb121,3,none⟩) (Kd.S_far (p:=⟨gb121,2,none⟩) (Kd.S_far (p:=⟨gb121,1,none⟩) (Kd.S_far (p:=⟨gb121,0,none⟩) (Kd.S_mono HO_120001.out (fun k_ hk => (⟨hk,hk.2⟩:_∧k_ ≠ gb121))) (fun _ hk => hk.2) (.int .i64 ((rd_T174 t118 x39_2).f0))) (fun _ hk => hk.2) (.int .i64 ((rd_T174 t118 x39_2).f1.f0))) (fun _ hk => hk.2) (.int .i64 ((rd_T174 t118 x39_2).f1.f1))) (fun _ hk => hk.2) ((svv ((rd_T174 t118 x39_2).f1.f2)))) (fun _ hk => hk.2) (.int .i64 ((rd_T174 t118 x39_2).f1.f3.f0))) (fun _ hk => hk.2) (.int .i64 ((rd_T174 t118 x39_2).f1.f3.f1))) (fun _ hk => ⟨hk.1.1,hk.1.2⟩)⟩
              have n2_:Aside0 (((((((w44.setCell ⟨gb121,0,none⟩ (.int .i64 ((rd_T174 t118 x39_2).f0))).setCell ⟨gb121,1,none⟩ (.int .i64 ((rd_T174 t118 x39_2).f1.f0))).setCell ⟨gb121,2,none⟩ (.int .i64 ((rd_T174 t118 x39_2).f1.f1))).setCell ⟨gb121,3,none⟩ ((svv ((rd_T174 t118 x39_2).f1.f2)))).setCell ⟨gb121,4,none⟩ (.int .i64 ((rd_T174 t118 x39_2).f1.f3.f0))).setCell ⟨gb121,5,none⟩ (.int .i64 ((rd_T174 t118 x39_2).f1.f3.f1))).heap[gb111]?=some (.cells #[.int .i64 a0] 3 (0,0))):=⟨by (refine st ?_);refine blk_far ?_ NB111_121.out _;(refine st ?_);refine blk_far ?_ NB111_121.out _;(refine st ?_);refine blk_far ?_ NB111_121.out _;(refine st ?_);refine blk_far ?_ NB111_121.out _;(refine st ?_);refine blk_far ?_ NB111_121.out _;(refine st ?_);refine blk_far ?_ NB111_121.out _;(refine st ?_);exact BK111.out⟩
              have n3_:Aside0 (((((((w44.setCell ⟨gb121,0,none⟩ (.int .i64 ((rd_T174 t118 x39_2).f0))).setCell ⟨gb121,1,none⟩ (.int .i64 ((rd_T174 t118 x39_2).f1.f0))).setCell ⟨gb121,2,none⟩ (.int .i64 ((rd_T174 t118 x39_2).f1.f1))).setCell ⟨gb121,3,none⟩ ((svv ((rd_T174 t118 x39_2).f1.f2)))).setCell ⟨gb121,4,none⟩ (.int .i64 ((rd_T174 t118 x39_2).f1.f3.f0))).setCell ⟨gb121,5,none⟩ (.int .i64 ((rd_T174 t118 x39_2).f1.f3.f1))).heap[gb112]?=some (.cells #[.int .i64 0,.slice none 0 0] 24 (0,0))):=⟨by (refine st ?_);refine blk_far ?_ NB112_121.out _;(refine st ?_);refine blk_far ?_ NB112_121.out _;(refine st ?_);refine blk_far ?_ NB112_121.out _;(refine st ?_);refine blk_far ?_ NB112_121.out _;(refine st ?_);refine blk_far ?_ NB112_121.out _;(refine st ?_);refine blk_far ?_ NB112_121.out _;(refine st ?_);exact BK112.out⟩
              have n4_:Aside0 (((((((w44.setCell ⟨gb121,0,none⟩ (.int .i64 ((rd_T174 t118 x39_2).f0))).setCell ⟨gb121,1,none⟩ (.int .i64 ((rd_T174 t118 x39_2).f1.f0))).setCell ⟨gb121,2,none⟩ (.int .i64 ((rd_T174 t118 x39_2).f1.f1))).setCell ⟨gb121,3,none⟩ ((svv ((rd_T174 t118 x39_2).f1.f2)))).setCell ⟨gb121,4,none⟩ (.int .i64 ((rd_T174 t118 x39_2).f1.f3.f0))).setCell ⟨gb121,5,none⟩ (.int .i64 ((rd_T174 t118 x39_2).f1.f3.f1))).heap[gb119]?=some (.cells #[.int .i64 0,.slice Ao52 x120001_2.length co52] 24 (0,0))):=⟨by (refine st ?_);refine blk_far ?_ NB119_121.out _;(refine st ?_);refine blk_far ?_ NB119_121.out _;(refine st ?_);refine blk_far ?_ NB119_121.out _;(refine st ?_);refine blk_far ?_ NB119_121.out _;(refine st ?_);refine blk_far ?_ NB119_121.out _;(refine st ?_);refine blk_far ?_ NB119_121.out _;(refine st ?_);exact BK119.out⟩
              have n5_:Aside0 (((((((w44.setCell ⟨gb121,0,none⟩ (.int .i64 ((rd_T174 t118 x39_2).f0))).setCell ⟨gb121,1,none⟩ (.int .i64 ((rd_T174 t118 x39_2).f1.f0))).setCell ⟨gb121,2,none⟩ (.int .i64 ((rd_T174 t118 x39_2).f1.f1))).setCell ⟨gb121,3,none⟩ ((svv ((rd_T174 t118 x39_2).f1.f2)))).setCell ⟨gb121,4,none⟩ (.int .i64 ((rd_T174 t118 x39_2).f1.f3.f0))).setCell ⟨gb121,5,none⟩ (.int .i64 ((rd_T174 t118 x39_2).f1.f3.f1))).heap[gb121]?=some (.cells #[.int .i64 ((rd_T174 t118 x39_2).f0),.int .i64 ((rd_T174 t118 x39_2).f1.f0),.int .i64 ((rd_T174 t118 x39_2).f1.f1),(svv ((rd_T174 t118 x39_2).f1.f2)),.int .i64 ((rd_T174 t118 x39_2).f1.f3.f0),.int .i64 ((rd_T174 t118 x39_2).f1.f3.f1)] 47 (0,0))):=⟨by (refine st ?_);refine blk_put (cs:=#[.int .i64 ((rd_T174 t118 x39_2).f0),.int .i64 ((rd_T174 t118 x39_2).f1.f0),.int .i64 ((rd_T174 t118 x39_2).f1.f1),(svv ((rd_T174 t118 x39_2).f1.f2)),.int .i64 ((rd_T174 t118 x39_2).f1.f3.f0),.int .i64 0]) ?_ 5 _ rfl;(refine st ?_);refine blk_put (cs:=#[.int .i64 ((rd_T174 t118 x39_2).f0),.int .i64 ((rd_T174 t118 x39_2).f1.f0),.int .i64 ((rd_T174 t118 x39_2).f1.f1),(svv ((rd_T174 t118 x39_2).f1.f2)),.int .i64 0,.int .i64 0]) ?_ 4 _ rfl;(refine st ?_);refine blk_put (cs:=#[.int .i64 ((rd_T174 t118 x39_2).f0),.int .i64 ((rd_T174 t118 x39_2).f1.f0),.int .i64 ((rd_T174 t118 x39_2).f1.f1),(svv svz),.int .i64 0,.int .i64 0]) ?_ 3 _ rfl;(refine st ?_);refine blk_put (cs:=#[.int .i64 ((rd_T174 t118 x39_2).f0),.int .i64 ((rd_T174 t118 x39_2).f1.f0),.int .i64 0,(svv svz),.int .i64 0,.int .i64 0]) ?_ 2 _ rfl;(refine st ?_);refine blk_put (cs:=#[.int .i64 ((rd_T174 t118 x39_2).f0),.int .i64 0,.int .i64 0,(svv svz),.int .i64 0,.int .i64 0]) ?_ 1 _ rfl;(refine st ?_);refine blk_put (cs:=#[.int .i64 0,.int .i64 0,.int .i64 0,(svv svz),.int .i64 0,.int .i64 0]) ?_ 0 _ rfl;(refine st ?_);exact BK121.out⟩
              have n6_:Aside0 (Below w.heap.size w ((((((w44.setCell ⟨gb121,0,none⟩ (.int .i64 ((rd_T174 t118 x39_2).f0))).setCell ⟨gb121,1,none⟩ (.int .i64 ((rd_T174 t118 x39_2).f1.f0))).setCell ⟨gb121,2,none⟩ (.int .i64 ((rd_T174 t118 x39_2).f1.f1))).setCell ⟨gb121,3,none⟩ ((svv ((rd_T174 t118 x39_2).f1.f2)))).setCell ⟨gb121,4,none⟩ (.int .i64 ((rd_T174 t118 x39_2).f1.f3.f0))).setCell ⟨gb121,5,none⟩ (.int .i64 ((rd_T174 t118 x39_2).f1.f3.f1)))):=⟨bx⟩
              (try clear HO_37)
              (try clear HO_120001)
              (try clear BK111)
              (try clear BK112)
              (try clear BK119)
              (try clear BK121)
              (try clear HB)
              generalize ((((((w44.setCell ⟨gb121,0,none⟩ (.int .i64 ((rd_T174 t118 x39_2).f0))).setCell ⟨gb121,1,none⟩ (.int .i64 ((rd_T174 t118 x39_2).f1.f0))).setCell ⟨gb121,2,none⟩ (.int .i64 ((rd_T174 t118 x39_2).f1.f1))).setCell ⟨gb121,3,none⟩ ((svv ((rd_T174 t118 x39_2).f1.f2)))).setCell ⟨gb121,4,none⟩ (.int .i64 ((rd_T174 t118 x39_2).f1.f3.f0))).setCell ⟨gb121,5,none⟩ (.int .i64 ((rd_T174 t118 x39_2).f1.f3.f1)))=w53 at n0_ n1_ n2_ n3_ n4_ n5_ n6_ ⊢
              have HO_37:=n0_
              have HO_120001:=n1_
              have BK111:=n2_
              have BK112:=n3_
              have BK119:=n4_
              have BK121:=n5_
              have HB:=n6_
              clear n0_ n1_ n2_ n3_ n4_ n5_ n6_
              have n0_:=ak (Kd.R_drew HO_37.out)
              have n1_:=ak (Kd.S_drew HO_120001.out)
              have n2_:=ak (blk_drew BK111.out)
              have n3_:=ak (blk_drew BK112.out)
              have n4_:=ak (blk_drew BK119.out)
              have n5_:=ak (blk_drew BK121.out)
              have n6_:=ak (below_drew1 HB.out)
              clear HO_37
              clear HO_120001
              clear BK111
              clear BK112
              clear BK119
              clear BK121
              clear HB
              have HO_37:=n0_
              have HO_120001:=n1_
              have BK111:=n2_
              have BK112:=n3_
              have BK119:=n4_
              have BK121:=n5_
              have HB:=n6_
              clear n0_ n1_ n2_ n3_ n4_ n5_ n6_
              have p122:0 ≤ ((ji22):Int):=of_decide_eq_true asm
              have q122:(ji22) < (x120001_2.length:Int):=of_decide_eq_true asm
              obtain ⟨ad122,A122_3,c122_3,e122,hx122_0,hx122_1,hx122_2,hx122_3,hx122_4,hx122_5,hl122_3,hi122_3⟩:=at_T20174 (Kd.S_reads' HO_120001.out).2.2 (ji22) p122 q122
              cases e122
              obtain ⟨ce122,hce122,hMe122,hcc122⟩:=Kd.S_get HO_120001.out z20174 (ji22) p122 (by first | exact q122 | exact of_decide_eq_true asm | (have e_:=(Kd.S_reads' HO_120001.out).1;omega))
              obtain ⟨ve122_3,rfl,ge122_3⟩:=k20174_openM hMe122
              have hv122_3:=hcc122 3 _ rfl
              rw [add_field _ _ 3 (by omega)] at hv122_3
              replace hv122_3:=Option.some.inj (hv122_3.symm.trans hx122_3)
              rw [hv122_3] at ge122_3
              have HL122_3:=ak (show Kd.R k95 103 _ _ _ _ ((rd_T20174 x120001_2 (ji22)).f1.f2) from ge122_3)
              clear hv122_3 ge122_3
              clear hcc122 hce122
              have HR122_3:=ak hi122_3
              have HC122_3:=ak hl122_3
              clear hi122_3 hl122_3
              replace p122:=eq_true p122
              replace q122:=eq_true q122
              refine start_ (n:=15) (S:=fun w' => w'.cell? ⟨gb119,0,none⟩=some (.int .i64 0)∧w'.cell? ⟨gb119,1,none⟩=some (.slice (some ad122) x120001_2.length co52)∧w'.cell? ⟨gb121,0,none⟩=some (.int .i64 ((rd_T174 t118 x39_2).f0))∧w'.cell? ⟨gb121,1,none⟩=some (.int .i64 ((rd_T174 t118 x39_2).f1.f0))∧w'.cell? ⟨gb121,2,none⟩=some (.int .i64 ((rd_T174 t118 x39_2).f1.f1))∧w'.cell? ⟨gb121,3,none⟩=some ((svv ((rd_T174 t118 x39_2).f1.f2)))∧w'.cell? ⟨gb121,4,none⟩=some (.int .i64 ((rd_T174 t118 x39_2).f1.f3.f0))∧w'.cell? ⟨gb121,5,none⟩=some (.int .i64 ((rd_T174 t118 x39_2).f1.f3.f1))∧w'.cell? (ad122.add (((ji22)).toNat * 6))=some (.int .i64 ((rd_T20174 x120001_2 (ji22)).f0))∧w'.cell? ⟨(ad122.add (((ji22)).toNat * 6)).block,(ad122.add (((ji22)).toNat * 6)).off + 1,none⟩=some (.int .i64 ((rd_T20174 x120001_2 (ji22)).f1.f0))∧w'.cell? ⟨(ad122.add (((ji22)).toNat * 6)).block,(ad122.add (((ji22)).toNat * 6)).off + 2,none⟩=some (.int .i64 ((rd_T20174 x120001_2 (ji22)).f1.f1))∧w'.cell? ⟨(ad122.add (((ji22)).toNat * 6)).block,(ad122.add (((ji22)).toNat * 6)).off + 3,none⟩=some (.slice A122_3 ((rd_T20174 x120001_2 (ji22)).f1.f2).length c122_3)∧w'.cell? ⟨(ad122.add (((ji22)).toNat * 6)).block,(ad122.add (((ji22)).toNat * 6)).off + 4,none⟩=some (.int .i64 ((rd_T20174 x120001_2 (ji22)).f1.f3.f0))∧w'.cell? ⟨(ad122.add (((ji22)).toNat * 6)).block,(ad122.add (((ji22)).toNat * 6)).off + 5,none⟩=some (.int .i64 ((rd_T20174 x120001_2 (ji22)).f1.f3.f1))) (ds:=[]) #[false,false,false,false,false,false,false,false,false,false,false,false,false,false,false] kr rfl rfl ⟨(blk_cell BK119.out 0).trans rfl,(blk_cell BK119.out 1).trans rfl,(blk_cell BK121.out 0).trans rfl,(blk_cell BK121.out 1).trans rfl,(blk_cell BK121.out 2).trans rfl,(blk_cell BK121.out 3).trans rfl,(blk_cell BK121.out 4).trans rfl,(blk_cell BK121.out 5).trans rfl,hx122_0,hx122_1,hx122_2,hx122_3,hx122_4,hx122_5⟩ (fun hHeld => ?_);refine with_tabW ask_normal_at.tab15 ask_normal_at.bits15 (fun HT_ HW_ => ?_)
              generalize w53.drew=w54 at HO_37 HO_120001 BK111 BK112 BK119 BK121 HB HL122_3 HR122_3 hx122_0 hx122_1 hx122_2 hx122_3 hx122_4 hx122_5 hHeld ⊢
              refine pS 0 (some 46) ?_
              refine pS 1 (some 47) ?_
              refine pS 2 (some 48) ?_
              refine pS 3 (some 49) ?_
              refine pS 5 (some 51) ?_
              refine pS 6 (some 52) ?_
              refine pS 10 (some 56) ?_
              refine pT 4 (some 50) ?_
              refine pS 7 (some 53) ?_
              refine pS 8 (some 54) ?_
              refine pT 9 (some 55) ?_
              refine pT 11 (some 57) ?_
              refine one_ (i:=12) (N:=some 58) #[true,true,true,true,true,true,true,true,true,true,true,true,true,false,false] rfl rfl (one_of HT_.out kr) (by decide) (fun K hK => ?_)
              refine goes_ Tryz.func47 kr rfl #[.agg #[.int .i64 ((rd_T20174 x120001_2 (ji22)).f1.f0),.int .i64 ((rd_T20174 x120001_2 (ji22)).f1.f1),.slice A122_3 ((rd_T20174 x120001_2 (ji22)).f1.f2).length c122_3,.int .i64 ((rd_T20174 x120001_2 (ji22)).f1.f3.f0),.int .i64 ((rd_T20174 x120001_2 (ji22)).f1.f3.f1)],.agg #[.int .i64 ((rd_T174 t118 x39_2).f1.f0),.int .i64 ((rd_T174 t118 x39_2).f1.f1),(svv ((rd_T174 t118 x39_2).f1.f2)),.int .i64 ((rd_T174 t118 x39_2).f1.f3.f0),.int .i64 ((rd_T174 t118 x39_2).f1.f3.f1)]] (by rfl) rfl rfl (by (try simp only [List.map_toArray,List.map_cons,List.map_nil]);first | done | (simp only [hji22];rfl) | rfl | (simp only [List.length_drop,List.length_take];rfl)) ?_
              with_reducible refine (byFigM.calls w ((rd_T20174 x120001_2 (ji22)).f1.f0) ((rd_T20174 x120001_2 (ji22)).f1.f1) _ _ ((rd_T20174 x120001_2 (ji22)).f1.f2) ((rd_T20174 x120001_2 (ji22)).f1.f3.f0) ((rd_T20174 x120001_2 (ji22)).f1.f3.f1) ((rd_T174 t118 x39_2).f1.f0) ((rd_T174 t118 x39_2).f1.f1) ((rd_T174 t118 x39_2).f1.f2) ((rd_T174 t118 x39_2).f1.f3.f0) ((rd_T174 t118 x39_2).f1.f3.f1) t123 _ bx ?side1 ?side2 A25.out).mono ?_
              (case side1 => repeat (first | exact (cx HR122_3) | (with_reducible refine Kd.C_alloc ?_ _) | (with_reducible refine Kd.C_drewN ?_ _) | (with_reducible refine Kd.C_drew ?_)))
              (case side2 => exact HC122_3.out)
              rintro e w55 ⟨rfl,hb⟩
              have HS8_:=(hb.cell (World.block_lt_of_cell? _ _ (hHeld.2.2.2.2.2.2.2.2.1))).trans (hHeld.2.2.2.2.2.2.2.2.1)
              have HS9_:=(hb.cell (World.block_lt_of_cell? _ _ (hHeld.2.2.2.2.2.2.2.2.2.1))).trans (hHeld.2.2.2.2.2.2.2.2.2.1)
              have HS10_:=(hb.cell (World.block_lt_of_cell? _ _ (hHeld.2.2.2.2.2.2.2.2.2.2.1))).trans (hHeld.2.2.2.2.2.2.2.2.2.2.1)
              have HS11_:=(hb.cell (World.block_lt_of_cell? _ _ (hHeld.2.2.2.2.2.2.2.2.2.2.2.1))).trans (hHeld.2.2.2.2.2.2.2.2.2.2.2.1)
              have HS12_:=(hb.cell (World.block_lt_of_cell? _ _ (hHeld.2.2.2.2.2.2.2.2.2.2.2.2.1))).trans (hHeld.2.2.2.2.2.2.2.2.2.2.2.2.1)
              have HS13_:=(hb.cell (World.block_lt_of_cell? _ _ (hHeld.2.2.2.2.2.2.2.2.2.2.2.2.2))).trans (hHeld.2.2.2.2.2.2.2.2.2.2.2.2.2)
              refine ⟨_,rfl,?_⟩
              have n0_:=ak (Kd.R_below (rx HO_37) hb)
              have n1_:=ak (Kd.S_below (sx HO_120001) hb)
              have n2_:=ak (Kd.R_below (rx HL122_3) hb)
              have n3_:=bB BK111 hb
              have n4_:=bB BK112 hb
              have n5_:=bB BK119 hb
              have n6_:=bB BK121 hb
              have n7_:=ak (Kd.C_below (cx HR122_3) hb)
              have n8_:=ak (below_step bx hb)
              clear HO_37
              clear HO_120001
              clear HL122_3
              clear BK111
              clear BK112
              clear BK119
              clear BK121
              clear HR122_3
              clear HB
              have HO_37:=n0_
              have HO_120001:=n1_
              have HL122_3:=n2_
              have BK111:=n3_
              have BK112:=n4_
              have BK119:=n5_
              have BK121:=n6_
              have HR122_3:=n7_
              have HB:=n8_
              clear n0_ n1_ n2_ n3_ n4_ n5_ n6_ n7_ n8_
              (try clear hb)
              (try clear hb2)
              (try clear hk)
              (try clear hi)
              refine hK.out _ _ ⟨(blk_cell BK119.out 0).trans rfl,(blk_cell BK119.out 1).trans rfl,(blk_cell BK121.out 0).trans rfl,(blk_cell BK121.out 1).trans rfl,(blk_cell BK121.out 2).trans rfl,(blk_cell BK121.out 3).trans rfl,(blk_cell BK121.out 4).trans rfl,(blk_cell BK121.out 5).trans rfl,HS8_,HS9_,HS10_,HS11_,HS12_,HS13_⟩ (fun hHeld => ?_)
              clear hK K
              refine norm_ (a':=?_) ?_ ?_
              rotate_left
              ·
               show Act.put _ (some 58) _=_
               simp only [Act.put,List.setIfInBounds_toArray,List.set_cons_zero,List.set_cons_succ,i64_w,i32_w]
               rfl
              refine pS 13 (some 59) ?_
              refine pS 14 (some 60) ?_
              refine done_ (done_of HT_.out kr) ?_
              obtain ⟨hcz56_0,hcz56_1,hcz56_2,hcz56_3,hcz56_4,hcz56_5,hfz56_0,hfz56_1,hfz56_2,hfz56_3,hfz56_4,hfz56_5⟩:=cb6 BK121.out
              try go_wp2_with (first | ((with_reducible refine gate_callee (f:=48) rfl ?_);refine goesL_ (some 76) rfl rfl Tryz.func48 kr rfl #[(svv ((rd_T174 t118 x39_2).f1.f2))] rfl ag ?_;(with_reducible refine (cloneP.calls w ((rd_T174 t118 x39_2).f1.f2) t126 _ bx A42.out).mono ?_);rintro e w57 ⟨v127,rfl,ho0,hb⟩;refine ⟨_,rfl,?_⟩;have n0_:=ak (Kd.R_below (rx HO_37) hb);have n1_:=ak (Kd.S_elder' (sx HO_120001) (Kd.R_base ho0) hb);have n2_:=ak (Kd.R_elder' (rx HL122_3) (Kd.R_base ho0) hb);have n3_:=ak (Kd.R_lower (Kd.R_new' ho0 (Kd.R_lt (rx HL122_3))) (below_size bx));have n4_:=bB BK111 hb;have n5_:=bB BK112 hb;have n6_:=bB BK119 hb;have n7_:=bB BK121 hb;have n8_:=ak (Kd.C_below (cx HR122_3) hb);have n9_:=ak (below_step bx hb);clear HO_37 HO_120001 HL122_3 BK111 BK112 BK119 BK121 HR122_3 HB;have HO_37:=n0_;have HO_120001:=n1_;have HL122_3:=n2_;have HO128:=n3_;have BK111:=n4_;have BK112:=n5_;have BK119:=n6_;have BK121:=n7_;have HR122_3:=n8_;have HB:=n9_;clear n0_ n1_ n2_ n3_ n4_ n5_ n6_ n7_ n8_ n9_;(try clear hb);(try clear hb2);(try clear hk);(try clear hi);(try clear ho0);obtain ⟨Ao58,co58,eo58⟩:=Kd.R_slice HO128.out;subst eo58;obtain ⟨hcz59_0,hcz59_1,hcz59_2,hcz59_3,hcz59_4,hcz59_5,hfz59_0,hfz59_1,hfz59_2,hfz59_3,hfz59_4,hfz59_5⟩:=cb6 BK121.out) | ((with_reducible refine gate_store (t:=41) (p:=78) rfl ?_);refine store_event (t:=41) (p:=78) (v:=?vo_w60) (w1:=(w57.setCell ⟨gb121,3,none⟩ (.slice Ao58 t126.length co58))) ?hg ?ho ?hn ?hr ?_;(case ho => rfl);(case hg => rfl);(case hn => rfl);(case hr => first | (go_simp;done) | (go_simp;rfl));intro w60 hw;have n0_:Aside0 (Kd.R k174 47 w60 w.heap.size (fun k_ => some k_ ≠ (.slice (some ad122) x120001_2.length co52:Value).ownBlock∧k_ ≠ gb121) (.slice (some ad120) t118.length co15) t118):=⟨(by rw [hw];exact (by (with_reducible repeat (first | apply Kd.R_alloc | apply Kd.R_drewN | apply Kd.R_drew));exact Kd.R_mono (Kd.R_far (p:=⟨gb121,3,none⟩) (Kd.R_mono HO_37.out (fun k_ hk => (⟨hk,hk.2⟩:_∧k_ ≠ gb121))) (fun _ hk => hk.2) (.slice Ao58 t126.length co58)) (fun _ hk => ⟨hk.1.1,hk.1.2⟩)))⟩;have n1_:Aside0 (Kd.S k20174 47 w60 w.heap.size (fun k_ => some k_ ≠ (.slice (some ad120) t118.length co15:Value).ownBlock∧some k_ ≠ (.slice Ao58 t126.length co58:Value).ownBlock∧k_ ≠ gb121) (.slice (some ad122) x120001_2.length co52) x120001_2):=⟨(by rw [hw];exact (by (with_reducible repeat (first | apply Kd.S_alloc | apply Kd.S_drewN | apply Kd.S_drew));exact Kd.S_mono (Kd.S_far (p:=⟨gb121,3,none⟩) (Kd.S_mono HO_120001.out (fun k_ hk => (⟨hk,hk.1.2⟩:_∧k_ ≠ gb121))) (fun _ hk => hk.2) (.slice Ao58 t126.length co58)) (fun _ hk => ⟨hk.1.1.1,⟨hk.1.2,hk.1.1.2⟩⟩)))⟩;have n2_:Aside0 (Kd.R k95 103 w60 w.heap.size (fun k_ => some k_ ≠ (.slice (some ad120) t118.length co15:Value).ownBlock∧some k_ ≠ (.slice (some ad122) x120001_2.length co52:Value).ownBlock∧some k_ ≠ (.slice Ao58 t126.length co58:Value).ownBlock∧k_ ≠ gb121) (.slice A122_3 ((rd_T20174 x120001_2 (ji22)).f1.f2).length c122_3) ((rd_T20174 x120001_2 (ji22)).f1.f2)):=⟨(by rw [hw];exact (by (with_reducible repeat (first | apply Kd.R_alloc | apply Kd.R_drewN | apply Kd.R_drew));exact Kd.R_mono (Kd.R_far (p:=⟨gb121,3,none⟩) (Kd.R_types HL122_3.out BK121.out (by decide)) (fun _ hk => hk.2) (.slice Ao58 t126.length co58)) (fun _ hk => ⟨hk.1.1.1.1,⟨hk.1.1.2,⟨hk.1.2,hk.1.1.1.2⟩⟩⟩)))⟩;have n3_:Aside0 (Kd.R k95 103 w60 w.heap.size (fun k_ => some k_ ≠ (.slice A122_3 ((rd_T20174 x120001_2 (ji22)).f1.f2).length c122_3:Value).ownBlock) (.slice Ao58 t126.length co58) t126):=⟨(by rw [hw];exact (by (with_reducible repeat (first | apply Kd.R_alloc | apply Kd.R_drewN | apply Kd.R_drew));exact Kd.R_mono (Kd.R_far (p:=⟨gb121,3,none⟩) (Kd.R_types HO128.out BK121.out (by decide)) (fun _ hk => hk.2) (.slice Ao58 t126.length co58)) (fun _ hk => hk.1.2)))⟩;have n4_:Aside0 (w60.heap[gb111]?=some (.cells #[.int .i64 a0] 3 (0,0))):=⟨(by rw [hw];exact (by (refine st ?_);refine blk_far ?_ NB111_121.out _;(refine st ?_);exact BK111.out))⟩;have n5_:Aside0 (w60.heap[gb112]?=some (.cells #[.int .i64 0,.slice none 0 0] 24 (0,0))):=⟨(by rw [hw];exact (by (refine st ?_);refine blk_far ?_ NB112_121.out _;(refine st ?_);exact BK112.out))⟩;have n6_:Aside0 (w60.heap[gb119]?=some (.cells #[.int .i64 0,.slice (some ad122) x120001_2.length co52] 24 (0,0))):=⟨(by rw [hw];exact (by (refine st ?_);refine blk_far ?_ NB119_121.out _;(refine st ?_);exact BK119.out))⟩;have n7_:Aside0 (w60.heap[gb121]?=some (.cells #[.int .i64 ((rd_T174 t118 x39_2).f0),.int .i64 ((rd_T174 t118 x39_2).f1.f0),.int .i64 ((rd_T174 t118 x39_2).f1.f1),.slice Ao58 t126.length co58,.int .i64 ((rd_T174 t118 x39_2).f1.f3.f0),.int .i64 ((rd_T174 t118 x39_2).f1.f3.f1)] 47 (0,0))):=⟨(by rw [hw];exact (by (refine st ?_);refine blk_put (cs:=#[.int .i64 ((rd_T174 t118 x39_2).f0),.int .i64 ((rd_T174 t118 x39_2).f1.f0),.int .i64 ((rd_T174 t118 x39_2).f1.f1),(svv ((rd_T174 t118 x39_2).f1.f2)),.int .i64 ((rd_T174 t118 x39_2).f1.f3.f0),.int .i64 ((rd_T174 t118 x39_2).f1.f3.f1)]) ?_ 3 _ rfl;(refine st ?_);exact BK121.out))⟩;have n8_:Aside0 (Below w.heap.size w w60):=⟨(by rw [hw];exact bx)⟩;clear hw HO_37 HO_120001 HL122_3 HO128 BK111 BK112 BK119 BK121 HB;have HO_37:=n0_;have HO_120001:=n1_;have HL122_3:=n2_;have HO128:=n3_;have BK111:=n4_;have BK112:=n5_;have BK119:=n6_;have BK121:=n7_;have HB:=n8_;clear n0_ n1_ n2_ n3_ n4_ n5_ n6_ n7_ n8_;obtain ⟨hcz61_0,hcz61_1,hfz61_0,hfz61_1⟩:=cb2 BK119.out;obtain ⟨hcz62_0,hcz62_1,hcz62_2,hcz62_3,hcz62_4,hcz62_5,hfz62_0,hfz62_1,hfz62_2,hfz62_3,hfz62_4,hfz62_5⟩:=cb6 BK121.out) | ((with_reducible refine gate_builtin (b:=.append) (xs:=#[.tmp 80,.tmp 82]) rfl ?_);at_builtin;refine Kd.S_append k20174 (w0:=w) w.heap.size rfl (.tmp 80) (.tmp 82) 22 47 (.agg #[(.int .i64 0),(.int .i64 0),(.int .i64 0),(.slice none 0 0),(.int .i64 0),(.int .i64 0)]) 64 rfl Tryz.underlying22 info47 rfl (by decide) (by omega) (.slice (some ad122) x120001_2.length co52) x120001_2 (⟨(rd_T174 t118 x39_2).f0,(⟨(rd_T174 t118 x39_2).f1.f0,(rd_T174 t118 x39_2).f1.f1,t126,(⟨(rd_T174 t118 x39_2).f1.f3.f0,(rd_T174 t118 x39_2).f1.f3.f1⟩:S58)⟩:S20172)⟩:S20174) [.int .i64 ((rd_T174 t118 x39_2).f0),.int .i64 ((rd_T174 t118 x39_2).f1.f0),.int .i64 ((rd_T174 t118 x39_2).f1.f1),.slice Ao58 t126.length co58,.int .i64 ((rd_T174 t118 x39_2).f1.f3.f0),.int .i64 ((rd_T174 t118 x39_2).f1.f3.f1)] (fun k_ => some k_ ≠ (.slice (some ad120) t118.length co15:Value).ownBlock∧k_ ≠ gb121) (fun k_ => some k_=(.slice Ao58 t126.length co58:Value).ownBlock) rfl rfl ?aP (fun k_ hk_ => ((Kd.R_mono (ok':=fun k_ => ((fun k_ => some k_ ≠ (.slice (some ad120) t118.length co15:Value).ownBlock∧k_ ≠ gb121)) k_∧some k_ ≠ (.slice (some ad122) x120001_2.length co52:Value).ownBlock) (Kd.R_types (Kd.R_apart' (Kd.R_apart' (HO128.out) (Kd.R_typed HO_37.out) (by decide)) (Kd.S_typed HO_120001.out) (by decide)) BK121.out (by decide)) (fun k_ hk => ⟨⟨hk.1.1.2,hk.2⟩,hk.1.2⟩))).1 k_ hk_.symm) ?aF ?aO ?aB ?aS ?aL ?_;(case aP => exact k20174_mkM _ _ _ (⟨(rd_T174 t118 x39_2).f0,(⟨(rd_T174 t118 x39_2).f1.f0,(rd_T174 t118 x39_2).f1.f1,t126,(⟨(rd_T174 t118 x39_2).f1.f3.f0,(rd_T174 t118 x39_2).f1.f3.f1⟩:S58)⟩:S20172)⟩:S20174) (Kd.R_mono (Kd.R_tight rfl (Kd.R_mono (ok':=fun k_ => ((fun k_ => some k_ ≠ (.slice (some ad120) t118.length co15:Value).ownBlock∧k_ ≠ gb121)) k_∧some k_ ≠ (.slice (some ad122) x120001_2.length co52:Value).ownBlock) (Kd.R_types (Kd.R_apart' (Kd.R_apart' (HO128.out) (Kd.R_typed HO_37.out) (by decide)) (Kd.S_typed HO_120001.out) (by decide)) BK121.out (by decide)) (fun k_ hk => ⟨⟨hk.1.1.2,hk.2⟩,hk.1.2⟩))) (fun _ h_ => h_)));(case aB => exact bx);(case aF => exact (fun k_ hk => ⟨Kd.fresh' (Kd.R_lt (rx HO_37)) k_ hk,Kd.freshB (g:=gb121) (o:=.cells #[.int .i64 ((rd_T174 t118 x39_2).f0),.int .i64 ((rd_T174 t118 x39_2).f1.f0),.int .i64 ((rd_T174 t118 x39_2).f1.f1),.slice Ao58 t126.length co58,.int .i64 ((rd_T174 t118 x39_2).f1.f3.f0),.int .i64 ((rd_T174 t118 x39_2).f1.f3.f1)] 47 (0,0)) (bk BK121) k_ hk⟩));(case aO => exact (by (with_reducible repeat (first | apply Kd.S_alloc | apply Kd.S_drewN | apply Kd.S_drew));exact Kd.S_mono HO_120001.out (fun k_ hk => ⟨⟨hk.1,hk.2.2⟩,fun e_ => hk.2.1 e_⟩)));(case aS => exact (below_size bx));(case aL => have:=LMc43.out;omega);intro v130 w63 ho hb hg hat;rw [← Ny129.out] at ho;have n0_:=ak (Kd.R_after (ok:=(fun k_ => k_ ≠ gb121)) (by (with_reducible repeat (first | apply Kd.R_alloc | apply Kd.R_drewN | apply Kd.R_drew));exact Kd.R_mono HO_37.out (fun _ hk => ⟨hk.2,hk.1⟩)) hg hat);have n1_:=ak (blk_grown (g:=gb111) (o:=.cells #[.int .i64 a0] 3 (0,0)) (bk BK111) hg (Kd.S_ne HO_120001.out BK111.out (by decide)));have n2_:=ak (blk_grown (g:=gb112) (o:=.cells #[.int .i64 0,.slice none 0 0] 24 (0,0)) (bk BK112) hg (Kd.S_ne HO_120001.out BK112.out (by decide)));have n3_:=ak (blk_grown (g:=gb119) (o:=.cells #[.int .i64 0,.slice (some ad122) x120001_2.length co52] 24 (0,0)) (bk BK119) hg (Kd.S_ne HO_120001.out BK119.out (by decide)));have n4_:=ak (blk_grown (g:=gb121) (o:=.cells #[.int .i64 ((rd_T174 t118 x39_2).f0),.int .i64 ((rd_T174 t118 x39_2).f1.f0),.int .i64 ((rd_T174 t118 x39_2).f1.f1),.slice Ao58 t126.length co58,.int .i64 ((rd_T174 t118 x39_2).f1.f3.f0),.int .i64 ((rd_T174 t118 x39_2).f1.f3.f1)] 47 (0,0)) (bk BK121) hg (Kd.S_away HO_120001.out (fun _ hk => hk.2.2)));have n5_:=ak (Kd.R_after (ok:=(fun k_ => some k_ ≠ (.slice (some ad120) t118.length co15:Value).ownBlock∧some k_ ≠ (.slice Ao58 t126.length co58:Value).ownBlock∧k_ ≠ gb121)) (by (with_reducible repeat (first | apply Kd.R_alloc | apply Kd.R_drewN | apply Kd.R_drew));exact Kd.R_mono HL122_3.out (fun _ hk => ⟨⟨hk.1,⟨hk.2.2.1,hk.2.2.2⟩⟩,hk.2.1⟩)) hg hat);have n6_:=ak (hb);have n7_:=ak (ho);clear HO_37 BK111 BK112 BK119 BK121 HL122_3 HB HO_120001 HO128;have HO_37:=n0_;have BK111:=n1_;have BK112:=n2_;have BK119:=n3_;have BK121:=n4_;have HL122_3:=n5_;have HB:=n6_;have HO131:=n7_;clear n0_ n1_ n2_ n3_ n4_ n5_ n6_ n7_;clear ho hb hg hat;obtain ⟨Ao64,co64,eo64⟩:=Kd.S_slice HO131.out;subst eo64;obtain ⟨hcz65_0,hcz65_1,hfz65_0,hfz65_1⟩:=cb2 BK119.out))
              (try simp only [← hl37_2])
              go_roundg k2
              case measure => have:=HK1.out;have:=HK2.out;omega
              case rel => exact ⟨(wrap64 (x39_2 + 1)),(y129),(.slice Ao64 y129.length co64),rf,H',⟨by have:=HK1.out;have:=HK2.out;omega⟩,⟨by (try simp only [hl37_2]);(with_reducible repeat (first | apply Kd.R_alloc | apply Kd.R_drewN | apply Kd.R_drew));exact Kd.R_mono (Kd.R_far (p:=⟨gb119,1,none⟩) (Kd.R_types HO_37.out BK119.out (by decide)) (fun _ hk => hk.2) (.slice Ao64 y129.length co64)) (fun _ hk => hk.1.2)⟩,⟨by (try simp only [hl37_2]);(with_reducible repeat (first | apply Kd.S_alloc | apply Kd.S_drewN | apply Kd.S_drew));exact Kd.S_mono (Kd.S_far (p:=⟨gb119,1,none⟩) (Kd.S_types HO131.out BK119.out (by decide)) (fun _ hk => hk.2) (.slice Ao64 y129.length co64)) (fun _ hk => hk.1.1)⟩,⟨by (try simp only [hl37_2]);(refine st ?_);refine blk_far ?_ NB111_119.out _;(refine st ?_);exact BK111.out⟩,⟨by (try simp only [hl37_2]);(refine st ?_);refine blk_far ?_ NB112_119.out _;(refine st ?_);exact BK112.out⟩,⟨by (try simp only [hl37_2]);(refine st ?_);refine blk_put (cs:=#[.int .i64 0,.slice (some ad122) x120001_2.length co52]) ?_ 1 _ rfl;(refine st ?_);exact BK119.out⟩,⟨bx⟩⟩
             ·
              rw [if_neg c43] at H
              exact absurd H (by simp)
           ·
            rw [if_neg c24] at H
            exact absurd H (by simp)
          ·
           rw [if_neg c23] at H
           exact absurd H (by simp)
         ·
          rw [if_neg c21] at H
          have c21b0:decide (0 < (x120001_2.length:Int))=false:=decide_eq_false c21
          have c21b1:decide (0 < x120001_2.length)=false:=decide_eq_false (by omega)
          clear c21
          replace H:=Option.bind_eq_some_iff.mp H
          obtain ⟨t132,A660,H⟩:=H
          replace H:(if x120001_2.length < 2199023255552 then (ask_normal_at.l1 w k2 x7_1 t118 (x6_1.length:Int) (wrap64 (x39_2 + 1)) a0 0 (x120001_2 ++ [(⟨(rd_T174 t118 x39_2).f0,(⟨(rd_T174 t118 x39_2).f1.f0,(rd_T174 t118 x39_2).f1.f1,t132,(⟨(rd_T174 t118 x39_2).f1.f3.f0,(rd_T174 t118 x39_2).f1.f3.f1⟩:S58)⟩:S20172)⟩:S20174)])) else (none))=some (r1,r2,r3):=H
          have A66:=ak A660
          clear A660
          by_cases c67:x120001_2.length < 2199023255552
          ·
           rw [if_pos c67] at H
           have LMc67:=ak c67
           clear c67
           obtain ⟨y135,hy135⟩:∃ y_:List (S20174),y_=(x120001_2 ++ [(⟨(rd_T174 t118 x39_2).f0,(⟨(rd_T174 t118 x39_2).f1.f0,(rd_T174 t118 x39_2).f1.f1,t132,(⟨(rd_T174 t118 x39_2).f1.f3.f0,(rd_T174 t118 x39_2).f1.f3.f1⟩:S58)⟩:S20172)⟩:S20174)]):=⟨_,rfl⟩
           replace H:(ask_normal_at.l1 w k2 x7_1 t118 (x6_1.length:Int) (wrap64 (x39_2 + 1)) a0 0 y135)=some (r1,r2,r3):=by first | (rw [hy135];with_reducible exact H) | (have H2_:=(Option.bind_some _ _).symm.trans H;rw [hy135];with_reducible exact H2_) | (have H2_:=(Option.bind_some _ _).symm.trans H;with_reducible exact H2_) | with_reducible exact H | (rw [hy135];exact H) | exact H
           have Ny135:=ak hy135
           clear hy135
           have H':=ak H
           clear H
           have p120:0 ≤ (x39_2:Int):=of_decide_eq_true asm
           have q120:x39_2 < (t118.length:Int):=of_decide_eq_true asm
           obtain ⟨ad120,e120,hx120_0,hx120_1,hx120_2,hx120_3,hx120_4,hx120_5⟩:=at_T174 (Kd.R_reads' HO_37.out).2.2 x39_2 p120 q120
           cases e120
           replace p120:=eq_true p120
           replace q120:=eq_true q120
           try go_wp2_with (first | ((with_reducible refine gate_dst (N:=12) rfl ?_);refine box_event ?hg (N:=12) ?hd (cs:=#[.int .i64 0,.int .i64 0,.int .i64 0,(svv svz),.int .i64 0,.int .i64 0]) (t:=47) ?hr ?_;(case hd => rfl);(case hg => rfl);(case hr => first | (go_simp;done) | (go_simp;rfl));intro gb121 hg w68 hbox hb;have n0_:=ak (Kd.R_below (Kd.R_elderB (rx HO_37) gb121 (Nat.le_of_eq hg.symm)) hb);have n1_:=ak (Kd.S_below (Kd.S_elderB (sx HO_120001) gb121 (Nat.le_of_eq hg.symm)) hb);have n2_:=bB BK111 hb;have n3_:=bB BK112 hb;have n4_:=bB BK119 hb;have n5_:=ak (below_step bx hb);have n6_:=ak (hbox);have n7_:=ak ((by rw [hg];exact (below_size bx):w.heap.size ≤ gb121));have n8_:=ak ((by rw [hg];exact (below_size bx):w.heap.size ≤ gb121));have n9_:=ak ((by rw [hg];exact Nat.ne_of_lt (blk_lt (g:=gb111) (o:=.cells #[.int .i64 a0] 3 (0,0)) (bk BK111)):gb111 ≠ gb121));have n10_:=ak ((by rw [hg];exact Nat.ne_of_gt (blk_lt (g:=gb111) (o:=.cells #[.int .i64 a0] 3 (0,0)) (bk BK111)):gb121 ≠ gb111));have n11_:=ak ((by rw [hg];exact Nat.ne_of_lt (blk_lt (g:=gb112) (o:=.cells #[.int .i64 0,.slice none 0 0] 24 (0,0)) (bk BK112)):gb112 ≠ gb121));have n12_:=ak ((by rw [hg];exact Nat.ne_of_gt (blk_lt (g:=gb112) (o:=.cells #[.int .i64 0,.slice none 0 0] 24 (0,0)) (bk BK112)):gb121 ≠ gb112));have n13_:=ak ((by rw [hg];exact Nat.ne_of_lt (blk_lt (g:=gb119) (o:=.cells #[.int .i64 0,u120001] 24 (0,0)) (bk BK119)):gb119 ≠ gb121));have n14_:=ak ((by rw [hg];exact Nat.ne_of_gt (blk_lt (g:=gb119) (o:=.cells #[.int .i64 0,u120001] 24 (0,0)) (bk BK119)):gb121 ≠ gb119));clear HO_37 HO_120001 BK111 BK112 BK119 HB;have HO_37:=n0_;have HO_120001:=n1_;have BK111:=n2_;have BK112:=n3_;have BK119:=n4_;have HB:=n5_;have BK121:=n6_;have GW121:=n7_;have GE121:=n8_;have NB111_121:=n9_;have NB121_111:=n10_;have NB112_121:=n11_;have NB121_112:=n12_;have NB119_121:=n13_;have NB121_119:=n14_;clear n0_ n1_ n2_ n3_ n4_ n5_ n6_ n7_ n8_ n9_ n10_ n11_ n12_ n13_ n14_;clear hb hbox hg;have hnb69:=NB121_111.out;have hnc69:=NB111_121.out;have hnb70:=NB121_112.out;have hnc70:=NB112_121.out;have hnb71:=NB121_119.out;have hnc71:=NB119_121.out;obtain ⟨hcz72_0,hcz72_1,hcz72_2,hcz72_3,hcz72_4,hcz72_5,hfz72_0,hfz72_1,hfz72_2,hfz72_3,hfz72_4,hfz72_5⟩:=cb6 BK121.out;have hnb73:=NB119_111.out;have hnc73:=NB111_119.out;have hnb74:=NB119_112.out;have hnc74:=NB112_119.out;obtain ⟨hcz75_0,hcz75_1,hfz75_0,hfz75_1⟩:=cb2 BK119.out;obtain ⟨Ao76,co76,eo76⟩:=Kd.S_slice HO_120001.out;subst eo76))
           have n0_:Aside0 (Kd.R k174 47 ((((((w68.setCell ⟨gb121,0,none⟩ (.int .i64 ((rd_T174 t118 x39_2).f0))).setCell ⟨gb121,1,none⟩ (.int .i64 ((rd_T174 t118 x39_2).f1.f0))).setCell ⟨gb121,2,none⟩ (.int .i64 ((rd_T174 t118 x39_2).f1.f1))).setCell ⟨gb121,3,none⟩ ((svv ((rd_T174 t118 x39_2).f1.f2)))).setCell ⟨gb121,4,none⟩ (.int .i64 ((rd_T174 t118 x39_2).f1.f3.f0))).setCell ⟨gb121,5,none⟩ (.int .i64 ((rd_T174 t118 x39_2).f1.f3.f1))) w.heap.size (fun k_ => some k_ ≠ (.slice Ao76 x120001_2.length co76:Value).ownBlock∧k_ ≠ gb121) (.slice (some ad120) t118.length co15) t118):=⟨by (with_reducible repeat (first | apply Kd.R_alloc | apply Kd.R_drewN | apply Kd.R_drew));exact Kd.R_mono (Kd.R_far (p:=⟨gb121,5,none⟩) (Kd.R_far (p:=⟨gb121,4,none⟩) (Kd.R_far (p:=⟨gb121,3,none⟩) (Kd.R_far (p:=⟨gb121,2,none⟩) (Kd.R_far (p:=⟨gb121,1,none⟩) (Kd.R_far (p:=⟨gb121,0,none⟩) (Kd.R_mono HO_37.out (fun k_ hk => (⟨hk,hk.2⟩:_∧k_ ≠ gb121))) (fun _ hk => hk.2) (.int .i64 ((rd_T174 t118 x39_2).f0))) (fun _ hk => hk.2) (.int .i64 ((rd_T174 t118 x39_2).f1.f0))) (fun _ hk => hk.2) (.int .i64 ((rd_T174 t118 x39_2).f1.f1))) (fun _ hk => hk.2) ((svv ((rd_T174 t118 x39_2).f1.f2)))) (fun _ hk => hk.2) (.int .i64 ((rd_T174 t118 x39_2).f1.f3.f0))) (fun _ hk => hk.2) (.int .i64 ((rd_T174 t118 x39_2).f1.f3.f1))) (fun _ hk => ⟨hk.1.1,hk.1.2⟩)⟩
           have n1_:Aside0 (Kd.S k20174 47 ((((((w68.setCell ⟨gb121,0,none⟩ (.int .i64 ((rd_T174 t118 x39_2).f0))).setCell ⟨gb121,1,none⟩ (.int .i64 ((rd_T174 t118 x39_2).f1.f0))).setCell ⟨gb121,2,none⟩ (.int .i64 ((rd_T174 t118 x39_2).f1.f1))).setCell ⟨gb121,3,none⟩ ((svv ((rd_T174 t118 x39_2).f1.f2)))).setCell ⟨gb121,4,none⟩ (.int .i64 ((rd_T174 t118 x39_2).f1.f3.f0))).setCell ⟨gb121,5,none⟩ (.int .i64 ((rd_T174 t118 x39_2).f1.f3.f1))) w.heap.size (fun k_ => some k_ ≠ (.slice (some ad120) t118.length co15:Value).ownBlock∧k_ ≠ gb121) (.slice Ao76 x120001_2.length co76) x120001_2):=⟨by (with_reducible repeat (first | apply Kd.S_alloc | apply Kd.S_drewN | apply Kd.S_drew));exact Kd.S_mono (Kd.S_far (p:=⟨gb121,5,none⟩) (Kd.S_far (p:=⟨gb121,4,none⟩) (Kd.S_far (p:=⟨gb121,3,none⟩) (Kd.S_far (p:=⟨gb121,2,none⟩) (Kd.S_far (p:=⟨gb121,1,none⟩) (Kd.S_far (p:=⟨gb121,0,none⟩) (Kd.S_mono HO_120001.out (fun k_ hk => (⟨hk,hk.2⟩:_∧k_ ≠ gb121))) (fun _ hk => hk.2) (.int .i64 ((rd_T174 t118 x39_2).f0))) (fun _ hk => hk.2) (.int .i64 ((rd_T174 t118 x39_2).f1.f0))) (fun _ hk => hk.2) (.int .i64 ((rd_T174 t118 x39_2).f1.f1))) (fun _ hk => hk.2) ((svv ((rd_T174 t118 x39_2).f1.f2)))) (fun _ hk => hk.2) (.int .i64 ((rd_T174 t118 x39_2).f1.f3.f0))) (fun _ hk => hk.2) (.int .i64 ((rd_T174 t118 x39_2).f1.f3.f1))) (fun _ hk => ⟨hk.1.1,hk.1.2⟩)⟩
           have n2_:Aside0 (((((((w68.setCell ⟨gb121,0,none⟩ (.int .i64 ((rd_T174 t118 x39_2).f0))).setCell ⟨gb121,1,none⟩ (.int .i64 ((rd_T174 t118 x39_2).f1.f0))).setCell ⟨gb121,2,none⟩ (.int .i64 ((rd_T174 t118 x39_2).f1.f1))).setCell ⟨gb121,3,none⟩ ((svv ((rd_T174 t118 x39_2).f1.f2)))).setCell ⟨gb121,4,none⟩ (.int .i64 ((rd_T174 t118 x39_2).f1.f3.f0))).setCell ⟨gb121,5,none⟩ (.int .i64 ((rd_T174 t118 x39_2).f1.f3.f1))).heap[gb111]?=some (.cells #[.int .i64 a0] 3 (0,0))):=⟨by (refine st ?_);refine blk_far ?_ NB111_121.out _;(refine st ?_);refine blk_far ?_ NB111_121.out _;(refine st ?_);refine blk_far ?_ NB111_121.out _;(refine st ?_);refine blk_far ?_ NB111_121.out _;(refine st ?_);refine blk_far ?_ NB111_121.out _;(refine st ?_);refine blk_far ?_ NB111_121.out _;(refine st ?_);exact BK111.out⟩
           have n3_:Aside0 (((((((w68.setCell ⟨gb121,0,none⟩ (.int .i64 ((rd_T174 t118 x39_2).f0))).setCell ⟨gb121,1,none⟩ (.int .i64 ((rd_T174 t118 x39_2).f1.f0))).setCell ⟨gb121,2,none⟩ (.int .i64 ((rd_T174 t118 x39_2).f1.f1))).setCell ⟨gb121,3,none⟩ ((svv ((rd_T174 t118 x39_2).f1.f2)))).setCell ⟨gb121,4,none⟩ (.int .i64 ((rd_T174 t118 x39_2).f1.f3.f0))).setCell ⟨gb121,5,none⟩ (.int .i64 ((rd_T174 t118 x39_2).f1.f3.f1))).heap[gb112]?=some (.cells #[.int .i64 0,.slice none 0 0] 24 (0,0))):=⟨by (refine st ?_);refine blk_far ?_ NB112_121.out _;(refine st ?_);refine blk_far ?_ NB112_121.out _;(refine st ?_);refine blk_far ?_ NB112_121.out _;(refine st ?_);refine blk_far ?_ NB112_121.out _;(refine st ?_);refine blk_far ?_ NB112_121.out _;(refine st ?_);refine blk_far ?_ NB112_121.out _;(refine st ?_);exact BK112.out⟩
           have n4_:Aside0 (((((((w68.setCell ⟨gb121,0,none⟩ (.int .i64 ((rd_T174 t118 x39_2).f0))).setCell ⟨gb121,1,none⟩ (.int .i64 ((rd_T174 t118 x39_2).f1.f0))).setCell ⟨gb121,2,none⟩ (.int .i64 ((rd_T174 t118 x39_2).f1.f1))).setCell ⟨gb121,3,none⟩ ((svv ((rd_T174 t118 x39_2).f1.f2)))).setCell ⟨gb121,4,none⟩ (.int .i64 ((rd_T174 t118 x39_2).f1.f3.f0))).setCell ⟨gb121,5,none⟩ (.int .i64 ((rd_T174 t118 x39_2).f1.f3.f1))).heap[gb119]?=some (.cells #[.int .i64 0,.slice Ao76 x120001_2.length co76] 24 (0,0))):=⟨by (refine st ?_);refine blk_far ?_ NB119_121.out _;(refine st ?_);refine blk_far ?_ NB119_121.out _;(refine st ?_);refine blk_far ?_ NB119_121.out _;(refine st ?_);refine blk_far ?_ NB119_121.out _;(refine st ?_);refine blk_far ?_ NB119_121.out _;(refine st ?_);refine blk_far ?_ NB119_121.out _;(refine st ?_);exact BK119.out⟩
           have n5_:Aside0 (((((((w68.setCell ⟨gb121,0,none⟩ (.int .i64 ((rd_T174 t118 x39_2).f0))).setCell ⟨gb121,1,none⟩ (.int .i64 ((rd_T174 t118 x39_2).f1.f0))).setCell ⟨gb121,2,none⟩ (.int .i64 ((rd_T174 t118 x39_2).f1.f1))).setCell ⟨gb121,3,none⟩ ((svv ((rd_T174 t118 x39_2).f1.f2)))).setCell ⟨gb121,4,none⟩ (.int .i64 ((rd_T174 t118 x39_2).f1.f3.f0))).setCell ⟨gb121,5,none⟩ (.int .i64 ((rd_T174 t118 x39_2).f1.f3.f1))).heap[gb121]?=some (.cells #[.int .i64 ((rd_T174 t118 x39_2).f0),.int .i64 ((rd_T174 t118 x39_2).f1.f0),.int .i64 ((rd_T174 t118 x39_2).f1.f1),(svv ((rd_T174 t118 x39_2).f1.f2)),.int .i64 ((rd_T174 t118 x39_2).f1.f3.f0),.int .i64 ((rd_T174 t118 x39_2).f1.f3.f1)] 47 (0,0))):=⟨by (refine st ?_);refine blk_put (cs:=#[.int .i64 ((rd_T174 t118 x39_2).f0),.int .i64 ((rd_T174 t118 x39_2).f1.f0),.int .i64 ((rd_T174 t118 x39_2).f1.f1),(svv ((rd_T174 t118 x39_2).f1.f2)),.int .i64 ((rd_T174 t118 x39_2).f1.f3.f0),.int .i64 0]) ?_ 5 _ rfl;(refine st ?_);refine blk_put (cs:=#[.int .i64 ((rd_T174 t118 x39_2).f0),.int .i64 ((rd_T174 t118 x39_2).f1.f0),.int .i64 ((rd_T174 t118 x39_2).f1.f1),(svv ((rd_T174 t118 x39_2).f1.f2)),.int .i64 0,.int .i64 0]) ?_ 4 _ rfl;(refine st ?_);refine blk_put (cs:=#[.int .i64 ((rd_T174 t118 x39_2).f0),.int .i64 ((rd_T174 t118 x39_2).f1.f0),.int .i64 ((rd_T174 t118 x39_2).f1.f1),(svv svz),.int .i64 0,.int .i64 0]) ?_ 3 _ rfl;(refine st ?_);refine blk_put (cs:=#[.int .i64 ((rd_T174 t118 x39_2).f0),.int .i64 ((rd_T174 t118 x39_2).f1.f0),.int .i64 0,(svv svz),.int .i64 0,.int .i64 0]) ?_ 2 _ rfl;(refine st ?_);refine blk_put (cs:=#[.int .i64 ((rd_T174 t118 x39_2).f0),.int .i64 0,.int .i64 0,(svv svz),.int .i64 0,.int .i64 0]) ?_ 1 _ rfl;(refine st ?_);refine blk_put (cs:=#[.int .i64 0,.int .i64 0,.int .i64 0,(svv svz),.int .i64 0,.int .i64 0]) ?_ 0 _ rfl;(refine st ?_);exact BK121.out⟩
           have n6_:Aside0 (Below w.heap.size w ((((((w68.setCell ⟨gb121,0,none⟩ (.int .i64 ((rd_T174 t118 x39_2).f0))).setCell ⟨gb121,1,none⟩ (.int .i64 ((rd_T174 t118 x39_2).f1.f0))).setCell ⟨gb121,2,none⟩ (.int .i64 ((rd_T174 t118 x39_2).f1.f1))).setCell ⟨gb121,3,none⟩ ((svv ((rd_T174 t118 x39_2).f1.f2)))).setCell ⟨gb121,4,none⟩ (.int .i64 ((rd_T174 t118 x39_2).f1.f3.f0))).setCell ⟨gb121,5,none⟩ (.int .i64 ((rd_T174 t118 x39_2).f1.f3.f1)))):=⟨bx⟩
           (try clear HO_37)
           (try clear HO_120001)
           (try clear BK111)
           (try clear BK112)
           (try clear BK119)
           (try clear BK121)
           (try clear HB)
           generalize ((((((w68.setCell ⟨gb121,0,none⟩ (.int .i64 ((rd_T174 t118 x39_2).f0))).setCell ⟨gb121,1,none⟩ (.int .i64 ((rd_T174 t118 x39_2).f1.f0))).setCell ⟨gb121,2,none⟩ (.int .i64 ((rd_T174 t118 x39_2).f1.f1))).setCell ⟨gb121,3,none⟩ ((svv ((rd_T174 t118 x39_2).f1.f2)))).setCell ⟨gb121,4,none⟩ (.int .i64 ((rd_T174 t118 x39_2).f1.f3.f0))).setCell ⟨gb121,5,none⟩ (.int .i64 ((rd_T174 t118 x39_2).f1.f3.f1)))=w77 at n0_ n1_ n2_ n3_ n4_ n5_ n6_ ⊢
           have HO_37:=n0_
           have HO_120001:=n1_
           have BK111:=n2_
           have BK112:=n3_
           have BK119:=n4_
           have BK121:=n5_
           have HB:=n6_
           clear n0_ n1_ n2_ n3_ n4_ n5_ n6_
           have n0_:=ak (Kd.R_drew HO_37.out)
           have n1_:=ak (Kd.S_drew HO_120001.out)
           have n2_:=ak (blk_drew BK111.out)
           have n3_:=ak (blk_drew BK112.out)
           have n4_:=ak (blk_drew BK119.out)
           have n5_:=ak (blk_drew BK121.out)
           have n6_:=ak (below_drew1 HB.out)
           clear HO_37
           clear HO_120001
           clear BK111
           clear BK112
           clear BK119
           clear BK121
           clear HB
           have HO_37:=n0_
           have HO_120001:=n1_
           have BK111:=n2_
           have BK112:=n3_
           have BK119:=n4_
           have BK121:=n5_
           have HB:=n6_
           clear n0_ n1_ n2_ n3_ n4_ n5_ n6_
           refine start_ (n:=15) (S:=fun w' => True) (ds:=[]) #[false,false,false,false,false,false,false,false,false,false,false,false,false,false,false] kr rfl rfl trivial (fun hHeld => ?_);refine with_tabW ask_normal_at.tab15 ask_normal_at.bits15 (fun HT_ HW_ => ?_)
           generalize w77.drew=w78 at HO_37 HO_120001 BK111 BK112 BK119 BK121 HB hHeld ⊢
           refine pS 0 (some 46) ?_
           refine pS 1 (some 47) ?_
           refine pS 2 (some 48) ?_
           refine pU 3 (some 49) ?_
           refine pU 4 (some 50) ?_
           refine pU 5 (some 51) ?_
           refine pU 6 (some 52) ?_
           refine pU 7 (some 53) ?_
           refine pU 8 (some 54) ?_
           refine pU 9 (some 55) ?_
           refine pU 10 (some 56) ?_
           refine pU 11 (some 57) ?_
           refine pU 12 (some 58) ?_
           refine pU 13 (some 59) ?_
           refine pS 14 (some 60) ?_
           refine done_ (done_of HT_.out kr) ?_
           obtain ⟨hcz79_0,hcz79_1,hcz79_2,hcz79_3,hcz79_4,hcz79_5,hfz79_0,hfz79_1,hfz79_2,hfz79_3,hfz79_4,hfz79_5⟩:=cb6 BK121.out
           try go_wp2_with (first | ((with_reducible refine gate_callee (f:=48) rfl ?_);refine goesL_ (some 76) rfl rfl Tryz.func48 kr rfl #[(svv ((rd_T174 t118 x39_2).f1.f2))] rfl ag ?_;(with_reducible refine (cloneP.calls w ((rd_T174 t118 x39_2).f1.f2) t132 _ bx A66.out).mono ?_);rintro e w80 ⟨v133,rfl,ho0,hb⟩;refine ⟨_,rfl,?_⟩;have n0_:=ak (Kd.R_below (rx HO_37) hb);have n1_:=ak (Kd.S_elder' (sx HO_120001) (Kd.R_base ho0) hb);have n2_:=ak (Kd.R_lower ho0 (below_size bx));have n3_:=bB BK111 hb;have n4_:=bB BK112 hb;have n5_:=bB BK119 hb;have n6_:=bB BK121 hb;have n7_:=ak (below_step bx hb);clear HO_37 HO_120001 BK111 BK112 BK119 BK121 HB;have HO_37:=n0_;have HO_120001:=n1_;have HO134:=n2_;have BK111:=n3_;have BK112:=n4_;have BK119:=n5_;have BK121:=n6_;have HB:=n7_;clear n0_ n1_ n2_ n3_ n4_ n5_ n6_ n7_;(try clear hb);(try clear hb2);(try clear hk);(try clear hi);(try clear ho0);obtain ⟨Ao81,co81,eo81⟩:=Kd.R_slice HO134.out;subst eo81;obtain ⟨hcz82_0,hcz82_1,hcz82_2,hcz82_3,hcz82_4,hcz82_5,hfz82_0,hfz82_1,hfz82_2,hfz82_3,hfz82_4,hfz82_5⟩:=cb6 BK121.out) | ((with_reducible refine gate_store (t:=41) (p:=78) rfl ?_);refine store_event (t:=41) (p:=78) (v:=?vo_w83) (w1:=(w80.setCell ⟨gb121,3,none⟩ (.slice Ao81 t132.length co81))) ?hg ?ho ?hn ?hr ?_;(case ho => rfl);(case hg => rfl);(case hn => rfl);(case hr => first | (go_simp;done) | (go_simp;rfl));intro w83 hw;have n0_:Aside0 (Kd.R k174 47 w83 w.heap.size (fun k_ => some k_ ≠ (.slice Ao76 x120001_2.length co76:Value).ownBlock∧k_ ≠ gb121) (.slice (some ad120) t118.length co15) t118):=⟨(by rw [hw];exact (by (with_reducible repeat (first | apply Kd.R_alloc | apply Kd.R_drewN | apply Kd.R_drew));exact Kd.R_mono (Kd.R_far (p:=⟨gb121,3,none⟩) (Kd.R_mono HO_37.out (fun k_ hk => (⟨hk,hk.2⟩:_∧k_ ≠ gb121))) (fun _ hk => hk.2) (.slice Ao81 t132.length co81)) (fun _ hk => ⟨hk.1.1,hk.1.2⟩)))⟩;have n1_:Aside0 (Kd.S k20174 47 w83 w.heap.size (fun k_ => some k_ ≠ (.slice (some ad120) t118.length co15:Value).ownBlock∧some k_ ≠ (.slice Ao81 t132.length co81:Value).ownBlock∧k_ ≠ gb121) (.slice Ao76 x120001_2.length co76) x120001_2):=⟨(by rw [hw];exact (by (with_reducible repeat (first | apply Kd.S_alloc | apply Kd.S_drewN | apply Kd.S_drew));exact Kd.S_mono (Kd.S_far (p:=⟨gb121,3,none⟩) (Kd.S_mono HO_120001.out (fun k_ hk => (⟨hk,hk.1.2⟩:_∧k_ ≠ gb121))) (fun _ hk => hk.2) (.slice Ao81 t132.length co81)) (fun _ hk => ⟨hk.1.1.1,⟨hk.1.2,hk.1.1.2⟩⟩)))⟩;have n2_:Aside0 (Kd.R k95 103 w83 w.heap.size (fun _ => True) (.slice Ao81 t132.length co81) t132):=⟨(by rw [hw];exact (by (with_reducible repeat (first | apply Kd.R_alloc | apply Kd.R_drewN | apply Kd.R_drew));exact Kd.R_mono (Kd.R_far (p:=⟨gb121,3,none⟩) (Kd.R_types HO134.out BK121.out (by decide)) (fun _ hk => hk.2) (.slice Ao81 t132.length co81)) (fun _ hk => trivial)))⟩;have n3_:Aside0 (w83.heap[gb111]?=some (.cells #[.int .i64 a0] 3 (0,0))):=⟨(by rw [hw];exact (by (refine st ?_);refine blk_far ?_ NB111_121.out _;(refine st ?_);exact BK111.out))⟩;have n4_:Aside0 (w83.heap[gb112]?=some (.cells #[.int .i64 0,.slice none 0 0] 24 (0,0))):=⟨(by rw [hw];exact (by (refine st ?_);refine blk_far ?_ NB112_121.out _;(refine st ?_);exact BK112.out))⟩;have n5_:Aside0 (w83.heap[gb119]?=some (.cells #[.int .i64 0,.slice Ao76 x120001_2.length co76] 24 (0,0))):=⟨(by rw [hw];exact (by (refine st ?_);refine blk_far ?_ NB119_121.out _;(refine st ?_);exact BK119.out))⟩;have n6_:Aside0 (w83.heap[gb121]?=some (.cells #[.int .i64 ((rd_T174 t118 x39_2).f0),.int .i64 ((rd_T174 t118 x39_2).f1.f0),.int .i64 ((rd_T174 t118 x39_2).f1.f1),.slice Ao81 t132.length co81,.int .i64 ((rd_T174 t118 x39_2).f1.f3.f0),.int .i64 ((rd_T174 t118 x39_2).f1.f3.f1)] 47 (0,0))):=⟨(by rw [hw];exact (by (refine st ?_);refine blk_put (cs:=#[.int .i64 ((rd_T174 t118 x39_2).f0),.int .i64 ((rd_T174 t118 x39_2).f1.f0),.int .i64 ((rd_T174 t118 x39_2).f1.f1),(svv ((rd_T174 t118 x39_2).f1.f2)),.int .i64 ((rd_T174 t118 x39_2).f1.f3.f0),.int .i64 ((rd_T174 t118 x39_2).f1.f3.f1)]) ?_ 3 _ rfl;(refine st ?_);exact BK121.out))⟩;have n7_:Aside0 (Below w.heap.size w w83):=⟨(by rw [hw];exact bx)⟩;clear hw HO_37 HO_120001 HO134 BK111 BK112 BK119 BK121 HB;have HO_37:=n0_;have HO_120001:=n1_;have HO134:=n2_;have BK111:=n3_;have BK112:=n4_;have BK119:=n5_;have BK121:=n6_;have HB:=n7_;clear n0_ n1_ n2_ n3_ n4_ n5_ n6_ n7_;obtain ⟨hcz84_0,hcz84_1,hfz84_0,hfz84_1⟩:=cb2 BK119.out;obtain ⟨hcz85_0,hcz85_1,hcz85_2,hcz85_3,hcz85_4,hcz85_5,hfz85_0,hfz85_1,hfz85_2,hfz85_3,hfz85_4,hfz85_5⟩:=cb6 BK121.out) | ((with_reducible refine gate_builtin (b:=.append) (xs:=#[.tmp 80,.tmp 82]) rfl ?_);at_builtin;refine Kd.S_append k20174 (w0:=w) w.heap.size rfl (.tmp 80) (.tmp 82) 22 47 (.agg #[(.int .i64 0),(.int .i64 0),(.int .i64 0),(.slice none 0 0),(.int .i64 0),(.int .i64 0)]) 64 rfl Tryz.underlying22 info47 rfl (by decide) (by omega) (.slice Ao76 x120001_2.length co76) x120001_2 (⟨(rd_T174 t118 x39_2).f0,(⟨(rd_T174 t118 x39_2).f1.f0,(rd_T174 t118 x39_2).f1.f1,t132,(⟨(rd_T174 t118 x39_2).f1.f3.f0,(rd_T174 t118 x39_2).f1.f3.f1⟩:S58)⟩:S20172)⟩:S20174) [.int .i64 ((rd_T174 t118 x39_2).f0),.int .i64 ((rd_T174 t118 x39_2).f1.f0),.int .i64 ((rd_T174 t118 x39_2).f1.f1),.slice Ao81 t132.length co81,.int .i64 ((rd_T174 t118 x39_2).f1.f3.f0),.int .i64 ((rd_T174 t118 x39_2).f1.f3.f1)] (fun k_ => some k_ ≠ (.slice (some ad120) t118.length co15:Value).ownBlock∧k_ ≠ gb121) (fun k_ => some k_=(.slice Ao81 t132.length co81:Value).ownBlock) rfl rfl ?aP (fun k_ hk_ => ((Kd.R_mono (ok':=fun k_ => ((fun k_ => some k_ ≠ (.slice (some ad120) t118.length co15:Value).ownBlock∧k_ ≠ gb121)) k_∧some k_ ≠ (.slice Ao76 x120001_2.length co76:Value).ownBlock) (Kd.R_types (Kd.R_apart' (Kd.R_apart' (HO134.out) (Kd.R_typed HO_37.out) (by decide)) (Kd.S_typed HO_120001.out) (by decide)) BK121.out (by decide)) (fun k_ hk => ⟨⟨hk.1.1.2,hk.2⟩,hk.1.2⟩))).1 k_ hk_.symm) ?aF ?aO ?aB ?aS ?aL ?_;(case aP => exact k20174_mkM _ _ _ (⟨(rd_T174 t118 x39_2).f0,(⟨(rd_T174 t118 x39_2).f1.f0,(rd_T174 t118 x39_2).f1.f1,t132,(⟨(rd_T174 t118 x39_2).f1.f3.f0,(rd_T174 t118 x39_2).f1.f3.f1⟩:S58)⟩:S20172)⟩:S20174) (Kd.R_mono (Kd.R_tight rfl (Kd.R_mono (ok':=fun k_ => ((fun k_ => some k_ ≠ (.slice (some ad120) t118.length co15:Value).ownBlock∧k_ ≠ gb121)) k_∧some k_ ≠ (.slice Ao76 x120001_2.length co76:Value).ownBlock) (Kd.R_types (Kd.R_apart' (Kd.R_apart' (HO134.out) (Kd.R_typed HO_37.out) (by decide)) (Kd.S_typed HO_120001.out) (by decide)) BK121.out (by decide)) (fun k_ hk => ⟨⟨hk.1.1.2,hk.2⟩,hk.1.2⟩))) (fun _ h_ => h_)));(case aB => exact bx);(case aF => exact (fun k_ hk => ⟨Kd.fresh' (Kd.R_lt (rx HO_37)) k_ hk,Kd.freshB (g:=gb121) (o:=.cells #[.int .i64 ((rd_T174 t118 x39_2).f0),.int .i64 ((rd_T174 t118 x39_2).f1.f0),.int .i64 ((rd_T174 t118 x39_2).f1.f1),.slice Ao81 t132.length co81,.int .i64 ((rd_T174 t118 x39_2).f1.f3.f0),.int .i64 ((rd_T174 t118 x39_2).f1.f3.f1)] 47 (0,0)) (bk BK121) k_ hk⟩));(case aO => exact (by (with_reducible repeat (first | apply Kd.S_alloc | apply Kd.S_drewN | apply Kd.S_drew));exact Kd.S_mono HO_120001.out (fun k_ hk => ⟨⟨hk.1,hk.2.2⟩,fun e_ => hk.2.1 e_⟩)));(case aS => exact (below_size bx));(case aL => have:=LMc67.out;omega);intro v136 w86 ho hb hg hat;rw [← Ny135.out] at ho;have n0_:=ak (Kd.R_after (ok:=(fun k_ => k_ ≠ gb121)) (by (with_reducible repeat (first | apply Kd.R_alloc | apply Kd.R_drewN | apply Kd.R_drew));exact Kd.R_mono HO_37.out (fun _ hk => ⟨hk.2,hk.1⟩)) hg hat);have n1_:=ak (blk_grown (g:=gb111) (o:=.cells #[.int .i64 a0] 3 (0,0)) (bk BK111) hg (Kd.S_ne HO_120001.out BK111.out (by decide)));have n2_:=ak (blk_grown (g:=gb112) (o:=.cells #[.int .i64 0,.slice none 0 0] 24 (0,0)) (bk BK112) hg (Kd.S_ne HO_120001.out BK112.out (by decide)));have n3_:=ak (blk_grown (g:=gb119) (o:=.cells #[.int .i64 0,.slice Ao76 x120001_2.length co76] 24 (0,0)) (bk BK119) hg (Kd.S_ne HO_120001.out BK119.out (by decide)));have n4_:=ak (blk_grown (g:=gb121) (o:=.cells #[.int .i64 ((rd_T174 t118 x39_2).f0),.int .i64 ((rd_T174 t118 x39_2).f1.f0),.int .i64 ((rd_T174 t118 x39_2).f1.f1),.slice Ao81 t132.length co81,.int .i64 ((rd_T174 t118 x39_2).f1.f3.f0),.int .i64 ((rd_T174 t118 x39_2).f1.f3.f1)] 47 (0,0)) (bk BK121) hg (Kd.S_away HO_120001.out (fun _ hk => hk.2.2)));have n5_:=ak (hb);have n6_:=ak (ho);clear HO_37 BK111 BK112 BK119 BK121 HB HO_120001 HO134;have HO_37:=n0_;have BK111:=n1_;have BK112:=n2_;have BK119:=n3_;have BK121:=n4_;have HB:=n5_;have HO137:=n6_;clear n0_ n1_ n2_ n3_ n4_ n5_ n6_;clear ho hb hg hat;obtain ⟨Ao87,co87,eo87⟩:=Kd.S_slice HO137.out;subst eo87;obtain ⟨hcz88_0,hcz88_1,hfz88_0,hfz88_1⟩:=cb2 BK119.out))
           (try simp only [← hl37_2])
           go_roundg k2
           case measure => have:=HK1.out;have:=HK2.out;omega
           case rel => exact ⟨(wrap64 (x39_2 + 1)),(y135),(.slice Ao87 y135.length co87),rf,H',⟨by have:=HK1.out;have:=HK2.out;omega⟩,⟨by (try simp only [hl37_2]);(with_reducible repeat (first | apply Kd.R_alloc | apply Kd.R_drewN | apply Kd.R_drew));exact Kd.R_mono (Kd.R_far (p:=⟨gb119,1,none⟩) (Kd.R_types HO_37.out BK119.out (by decide)) (fun _ hk => hk.2) (.slice Ao87 y135.length co87)) (fun _ hk => hk.1.2)⟩,⟨by (try simp only [hl37_2]);(with_reducible repeat (first | apply Kd.S_alloc | apply Kd.S_drewN | apply Kd.S_drew));exact Kd.S_mono (Kd.S_far (p:=⟨gb119,1,none⟩) (Kd.S_types HO137.out BK119.out (by decide)) (fun _ hk => hk.2) (.slice Ao87 y135.length co87)) (fun _ hk => hk.1.1)⟩,⟨by (try simp only [hl37_2]);(refine st ?_);refine blk_far ?_ NB111_119.out _;(refine st ?_);exact BK111.out⟩,⟨by (try simp only [hl37_2]);(refine st ?_);refine blk_far ?_ NB112_119.out _;(refine st ?_);exact BK112.out⟩,⟨by (try simp only [hl37_2]);(refine st ?_);refine blk_put (cs:=#[.int .i64 0,.slice Ao76 x120001_2.length co76]) ?_ 1 _ rfl;(refine st ?_);exact BK119.out⟩,⟨bx⟩⟩
          ·
           rw [if_neg c67] at H
           exact absurd H (by simp)
        ·
         rw [if_neg c20] at H
         exact absurd H (by simp)
       ·
        rw [if_neg c19] at H
        exact absurd H (by simp)
      ·
       rw [if_neg c18] at H
       have c18b0:decide (x39_2 < (x6_1.length:Int))=false:=decide_eq_false c18
       (try have c18z:decide (x39_2 < (t118.length:Int))=false:=by rw [← hl37_2];exact c18b0)
       clear c18
       replace H:=Option.bind_eq_some_iff.mp H
       obtain ⟨t138,A890,H⟩:=H
       replace H:(if (t138.length:Int) > 5 then (some (0,([]:List (S20174)),2)) else (if (t138.length:Int)=0 then (ask_normal_at.j2 w k2 x7_1 a0 0 ([]:List (S20174))) else (ask_normal_at.j2 w k2 x7_1 a0 0 t138)))=some (r1,r2,r3):=H
       have A89:=ak A890
       clear A890
       by_cases c90:(t138.length:Int) > 5
       ·
        rw [if_pos c90] at H
        have c90b0:decide (5 < (t138.length:Int))=true:=decide_eq_true c90
        have c90b1:decide (5 < t138.length)=true:=decide_eq_true (by omega)
        clear c90
        simp only [Option.some.injEq,Prod.mk.injEq] at H
        obtain ⟨rfl,rfl,rfl⟩:=H
        have hnb91:=NB119_111.out
        have hnc91:=NB111_119.out
        have hnb92:=NB119_112.out
        have hnc92:=NB112_119.out
        obtain ⟨hcz93_0,hcz93_1,hfz93_0,hfz93_1⟩:=cb2 BK119.out
        obtain ⟨Ao94,co94,eo94⟩:=Kd.S_slice HO_120001.out
        subst eo94
        go_wp2_with (first | ((with_reducible refine gate_callee (f:=49) rfl ?_);refine goesL_ (some 89) rfl rfl Tryz.func49 kr rfl #[.slice Ao94 x120001_2.length co94,.func (.func 50) #[] #[.pointer (some ⟨gb111,0,none⟩)]] rfl ag ?_;(with_reducible refine (delT.calls x120001_2 a0 t138 (gb111:=gb111) (base:=w.heap.size) (ok:=fun k_ => some k_ ≠ ((.slice Ao15 t118.length co15):Value).ownBlock) (u:=.slice Ao94 x120001_2.length co94) _ ?side1 ?side2 A89.out).mono ?_);(case side1 => exact (bk BK111));(case side2 => exact (sx HO_120001));rintro e w95 ⟨v139,rfl,ho0,hg⟩;refine ⟨_,rfl,?_⟩;have n0_:=ak (Kd.R_grown (ok:=fun k_ => some k_ ≠ (.slice Ao94 x120001_2.length co94:Value).ownBlock) (rx HO_37) hg (fun _ hk => hk));have n1_:=ak (trivial);have n2_:=ak (ho0);have n3_:=ak (blk_grown (g:=gb111) (o:=.cells #[.int .i64 a0] 3 (0,0)) (bk BK111) hg (Kd.S_ne HO_120001.out BK111.out (by decide)));have n4_:=ak (blk_grown (g:=gb112) (o:=.cells #[.int .i64 0,.slice none 0 0] 24 (0,0)) (bk BK112) hg (Kd.S_ne HO_120001.out BK112.out (by decide)));have n5_:=ak (blk_grown (g:=gb119) (o:=.cells #[.int .i64 0,.slice Ao94 x120001_2.length co94] 24 (0,0)) (bk BK119) hg (Kd.S_ne HO_120001.out BK119.out (by decide)));have n6_:=ak (Below.grown bx hg (below_size bx) (Kd.S_base HO_120001.out));clear HO_37 HO_120001 BK111 BK112 BK119 HB;have HO_37:=n0_;have HO_120001:=n1_;have HO140:=n2_;have BK111:=n3_;have BK112:=n4_;have BK119:=n5_;have HB:=n6_;clear n0_ n1_ n2_ n3_ n4_ n5_ n6_;(try clear hb);(try clear hb2);(try clear hk);(try clear hi);(try clear ho0);obtain ⟨Ao96,co96,eo96⟩:=Kd.S_slice HO140.out;subst eo96;obtain ⟨hcz97_0,hcz97_1,hfz97_0,hfz97_1⟩:=cb2 BK119.out;have hnb98:=NB112_111.out;have hnc98:=NB111_112.out;obtain ⟨hcz99_0,hcz99_1,hfz99_0,hfz99_1⟩:=cb2 BK112.out))
        refine bodyPost_ret (results_ct rfl _ _ gb112 24 #[.int .i64 0,.slice none 0 0] (0,0) _ rfl (by (refine st ?_);refine blk_put (cs:=#[.int .i64 0,.slice none 0 0]) ?_ 1 _ rfl;(refine st ?_);refine blk_put (cs:=#[.int .i64 0,.slice none 0 0]) ?_ 0 _ rfl;(refine st ?_);refine blk_far ?_ NB112_119.out _;(refine st ?_);exact BK112.out) Tryz.underlying24 rfl kr) rfl ?_
        exact ⟨_,by first | rfl | (simp [errW_none,errW_some] <;> rfl) | (simp [*,errW_none,errW_some] <;> rfl),by first | exact Kd.S_nil _ _ _ _ _ | exact Kd.N_nil _ _ _ _ _ | exact Kd.V_nil _ _ _ _ _ | exact Kd.Q_nil _ _ _ _ _ | exact Kd.R_nil _ _ _ _ _,bx⟩
       ·
        rw [if_neg c90] at H
        have c90b0:decide (5 < (t138.length:Int))=false:=decide_eq_false c90
        have c90b1:decide (5 < t138.length)=false:=decide_eq_false (by omega)
        clear c90
        have HC100:=ak H
        clear H
        have hnb101:=NB119_111.out
        have hnc101:=NB111_119.out
        have hnb102:=NB119_112.out
        have hnc102:=NB112_119.out
        obtain ⟨hcz103_0,hcz103_1,hfz103_0,hfz103_1⟩:=cb2 BK119.out
        obtain ⟨Ao104,co104,eo104⟩:=Kd.S_slice HO_120001.out
        subst eo104
        go_upto_if 99 with (first | ((with_reducible refine gate_callee (f:=49) rfl ?_);refine goesL_ (some 89) rfl rfl Tryz.func49 kr rfl #[.slice Ao104 x120001_2.length co104,.func (.func 50) #[] #[.pointer (some ⟨gb111,0,none⟩)]] rfl ag ?_;(with_reducible refine (delT.calls x120001_2 a0 t138 (gb111:=gb111) (base:=w.heap.size) (ok:=fun k_ => some k_ ≠ ((.slice Ao15 t118.length co15):Value).ownBlock) (u:=.slice Ao104 x120001_2.length co104) _ ?side1 ?side2 A89.out).mono ?_);(case side1 => exact (bk BK111));(case side2 => exact (sx HO_120001));rintro e w105 ⟨v139,rfl,ho0,hg⟩;refine ⟨_,rfl,?_⟩;have n0_:=ak (Kd.R_grown (ok:=fun k_ => some k_ ≠ (.slice Ao104 x120001_2.length co104:Value).ownBlock) (rx HO_37) hg (fun _ hk => hk));have n1_:=ak (trivial);have n2_:=ak (ho0);have n3_:=ak (blk_grown (g:=gb111) (o:=.cells #[.int .i64 a0] 3 (0,0)) (bk BK111) hg (Kd.S_ne HO_120001.out BK111.out (by decide)));have n4_:=ak (blk_grown (g:=gb112) (o:=.cells #[.int .i64 0,.slice none 0 0] 24 (0,0)) (bk BK112) hg (Kd.S_ne HO_120001.out BK112.out (by decide)));have n5_:=ak (blk_grown (g:=gb119) (o:=.cells #[.int .i64 0,.slice Ao104 x120001_2.length co104] 24 (0,0)) (bk BK119) hg (Kd.S_ne HO_120001.out BK119.out (by decide)));have n6_:=ak (Below.grown bx hg (below_size bx) (Kd.S_base HO_120001.out));clear HO_37 HO_120001 BK111 BK112 BK119 HB;have HO_37:=n0_;have HO_120001:=n1_;have HO140:=n2_;have BK111:=n3_;have BK112:=n4_;have BK119:=n5_;have HB:=n6_;clear n0_ n1_ n2_ n3_ n4_ n5_ n6_;(try clear hb);(try clear hb2);(try clear hk);(try clear hi);(try clear ho0);obtain ⟨Ao106,co106,eo106⟩:=Kd.S_slice HO140.out;subst eo106;obtain ⟨hcz107_0,hcz107_1,hfz107_0,hfz107_1⟩:=cb2 BK119.out))
        (try simp only [Act.put,List.setIfInBounds_toArray,List.set_cons_zero,List.set_cons_succ])
        go_cut [] (fun wc => ∃ (kq:Nat) (x120001_99:List (S20174)) (u120001:Value),Aside0 (ask_normal_at.j2 w kq x7_1 a0 0 x120001_99=some (r1,r2,r3))∧Aside0 (kq ≤ k2)∧Aside0 (Kd.S k20174 47 wc w.heap.size (fun _ => True) u120001 x120001_99)∧Aside0 (wc.heap[gb111]?=some (.cells #[.int .i64 a0] 3 (0,0)))∧Aside0 (wc.heap[gb112]?=some (.cells #[.int .i64 0,(.slice none 0 0)] 24 (0,0)))∧Aside0 (wc.heap[gb119]?=some (.cells #[.int .i64 0,u120001] 24 (0,0)))∧Aside0 (Below w.heap.size w wc))
        case first =>
         have H:=HC100.out
         clear HC100
         by_cases c108:(t138.length:Int)=0
         ·
          rw [if_pos c108] at H
          have c108b0:((t138.length:Int) == 0)=true:=beq_iff_eq.mpr c108
          have c108b1:((t138.length:Int) != 0)=false:=bne_eq_false_iff_eq.mpr c108
          clear c108
          (first | rw [c108b0] | (simp only [i64_w,i32_w];rw [c108b0]) | skip)
          have H':=ak H
          clear H
          have hnb109:=NB119_111.out
          have hnc109:=NB111_119.out
          have hnb110:=NB119_112.out
          have hnc110:=NB112_119.out
          obtain ⟨hcz111_0,hcz111_1,hfz111_0,hfz111_1⟩:=cb2 BK119.out
          go_wp2
          go_meet
          case rel => exact ⟨_,(([]:List (S20174))),(.slice none 0 0),H',⟨by have:=HK1.out;have:=HK2.out;first | omega | exact Nat.le_refl _⟩,⟨by (try simp only [hl37_2]);first | exact Kd.S_nil _ _ _ _ _ | exact Kd.N_nil _ _ _ _ _ | exact Kd.V_nil _ _ _ _ _ | exact Kd.Q_nil _ _ _ _ _ | exact Kd.R_nil _ _ _ _ _⟩,⟨by (try simp only [hl37_2]);(refine st ?_);refine blk_far ?_ NB111_119.out _;(refine st ?_);refine blk_far ?_ NB111_119.out _;(refine st ?_);exact BK111.out⟩,⟨by (try simp only [hl37_2]);(refine st ?_);refine blk_far ?_ NB112_119.out _;(refine st ?_);refine blk_far ?_ NB112_119.out _;(refine st ?_);exact BK112.out⟩,⟨by (try simp only [hl37_2]);(refine st ?_);refine blk_put (cs:=#[.int .i64 0,.slice Ao106 t138.length co106]) ?_ 1 _ rfl;(refine st ?_);refine blk_put (cs:=#[.int .i64 0,.slice Ao104 x120001_2.length co104]) ?_ 1 _ rfl;(refine st ?_);exact BK119.out⟩,⟨bx⟩⟩
         ·
          rw [if_neg c108] at H
          have c108b0:((t138.length:Int) == 0)=false:=beq_eq_false_iff_ne.mpr c108
          have c108b1:((t138.length:Int) != 0)=true:=bne_iff_ne.mpr c108
          have c108b2:¬ (t138=[]):=fun h_ => c108 (by rw [h_];rfl)
          (first | rw [c108b0] | (simp only [i64_w,i32_w];rw [c108b0]) | skip)
          have H':=ak H
          clear H
          go_wp2
          go_meet
          case rel => exact ⟨_,(t138),(.slice Ao106 t138.length co106),H',⟨by have:=HK1.out;have:=HK2.out;first | omega | exact Nat.le_refl _⟩,⟨by (try simp only [hl37_2]);(with_reducible repeat (first | apply Kd.S_alloc | apply Kd.S_drewN | apply Kd.S_drew));exact Kd.S_mono (Kd.S_far (p:=⟨gb119,1,none⟩) (Kd.S_types HO140.out BK119.out (by decide)) (fun _ hk => hk.2) (.slice Ao106 t138.length co106)) (fun _ hk => trivial)⟩,⟨by (try simp only [hl37_2]);(refine st ?_);refine blk_far ?_ NB111_119.out _;(refine st ?_);exact BK111.out⟩,⟨by (try simp only [hl37_2]);(refine st ?_);refine blk_far ?_ NB112_119.out _;(refine st ?_);exact BK112.out⟩,⟨by (try simp only [hl37_2]);(refine st ?_);refine blk_put (cs:=#[.int .i64 0,.slice Ao104 x120001_2.length co104]) ?_ 1 _ rfl;(refine st ?_);exact BK119.out⟩,⟨bx⟩⟩
        case rest =>
         clear HC100
         try clear c1
         try clear p1
         try clear q1
         try clear hx1
         try clear c2
         try clear p2
         try clear c4
         try clear c5
         try clear c6
         try clear p6
         try clear c7
         try clear c9
         try clear c10
         try clear c11
         try clear c12
         try clear p12
         try clear q12
         try clear hx12
         try clear c17
         try clear c18
         try clear c18b0
         try clear c19
         try clear c20
         try clear c21
         try clear c21b0
         try clear c21b1
         try clear c23
         try clear c24
         try clear c26
         try clear c26b0
         try clear c26b1
         try clear c43
         try clear c45
         try clear c46
         try clear c47
         try clear c49
         try clear c50
         try clear p64
         try clear c67
         try clear c69
         try clear c70
         try clear c71
         try clear c73
         try clear c74
         try clear c76
         try clear c90
         try clear c90b0
         try clear c90b1
         try clear c91
         try clear c92
         try clear c98
         try clear c101
         try clear c102
         try clear c108
         try clear c108b0
         try clear c108b1
         try clear c108b2
         try clear c109
         try clear c110
         try clear hcz103_0 hcz103_1 hfz103_0 hfz103_1
         try clear hcz107_0 hcz107_1 hfz107_0 hfz107_1
         try clear hcz111_0 hcz111_1 hfz111_0 hfz111_1
         try clear hcz48_0 hcz48_1 hcz48_2 hcz48_3 hcz48_4 hcz48_5 hfz48_0 hfz48_1 hfz48_2 hfz48_3 hfz48_4 hfz48_5
         try clear hcz51_0 hcz51_1 hfz51_0 hfz51_1
         try clear hcz56_0 hcz56_1 hcz56_2 hcz56_3 hcz56_4 hcz56_5 hfz56_0 hfz56_1 hfz56_2 hfz56_3 hfz56_4 hfz56_5
         try clear hcz59_0 hcz59_1 hcz59_2 hcz59_3 hcz59_4 hcz59_5 hfz59_0 hfz59_1 hfz59_2 hfz59_3 hfz59_4 hfz59_5
         try clear hcz61_0 hcz61_1 hfz61_0 hfz61_1
         try clear hcz62_0 hcz62_1 hcz62_2 hcz62_3 hcz62_4 hcz62_5 hfz62_0 hfz62_1 hfz62_2 hfz62_3 hfz62_4 hfz62_5
         try clear hcz65_0 hcz65_1 hfz65_0 hfz65_1
         try clear hcz72_0 hcz72_1 hcz72_2 hcz72_3 hcz72_4 hcz72_5 hfz72_0 hfz72_1 hfz72_2 hfz72_3 hfz72_4 hfz72_5
         try clear hcz75_0 hcz75_1 hfz75_0 hfz75_1
         try clear hcz79_0 hcz79_1 hcz79_2 hcz79_3 hcz79_4 hcz79_5 hfz79_0 hfz79_1 hfz79_2 hfz79_3 hfz79_4 hfz79_5
         try clear hcz82_0 hcz82_1 hcz82_2 hcz82_3 hcz82_4 hcz82_5 hfz82_0 hfz82_1 hfz82_2 hfz82_3 hfz82_4 hfz82_5
         try clear hcz84_0 hcz84_1 hfz84_0 hfz84_1
         try clear hcz85_0 hcz85_1 hcz85_2 hcz85_3 hcz85_4 hcz85_5 hfz85_0 hfz85_1 hfz85_2 hfz85_3 hfz85_4 hfz85_5
         try clear hcz88_0 hcz88_1 hfz88_0 hfz88_1
         try clear hcz93_0 hcz93_1 hfz93_0 hfz93_1
         try clear hcz97_0 hcz97_1 hfz97_0 hfz97_1
         try clear hcz99_0 hcz99_1 hfz99_0 hfz99_1
         try clear hx120_0 hx120_1 hx120_2 hx120_3 hx120_4 hx120_5
         try clear hx122_0 hx122_1 hx122_2 hx122_3 hx122_4 hx122_5
         try clear p120
         try clear p122
         try clear q120
         try clear q122
         obtain ⟨kq,x120001_99,u120001,HA,HJ99,HO_120001,BK111,BK112,BK119,HB⟩:=hcut
         cases kq with
         | zero => exact absurd HA.out (by simp [ask_normal_at.j2])
         | succ kj99 =>
          have H:=HA.out
          clear HA
          simp only [ask_normal_at.j2] at H
          have H':=ak H
          clear H
          have hnb112:=NB119_111.out
          have hnc112:=NB111_119.out
          have hnb113:=NB119_112.out
          have hnc113:=NB112_119.out
          obtain ⟨hcz114_0,hcz114_1,hfz114_0,hfz114_1⟩:=cb2 BK119.out
          obtain ⟨Ao115,co115,eo115⟩:=Kd.S_slice HO_120001.out
          subst eo115
          go_wp2
          (try simp only [Act.put,List.setIfInBounds_toArray,List.set_cons_zero,List.set_cons_succ])
          obtain ⟨n5_,hn5_⟩:∃ n_:Nat,n_=x120001_99.length:=⟨_,rfl⟩
          rw [← hn5_]
          go_loopg [104] kj99 (fun kq v104 w' => ∃ (x104_4:Int) (x113000_4:Int) (x5_ xd5_:List (S20174)),Aside0 (x5_.length=n5_)∧v104=.int .i64 x104_4∧Aside0 (ask_normal_at.l2 w kq x7_1 xd5_ (n5_:Int) x104_4 a0 0 x5_=some (r1,r2,r3))∧Aside0 (kq ≤ kj99)∧Aside0 (Kd.S k20174 47 w' w.heap.size (fun _ => True) (.slice Ao115 n5_ co115) x5_)∧Aside0 (w'.heap[gb111]?=some (.cells #[.int .i64 a0] 3 (0,0)))∧Aside0 (w'.heap[gb112]?=some (.cells #[.int .i64 x113000_4,(.slice none 0 0)] 24 (0,0)))∧Aside0 (w'.heap[gb119]?=some (.cells #[.int .i64 0,(.slice Ao115 n5_ co115)] 24 (0,0)))∧Aside0 (Below w.heap.size w w'))
          case atStart => exact ⟨(0),(0),x120001_99,x120001_99,⟨hn5_.symm⟩,rf,⟨by rw [hn5_];exact H'.out⟩,⟨Nat.le_refl _⟩,⟨by (try simp only [hl37_2]);(try rw [hn5_]);(with_reducible repeat (first | apply Kd.S_alloc | apply Kd.S_drewN | apply Kd.S_drew));exact HO_120001.out⟩,⟨by (try simp only [hl37_2]);(try rw [hn5_]);(refine st ?_);exact BK111.out⟩,⟨by (try simp only [hl37_2]);(try rw [hn5_]);(refine st ?_);exact BK112.out⟩,⟨by (try simp only [hl37_2]);(try rw [hn5_]);(refine st ?_);exact BK119.out⟩,⟨bx⟩⟩
          case round =>
           clear H'
           try clear c1
           try clear p1 p1
           try clear q1 q1
           try clear hx1
           try clear c2
           try clear p2 p2
           try clear c4
           try clear c5
           try clear c6
           try clear p6 p6
           try clear c7
           try clear c9
           try clear c10
           try clear c11
           try clear c12
           try clear p12 p12
           try clear q12 q12
           try clear hx12
           try clear c17
           try clear c18
           try clear c18b0
           try clear c19
           try clear c20
           try clear c21
           try clear c21b0
           try clear c21b1
           try clear c23
           try clear c24
           try clear c26
           try clear c26b0
           try clear c26b1
           try clear c43
           try clear c45
           try clear c46
           try clear c47
           try clear c49
           try clear c50
           try clear p64 p64
           try clear c67
           try clear c69
           try clear c70
           try clear c71
           try clear c73
           try clear c74
           try clear c76
           try clear c90
           try clear c90b0
           try clear c90b1
           try clear c91
           try clear c92
           try clear c98
           try clear c101
           try clear c102
           try clear c108
           try clear c108b0
           try clear c108b1
           try clear c108b2
           try clear c109
           try clear c110
           try clear c112
           try clear c113
           try clear hcz103_0 hcz103_1 hfz103_0 hfz103_1
           try clear hcz107_0 hcz107_1 hfz107_0 hfz107_1
           try clear hcz111_0 hcz111_1 hfz111_0 hfz111_1
           try clear hcz114_0 hcz114_1 hfz114_0 hfz114_1
           try clear hcz48_0 hcz48_1 hcz48_2 hcz48_3 hcz48_4 hcz48_5 hfz48_0 hfz48_1 hfz48_2 hfz48_3 hfz48_4 hfz48_5
           try clear hcz51_0 hcz51_1 hfz51_0 hfz51_1
           try clear hcz56_0 hcz56_1 hcz56_2 hcz56_3 hcz56_4 hcz56_5 hfz56_0 hfz56_1 hfz56_2 hfz56_3 hfz56_4 hfz56_5
           try clear hcz59_0 hcz59_1 hcz59_2 hcz59_3 hcz59_4 hcz59_5 hfz59_0 hfz59_1 hfz59_2 hfz59_3 hfz59_4 hfz59_5
           try clear hcz61_0 hcz61_1 hfz61_0 hfz61_1
           try clear hcz62_0 hcz62_1 hcz62_2 hcz62_3 hcz62_4 hcz62_5 hfz62_0 hfz62_1 hfz62_2 hfz62_3 hfz62_4 hfz62_5
           try clear hcz65_0 hcz65_1 hfz65_0 hfz65_1
           try clear hcz72_0 hcz72_1 hcz72_2 hcz72_3 hcz72_4 hcz72_5 hfz72_0 hfz72_1 hfz72_2 hfz72_3 hfz72_4 hfz72_5
           try clear hcz75_0 hcz75_1 hfz75_0 hfz75_1
           try clear hcz79_0 hcz79_1 hcz79_2 hcz79_3 hcz79_4 hcz79_5 hfz79_0 hfz79_1 hfz79_2 hfz79_3 hfz79_4 hfz79_5
           try clear hcz82_0 hcz82_1 hcz82_2 hcz82_3 hcz82_4 hcz82_5 hfz82_0 hfz82_1 hfz82_2 hfz82_3 hfz82_4 hfz82_5
           try clear hcz84_0 hcz84_1 hfz84_0 hfz84_1
           try clear hcz85_0 hcz85_1 hcz85_2 hcz85_3 hcz85_4 hcz85_5 hfz85_0 hfz85_1 hfz85_2 hfz85_3 hfz85_4 hfz85_5
           try clear hcz88_0 hcz88_1 hfz88_0 hfz88_1
           try clear hcz93_0 hcz93_1 hfz93_0 hfz93_1
           try clear hcz97_0 hcz97_1 hfz97_0 hfz97_1
           try clear hcz99_0 hcz99_1 hfz99_0 hfz99_1
           try clear hx120_0 hx120_1 hx120_2 hx120_3 hx120_4 hx120_5
           try clear hx122_0 hx122_1 hx122_2 hx122_3 hx122_4 hx122_5
           try clear p120
           try clear p122
           try clear q120
           try clear q122
           obtain ⟨x104_4,x113000_4,x5_,xd5_,HL5,rfl,HA,HK4,HO_120001,BK111,BK112,BK119,HB⟩:=hrel
           replace HL5:=HL5.out
           clear hn5_
           subst HL5
           have HO_102:=HO_120001
           cases gk with
           | zero => exact absurd HA.out (by simp [ask_normal_at.l2])
           | succ k4 =>
            have H:=HA.out
            clear HA
            simp only [ask_normal_at.l2] at H
            by_cases c116:x104_4 < (x5_.length:Int)
            ·
             rw [if_pos c116] at H
             have c116b0:decide (x104_4 < (x5_.length:Int))=true:=decide_eq_true c116
             clear c116
             by_cases c117:0 ≤ x104_4
             ·
              rw [if_pos c117] at H
              have c117b0:decide (0 ≤ x104_4)=true:=decide_eq_true c117
              clear c117
              by_cases c118:x104_4 < (x5_.length:Int)
              ·
               rw [if_pos c118] at H
               have c118b0:decide (x104_4 < (x5_.length:Int))=true:=decide_eq_true c118
               clear c118
               replace H:=Option.bind_eq_some_iff.mp H
               obtain ⟨⟨t143,t144⟩,A1190,H⟩:=H
               replace H:(if t144=true then ((ask_isCoef.f t143).bind fun t145 => (if t145=true then (if x104_4 < (x5_.length:Int) then (ask_normal_at.l2 w k4 x7_1 xd5_ (x5_.length:Int) (wrap64 (x104_4 + 1)) a0 0 (x5_.set (x104_4:Int).toNat (⟨t143,(⟨(rd_T20174 x5_ x104_4).f1.f0,(rd_T20174 x5_ x104_4).f1.f1,(rd_T20174 x5_ x104_4).f1.f2,(⟨(rd_T20174 x5_ x104_4).f1.f3.f0,(rd_T20174 x5_ x104_4).f1.f3.f1⟩:S58)⟩:S20172)⟩:S20174))) else (none)) else (some (0,([]:List (S20174)),3)))) else (some (0,([]:List (S20174)),3)))=some (r1,r2,r3):=H
               have A119:=ak A1190
               clear A1190
               by_cases c120:t144=true
               ·
                subst c120
                have H1:((ask_isCoef.f t143).bind fun t145 => (if t145=true then (if x104_4 < (x5_.length:Int) then (ask_normal_at.l2 w k4 x7_1 xd5_ (x5_.length:Int) (wrap64 (x104_4 + 1)) a0 0 (x5_.set (x104_4:Int).toNat (⟨t143,(⟨(rd_T20174 x5_ x104_4).f1.f0,(rd_T20174 x5_ x104_4).f1.f1,(rd_T20174 x5_ x104_4).f1.f2,(⟨(rd_T20174 x5_ x104_4).f1.f3.f0,(rd_T20174 x5_ x104_4).f1.f3.f1⟩:S58)⟩:S20172)⟩:S20174))) else (none)) else (some (0,([]:List (S20174)),3))))=some (r1,r2,r3):=by rw [if_pos rfl] at H;exact H
                clear H
                have H:=H1
                clear H1
                replace H:=Option.bind_eq_some_iff.mp H
                obtain ⟨t145,A1210,H⟩:=H
                replace H:(if t145=true then (if x104_4 < (x5_.length:Int) then (ask_normal_at.l2 w k4 x7_1 xd5_ (x5_.length:Int) (wrap64 (x104_4 + 1)) a0 0 (x5_.set (x104_4:Int).toNat (⟨t143,(⟨(rd_T20174 x5_ x104_4).f1.f0,(rd_T20174 x5_ x104_4).f1.f1,(rd_T20174 x5_ x104_4).f1.f2,(⟨(rd_T20174 x5_ x104_4).f1.f3.f0,(rd_T20174 x5_ x104_4).f1.f3.f1⟩:S58)⟩:S20172)⟩:S20174))) else (none)) else (some (0,([]:List (S20174)),3)))=some (r1,r2,r3):=H
                have A121:=ak A1210
                clear A1210
                by_cases c122:t145=true
                ·
                 subst c122
                 have H1:(if x104_4 < (x5_.length:Int) then (ask_normal_at.l2 w k4 x7_1 xd5_ (x5_.length:Int) (wrap64 (x104_4 + 1)) a0 0 (x5_.set (x104_4:Int).toNat (⟨t143,(⟨(rd_T20174 x5_ x104_4).f1.f0,(rd_T20174 x5_ x104_4).f1.f1,(rd_T20174 x5_ x104_4).f1.f2,(⟨(rd_T20174 x5_ x104_4).f1.f3.f0,(rd_T20174 x5_ x104_4).f1.f3.f1⟩:S58)⟩:S20172)⟩:S20174))) else (none))=some (r1,r2,r3):=by rw [if_pos rfl] at H;exact H
                 clear H
                 have H:=H1
                 clear H1
                 by_cases c123:x104_4 < (x5_.length:Int)
                 ·
                  rw [if_pos c123] at H
                  have c123b0:decide (x104_4 < (x5_.length:Int))=true:=decide_eq_true c123
                  clear c123
                  obtain ⟨y146,hy146⟩:∃ y_:List (S20174),y_=(x5_.set (x104_4:Int).toNat (⟨t143,(⟨(rd_T20174 x5_ x104_4).f1.f0,(rd_T20174 x5_ x104_4).f1.f1,(rd_T20174 x5_ x104_4).f1.f2,(⟨(rd_T20174 x5_ x104_4).f1.f3.f0,(rd_T20174 x5_ x104_4).f1.f3.f1⟩:S58)⟩:S20172)⟩:S20174)):=⟨_,rfl⟩
                  replace H:(ask_normal_at.l2 w k4 x7_1 xd5_ (x5_.length:Int) (wrap64 (x104_4 + 1)) a0 0 y146)=some (r1,r2,r3):=by first | (rw [hy146];with_reducible exact H) | (have H2_:=(Option.bind_some _ _).symm.trans H;rw [hy146];with_reducible exact H2_) | (have H2_:=(Option.bind_some _ _).symm.trans H;with_reducible exact H2_) | with_reducible exact H | (rw [hy146];exact H) | exact H
                  have Ny146:=ak hy146
                  clear hy146
                  have H':=ak H
                  clear H
                  have p141:0 ≤ (x104_4:Int):=of_decide_eq_true asm
                  have q141:x104_4 < (x5_.length:Int):=of_decide_eq_true asm
                  obtain ⟨ad141,A141_3,c141_3,e141,hx141_0,hx141_1,hx141_2,hx141_3,hx141_4,hx141_5,hl141_3,hi141_3⟩:=at_T20174 (Kd.S_reads' HO_102.out).2.2 x104_4 p141 q141
                  cases e141
                  obtain ⟨ce141,hce141,hMe141,hcc141⟩:=Kd.S_get HO_102.out z20174 x104_4 p141 (by first | exact q141 | exact of_decide_eq_true asm | (have e_:=(Kd.S_reads' HO_102.out).1;omega))
                  obtain ⟨ve141_3,rfl,ge141_3⟩:=k20174_openM hMe141
                  have hv141_3:=hcc141 3 _ rfl
                  rw [add_field _ _ 3 (by omega)] at hv141_3
                  replace hv141_3:=Option.some.inj (hv141_3.symm.trans hx141_3)
                  rw [hv141_3] at ge141_3
                  have HL141_3:=ak (show Kd.R k95 103 _ _ _ _ ((rd_T20174 x5_ x104_4).f1.f2) from ge141_3)
                  clear hv141_3 ge141_3
                  clear hcc141 hce141
                  have HR141_3:=ak hi141_3
                  have HC141_3:=ak hl141_3
                  clear hi141_3 hl141_3
                  replace p141:=eq_true p141
                  replace q141:=eq_true q141
                  go_wp2_with (first | ((with_reducible refine gate_dst (N:=15) rfl ?_);refine box_event ?hg (N:=15) ?hd (cs:=#[.int .i64 0,.int .i64 0,.int .i64 0,.slice none 0 0,.int .i64 0,.int .i64 0]) (t:=47) ?hr ?_;(case hd => rfl);(case hg => rfl);(case hr => first | (go_simp;done) | (go_simp;rfl));intro gb142 hg w125 hbox hb;have n0_:=ak (Kd.S_below (Kd.S_elderB (sx HO_102) gb142 (Nat.le_of_eq hg.symm)) hb);have n1_:=ak (Kd.S_below (Kd.S_elderB (sx HO_120001) gb142 (Nat.le_of_eq hg.symm)) hb);have n2_:=ak (Kd.R_below (rx HL141_3) hb);have n3_:=bB BK111 hb;have n4_:=bB BK112 hb;have n5_:=bB BK119 hb;have n6_:=ak (Kd.C_below (cx HR141_3) hb);have n7_:=ak (below_step bx hb);have n8_:=ak (hbox);have n9_:=ak ((by rw [hg];exact (below_size bx):w.heap.size ≤ gb142));have n10_:=ak ((by rw [hg];exact (below_size bx):w.heap.size ≤ gb142));have n11_:=ak ((by rw [hg];exact Nat.ne_of_lt (blk_lt (g:=gb111) (o:=.cells #[.int .i64 a0] 3 (0,0)) (bk BK111)):gb111 ≠ gb142));have n12_:=ak ((by rw [hg];exact Nat.ne_of_gt (blk_lt (g:=gb111) (o:=.cells #[.int .i64 a0] 3 (0,0)) (bk BK111)):gb142 ≠ gb111));have n13_:=ak ((by rw [hg];exact Nat.ne_of_lt (blk_lt (g:=gb112) (o:=.cells #[.int .i64 x113000_4,.slice none 0 0] 24 (0,0)) (bk BK112)):gb112 ≠ gb142));have n14_:=ak ((by rw [hg];exact Nat.ne_of_gt (blk_lt (g:=gb112) (o:=.cells #[.int .i64 x113000_4,.slice none 0 0] 24 (0,0)) (bk BK112)):gb142 ≠ gb112));have n15_:=ak ((by rw [hg];exact Nat.ne_of_lt (blk_lt (g:=gb119) (o:=.cells #[.int .i64 0,.slice (some ad141) x5_.length co115] 24 (0,0)) (bk BK119)):gb119 ≠ gb142));have n16_:=ak ((by rw [hg];exact Nat.ne_of_gt (blk_lt (g:=gb119) (o:=.cells #[.int .i64 0,.slice (some ad141) x5_.length co115] 24 (0,0)) (bk BK119)):gb142 ≠ gb119));clear HO_102 HO_120001 HL141_3 BK111 BK112 BK119 HR141_3 HB;have HO_102:=n0_;have HO_120001:=n1_;have HL141_3:=n2_;have BK111:=n3_;have BK112:=n4_;have BK119:=n5_;have HR141_3:=n6_;have HB:=n7_;have BK142:=n8_;have GW142:=n9_;have GE142:=n10_;have NB111_142:=n11_;have NB142_111:=n12_;have NB112_142:=n13_;have NB142_112:=n14_;have NB119_142:=n15_;have NB142_119:=n16_;clear n0_ n1_ n2_ n3_ n4_ n5_ n6_ n7_ n8_ n9_ n10_ n11_ n12_ n13_ n14_ n15_ n16_;clear hb hbox hg;have hnb126:=NB142_111.out;have hnc126:=NB111_142.out;have hnb127:=NB142_112.out;have hnc127:=NB112_142.out;have hnb128:=NB142_119.out;have hnc128:=NB119_142.out;obtain ⟨hcz129_0,hcz129_1,hcz129_2,hcz129_3,hcz129_4,hcz129_5,hfz129_0,hfz129_1,hfz129_2,hfz129_3,hfz129_4,hfz129_5⟩:=cb6 BK142.out) | ((with_reducible refine gate_store (t:=47) (p:=15) rfl ?_);refine store_event (t:=47) (p:=15) (v:=?vo_w130) (w1:=((((((w125.setCell ⟨gb142,0,none⟩ (.int .i64 ((rd_T20174 x5_ x104_4).f0))).setCell ⟨gb142,1,none⟩ (.int .i64 ((rd_T20174 x5_ x104_4).f1.f0))).setCell ⟨gb142,2,none⟩ (.int .i64 ((rd_T20174 x5_ x104_4).f1.f1))).setCell ⟨gb142,3,none⟩ (.slice A141_3 ((rd_T20174 x5_ x104_4).f1.f2).length c141_3)).setCell ⟨gb142,4,none⟩ (.int .i64 ((rd_T20174 x5_ x104_4).f1.f3.f0))).setCell ⟨gb142,5,none⟩ (.int .i64 ((rd_T20174 x5_ x104_4).f1.f3.f1)))) ?hg ?ho ?hn ?hr ?_;(case ho => rfl);(case hg => rfl);(case hn => rfl);(case hr => first | (go_simp;done) | (go_simp;rfl));intro w130 hw;have n0_:Aside0 (Kd.S k20174 47 w130 w.heap.size (fun _ => True) (.slice (some ad141) x5_.length co115) x5_):=⟨(by rw [hw];exact (by (with_reducible repeat (first | apply Kd.S_alloc | apply Kd.S_drewN | apply Kd.S_drew));exact Kd.S_mono (Kd.S_far (p:=⟨gb142,5,none⟩) (Kd.S_far (p:=⟨gb142,4,none⟩) (Kd.S_far (p:=⟨gb142,3,none⟩) (Kd.S_far (p:=⟨gb142,2,none⟩) (Kd.S_far (p:=⟨gb142,1,none⟩) (Kd.S_far (p:=⟨gb142,0,none⟩) HO_102.out (fun _ hk => hk.2) (.int .i64 ((rd_T20174 x5_ x104_4).f0))) (fun _ hk => hk.2) (.int .i64 ((rd_T20174 x5_ x104_4).f1.f0))) (fun _ hk => hk.2) (.int .i64 ((rd_T20174 x5_ x104_4).f1.f1))) (fun _ hk => hk.2) (.slice A141_3 ((rd_T20174 x5_ x104_4).f1.f2).length c141_3)) (fun _ hk => hk.2) (.int .i64 ((rd_T20174 x5_ x104_4).f1.f3.f0))) (fun _ hk => hk.2) (.int .i64 ((rd_T20174 x5_ x104_4).f1.f3.f1))) (fun _ hk => trivial)))⟩;have n1_:Aside0 (Kd.S k20174 47 w130 w.heap.size (fun _ => True) (.slice (some ad141) x5_.length co115) x5_):=⟨(by rw [hw];exact (by (with_reducible repeat (first | apply Kd.S_alloc | apply Kd.S_drewN | apply Kd.S_drew));exact Kd.S_mono (Kd.S_far (p:=⟨gb142,5,none⟩) (Kd.S_far (p:=⟨gb142,4,none⟩) (Kd.S_far (p:=⟨gb142,3,none⟩) (Kd.S_far (p:=⟨gb142,2,none⟩) (Kd.S_far (p:=⟨gb142,1,none⟩) (Kd.S_far (p:=⟨gb142,0,none⟩) HO_120001.out (fun _ hk => hk.2) (.int .i64 ((rd_T20174 x5_ x104_4).f0))) (fun _ hk => hk.2) (.int .i64 ((rd_T20174 x5_ x104_4).f1.f0))) (fun _ hk => hk.2) (.int .i64 ((rd_T20174 x5_ x104_4).f1.f1))) (fun _ hk => hk.2) (.slice A141_3 ((rd_T20174 x5_ x104_4).f1.f2).length c141_3)) (fun _ hk => hk.2) (.int .i64 ((rd_T20174 x5_ x104_4).f1.f3.f0))) (fun _ hk => hk.2) (.int .i64 ((rd_T20174 x5_ x104_4).f1.f3.f1))) (fun _ hk => trivial)))⟩;have n2_:Aside0 (Kd.R k95 103 w130 w.heap.size (fun k_ => some k_ ≠ (.slice (some ad141) x5_.length co115:Value).ownBlock) (.slice A141_3 ((rd_T20174 x5_ x104_4).f1.f2).length c141_3) ((rd_T20174 x5_ x104_4).f1.f2)):=⟨(by rw [hw];exact (by (with_reducible repeat (first | apply Kd.R_alloc | apply Kd.R_drewN | apply Kd.R_drew));exact Kd.R_mono (Kd.R_far (p:=⟨gb142,5,none⟩) (Kd.R_far (p:=⟨gb142,4,none⟩) (Kd.R_far (p:=⟨gb142,3,none⟩) (Kd.R_far (p:=⟨gb142,2,none⟩) (Kd.R_far (p:=⟨gb142,1,none⟩) (Kd.R_far (p:=⟨gb142,0,none⟩) (Kd.R_types HL141_3.out BK142.out (by decide)) (fun _ hk => hk.2) (.int .i64 ((rd_T20174 x5_ x104_4).f0))) (fun _ hk => hk.2) (.int .i64 ((rd_T20174 x5_ x104_4).f1.f0))) (fun _ hk => hk.2) (.int .i64 ((rd_T20174 x5_ x104_4).f1.f1))) (fun _ hk => hk.2) (.slice A141_3 ((rd_T20174 x5_ x104_4).f1.f2).length c141_3)) (fun _ hk => hk.2) (.int .i64 ((rd_T20174 x5_ x104_4).f1.f3.f0))) (fun _ hk => hk.2) (.int .i64 ((rd_T20174 x5_ x104_4).f1.f3.f1))) (fun _ hk => hk.1.2)))⟩;have n3_:Aside0 (w130.heap[gb111]?=some (.cells #[.int .i64 a0] 3 (0,0))):=⟨(by rw [hw];exact (by (refine st ?_);refine blk_far ?_ NB111_142.out _;(refine st ?_);refine blk_far ?_ NB111_142.out _;(refine st ?_);refine blk_far ?_ NB111_142.out _;(refine st ?_);refine blk_far ?_ NB111_142.out _;(refine st ?_);refine blk_far ?_ NB111_142.out _;(refine st ?_);refine blk_far ?_ NB111_142.out _;(refine st ?_);exact BK111.out))⟩;have n4_:Aside0 (w130.heap[gb112]?=some (.cells #[.int .i64 x113000_4,.slice none 0 0] 24 (0,0))):=⟨(by rw [hw];exact (by (refine st ?_);refine blk_far ?_ NB112_142.out _;(refine st ?_);refine blk_far ?_ NB112_142.out _;(refine st ?_);refine blk_far ?_ NB112_142.out _;(refine st ?_);refine blk_far ?_ NB112_142.out _;(refine st ?_);refine blk_far ?_ NB112_142.out _;(refine st ?_);refine blk_far ?_ NB112_142.out _;(refine st ?_);exact BK112.out))⟩;have n5_:Aside0 (w130.heap[gb119]?=some (.cells #[.int .i64 0,.slice (some ad141) x5_.length co115] 24 (0,0))):=⟨(by rw [hw];exact (by (refine st ?_);refine blk_far ?_ NB119_142.out _;(refine st ?_);refine blk_far ?_ NB119_142.out _;(refine st ?_);refine blk_far ?_ NB119_142.out _;(refine st ?_);refine blk_far ?_ NB119_142.out _;(refine st ?_);refine blk_far ?_ NB119_142.out _;(refine st ?_);refine blk_far ?_ NB119_142.out _;(refine st ?_);exact BK119.out))⟩;have n6_:Aside0 (w130.heap[gb142]?=some (.cells #[.int .i64 ((rd_T20174 x5_ x104_4).f0),.int .i64 ((rd_T20174 x5_ x104_4).f1.f0),.int .i64 ((rd_T20174 x5_ x104_4).f1.f1),.slice A141_3 ((rd_T20174 x5_ x104_4).f1.f2).length c141_3,.int .i64 ((rd_T20174 x5_ x104_4).f1.f3.f0),.int .i64 ((rd_T20174 x5_ x104_4).f1.f3.f1)] 47 (0,0))):=⟨(by rw [hw];exact (by (refine st ?_);refine blk_put (cs:=#[.int .i64 ((rd_T20174 x5_ x104_4).f0),.int .i64 ((rd_T20174 x5_ x104_4).f1.f0),.int .i64 ((rd_T20174 x5_ x104_4).f1.f1),.slice A141_3 ((rd_T20174 x5_ x104_4).f1.f2).length c141_3,.int .i64 ((rd_T20174 x5_ x104_4).f1.f3.f0),.int .i64 0]) ?_ 5 _ rfl;(refine st ?_);refine blk_put (cs:=#[.int .i64 ((rd_T20174 x5_ x104_4).f0),.int .i64 ((rd_T20174 x5_ x104_4).f1.f0),.int .i64 ((rd_T20174 x5_ x104_4).f1.f1),.slice A141_3 ((rd_T20174 x5_ x104_4).f1.f2).length c141_3,.int .i64 0,.int .i64 0]) ?_ 4 _ rfl;(refine st ?_);refine blk_put (cs:=#[.int .i64 ((rd_T20174 x5_ x104_4).f0),.int .i64 ((rd_T20174 x5_ x104_4).f1.f0),.int .i64 ((rd_T20174 x5_ x104_4).f1.f1),.slice none 0 0,.int .i64 0,.int .i64 0]) ?_ 3 _ rfl;(refine st ?_);refine blk_put (cs:=#[.int .i64 ((rd_T20174 x5_ x104_4).f0),.int .i64 ((rd_T20174 x5_ x104_4).f1.f0),.int .i64 0,.slice none 0 0,.int .i64 0,.int .i64 0]) ?_ 2 _ rfl;(refine st ?_);refine blk_put (cs:=#[.int .i64 ((rd_T20174 x5_ x104_4).f0),.int .i64 0,.int .i64 0,.slice none 0 0,.int .i64 0,.int .i64 0]) ?_ 1 _ rfl;(refine st ?_);refine blk_put (cs:=#[.int .i64 0,.int .i64 0,.int .i64 0,.slice none 0 0,.int .i64 0,.int .i64 0]) ?_ 0 _ rfl;(refine st ?_);exact BK142.out))⟩;have n7_:Aside0 (Below w.heap.size w w130):=⟨(by rw [hw];exact bx)⟩;clear hw HO_102 HO_120001 HL141_3 BK111 BK112 BK119 BK142 HB;have HO_102:=n0_;have HO_120001:=n1_;have HL141_3:=n2_;have BK111:=n3_;have BK112:=n4_;have BK119:=n5_;have BK142:=n6_;have HB:=n7_;clear n0_ n1_ n2_ n3_ n4_ n5_ n6_ n7_;obtain ⟨hcz131_0,hcz131_1,hcz131_2,hcz131_3,hcz131_4,hcz131_5,hfz131_0,hfz131_1,hfz131_2,hfz131_3,hfz131_4,hfz131_5⟩:=cb6 BK142.out;have hnb132:=NB111_112.out;have hnc132:=NB112_111.out;have hnb133:=NB111_119.out;have hnc133:=NB119_111.out;obtain ⟨hcz134_0,hfz134_0⟩:=cb1 BK111.out) | ((with_reducible refine gate_callee (f:=51) rfl ?_);refine goesL_ (some 113) rfl rfl Tryz.func51 kr rfl #[.int .i64 ((rd_T20174 x5_ x104_4).f0),.int .i64 a0] rfl ag ?_;(with_reducible refine (productT.calls ((rd_T20174 x5_ x104_4).f0) a0 t143 true _ A119.out).mono ?_);rintro e w' ⟨rfl,⟨nd,rfl⟩⟩;refine ⟨_,rfl,?_⟩;(try (rw [drewN_self w130];generalize hq_:World.drewN w130 _=w130;have n0_:Aside0 (Kd.R k95 103 w130 w.heap.size (fun k_ => some k_ ≠ (.slice (some ad141) x5_.length co115:Value).ownBlock) (.slice A141_3 ((rd_T20174 x5_ x104_4).f1.f2).length c141_3) ((rd_T20174 x5_ x104_4).f1.f2)):=⟨by rw [← hq_];exact (rx HL141_3)⟩;have n1_:Aside0 (Kd.S k20174 47 w130 w.heap.size (fun _ => True) (.slice (some ad141) x5_.length co115) x5_):=⟨by rw [← hq_];exact (sx HO_102)⟩;have n2_:Aside0 (Kd.S k20174 47 w130 w.heap.size (fun _ => True) (.slice (some ad141) x5_.length co115) x5_):=⟨by rw [← hq_];exact (sx HO_120001)⟩;have n3_:Aside0 (w130.heap[gb111]?=some (.cells #[.int .i64 a0] 3 (0,0))):=⟨by rw [← hq_];exact (bk BK111)⟩;have n4_:Aside0 (w130.heap[gb112]?=some (.cells #[.int .i64 x113000_4,.slice none 0 0] 24 (0,0))):=⟨by rw [← hq_];exact (bk BK112)⟩;have n5_:Aside0 (w130.heap[gb119]?=some (.cells #[.int .i64 0,.slice (some ad141) x5_.length co115] 24 (0,0))):=⟨by rw [← hq_];exact (bk BK119)⟩;have n6_:Aside0 (w130.heap[gb142]?=some (.cells #[.int .i64 ((rd_T20174 x5_ x104_4).f0),.int .i64 ((rd_T20174 x5_ x104_4).f1.f0),.int .i64 ((rd_T20174 x5_ x104_4).f1.f1),.slice A141_3 ((rd_T20174 x5_ x104_4).f1.f2).length c141_3,.int .i64 ((rd_T20174 x5_ x104_4).f1.f3.f0),.int .i64 ((rd_T20174 x5_ x104_4).f1.f3.f1)] 47 (0,0))):=⟨by rw [← hq_];exact (bk BK142)⟩;have n7_:Aside0 (Below w.heap.size w w130):=⟨by rw [← hq_];exact bx⟩;clear HL141_3 HO_102 HO_120001 BK111 BK112 BK119 BK142 HB HR141_3 hq_;have HL141_3:=n0_;have HO_102:=n1_;have HO_120001:=n2_;have BK111:=n3_;have BK112:=n4_;have BK119:=n5_;have BK142:=n6_;have HB:=n7_;have HR141_3:=ak trivial;clear n0_ n1_ n2_ n3_ n4_ n5_ n6_ n7_))) | (go_at_call 44;(with_reducible refine (ask_isCoef.calls t143 true _ A121.out).mono ?_);rintro e w' ⟨rfl,⟨nd,rfl⟩⟩;(try (rw [drewN_self w130];generalize hq_:World.drewN w130 _=w130;have n0_:Aside0 (Kd.R k95 103 w130 w.heap.size (fun k_ => some k_ ≠ (.slice (some ad141) x5_.length co115:Value).ownBlock) (.slice A141_3 ((rd_T20174 x5_ x104_4).f1.f2).length c141_3) ((rd_T20174 x5_ x104_4).f1.f2)):=⟨by rw [← hq_];exact (rx HL141_3)⟩;have n1_:Aside0 (Kd.S k20174 47 w130 w.heap.size (fun _ => True) (.slice (some ad141) x5_.length co115) x5_):=⟨by rw [← hq_];exact (sx HO_102)⟩;have n2_:Aside0 (Kd.S k20174 47 w130 w.heap.size (fun _ => True) (.slice (some ad141) x5_.length co115) x5_):=⟨by rw [← hq_];exact (sx HO_120001)⟩;have n3_:Aside0 (w130.heap[gb111]?=some (.cells #[.int .i64 a0] 3 (0,0))):=⟨by rw [← hq_];exact (bk BK111)⟩;have n4_:Aside0 (w130.heap[gb112]?=some (.cells #[.int .i64 x113000_4,.slice none 0 0] 24 (0,0))):=⟨by rw [← hq_];exact (bk BK112)⟩;have n5_:Aside0 (w130.heap[gb119]?=some (.cells #[.int .i64 0,.slice (some ad141) x5_.length co115] 24 (0,0))):=⟨by rw [← hq_];exact (bk BK119)⟩;have n6_:Aside0 (w130.heap[gb142]?=some (.cells #[.int .i64 ((rd_T20174 x5_ x104_4).f0),.int .i64 ((rd_T20174 x5_ x104_4).f1.f0),.int .i64 ((rd_T20174 x5_ x104_4).f1.f1),.slice A141_3 ((rd_T20174 x5_ x104_4).f1.f2).length c141_3,.int .i64 ((rd_T20174 x5_ x104_4).f1.f3.f0),.int .i64 ((rd_T20174 x5_ x104_4).f1.f3.f1)] 47 (0,0))):=⟨by rw [← hq_];exact (bk BK142)⟩;have n7_:Aside0 (Below w.heap.size w w130):=⟨by rw [← hq_];exact bx⟩;clear HL141_3 HO_102 HO_120001 BK111 BK112 BK119 BK142 HB HR141_3 hq_;have HL141_3:=n0_;have HO_102:=n1_;have HO_120001:=n2_;have BK111:=n3_;have BK112:=n4_;have BK119:=n5_;have BK142:=n6_;have HB:=n7_;have HR141_3:=ak trivial;clear n0_ n1_ n2_ n3_ n4_ n5_ n6_ n7_));have hnb135:=NB119_112.out;have hnc135:=NB112_119.out;obtain ⟨hcz136_0,hcz136_1,hfz136_0,hfz136_1⟩:=cb2 BK119.out;have p124:0 ≤ (x104_4:Int):=of_decide_eq_true asm;have q124:(x104_4:Int) < ((x5_.length:Int):Int):=of_decide_eq_true asm;obtain ⟨go124,co124,eo124,gb124,gl124,cl124,HG124⟩:=Kd.S_form HO_120001.out (by omega);(first | cases eo124 | (injection eo124 with ea_ en_ ec_;(first | subst ea_ | (injection ea_ with ea_;subst ea_));subst ec_;clear en_));have GB124:=ak gb124;have GG124:=ak HG124;clear gb124 gl124 HG124;(first | simp only [add_plain] at hx141_0 | skip);(first | simp only [add_plain] at hx141_1 | skip);(first | simp only [add_plain] at hx141_2 | skip);(first | simp only [add_plain] at hx141_3 | skip);(first | simp only [add_plain] at hx141_4 | skip);(first | simp only [add_plain] at hx141_5 | skip);obtain ⟨_,ce124,hcl124,hM124,hcc124,hfr124,_,_⟩:=Kd.S_elem HO_120001.out z20174 (x104_4:Int) p124 q124;obtain ⟨ve124_3,rfl,ge124_3⟩:=k20174_openM hM124;have hx124_0:w130.cell? ⟨go124,(x104_4:Int).toNat * 6,none⟩=some (.int .i64 ((rd_T20174 x5_ x104_4).f0)):=hcc124 0 _ rfl;have hx124_1:w130.cell? ⟨go124,(x104_4:Int).toNat * 6 + 1,none⟩=some (.int .i64 ((rd_T20174 x5_ x104_4).f1.f0)):=hcc124 1 _ rfl;have hx124_2:w130.cell? ⟨go124,(x104_4:Int).toNat * 6 + 2,none⟩=some (.int .i64 ((rd_T20174 x5_ x104_4).f1.f1)):=hcc124 2 _ rfl;have hx124_3:w130.cell? ⟨go124,(x104_4:Int).toNat * 6 + 3,none⟩=some (ve124_3):=hcc124 3 _ rfl;have hx124_4:w130.cell? ⟨go124,(x104_4:Int).toNat * 6 + 4,none⟩=some (.int .i64 ((rd_T20174 x5_ x104_4).f1.f3.f0)):=hcc124 4 _ rfl;have hx124_5:w130.cell? ⟨go124,(x104_4:Int).toNat * 6 + 5,none⟩=some (.int .i64 ((rd_T20174 x5_ x104_4).f1.f3.f1)):=hcc124 5 _ rfl;have hf124_0:w130.frozen? ⟨go124,(x104_4:Int).toNat * 6,none⟩=false:=hfr124 0;have hf124_1:w130.frozen? ⟨go124,(x104_4:Int).toNat * 6 + 1,none⟩=false:=hfr124 1;have hf124_2:w130.frozen? ⟨go124,(x104_4:Int).toNat * 6 + 2,none⟩=false:=hfr124 2;have hf124_3:w130.frozen? ⟨go124,(x104_4:Int).toNat * 6 + 3,none⟩=false:=hfr124 3;have hf124_4:w130.frozen? ⟨go124,(x104_4:Int).toNat * 6 + 4,none⟩=false:=hfr124 4;have hf124_5:w130.frozen? ⟨go124,(x104_4:Int).toNat * 6 + 5,none⟩=false:=hfr124 5;clear hcl124 hcc124 hfr124 hM124;replace p124:=eq_true p124;replace q124:=eq_true q124;have HX137:=ak (show Kd.S k20174 47 w130 w.heap.size (fun k_ => ((fun _ => True)) k_∧¬ ((fun _ => False)) k_) (.slice (some ⟨go124,0,none⟩) x5_.length co115) x5_ from (by (with_reducible repeat (first | apply Kd.S_alloc | apply Kd.S_drewN | apply Kd.S_drew));exact Kd.S_mono HO_120001.out (fun k_ hk => ⟨trivial,fun e_ => e_⟩)));obtain ⟨oki137,ce137,hcl137,hM137,hcc137,hfr137,hoki137,hH137⟩:=Kd.S_elem HX137.out z20174 (x104_4:Int) (of_decide_eq_true asm) (by have h_:(x104_4:Int) < ((x5_.length:Int):Int):=of_decide_eq_true asm;first | exact h_ | (have e_:=(Kd.S_reads' HO_120001.out).1;omega) | simpa using h_);obtain ⟨ve137_3,rfl,ge137_3⟩:=k20174_openM hM137;have HP137:=Kd.S_seg hH137 (of_decide_eq_true asm) (by have h_:(x104_4:Int) < ((x5_.length:Int):Int):=of_decide_eq_true asm;first | exact h_ | (have e_:=(Kd.S_reads' HO_120001.out).1;omega) | simpa using h_) (seg:=[.int .i64 t143]) (j:=0) (show 1 ≤ 6 from by decide) (x':=(⟨t143,(⟨(rd_T20174 x5_ x104_4).f1.f0,(rd_T20174 x5_ x104_4).f1.f1,(rd_T20174 x5_ x104_4).f1.f2,(⟨(rd_T20174 x5_ x104_4).f1.f3.f0,(rd_T20174 x5_ x104_4).f1.f3.f1⟩:S58)⟩:S20172)⟩:S20174)) (k20174_mkM _ _ _ (⟨t143,(⟨(rd_T20174 x5_ x104_4).f1.f0,(rd_T20174 x5_ x104_4).f1.f1,(rd_T20174 x5_ x104_4).f1.f2,(⟨(rd_T20174 x5_ x104_4).f1.f3.f0,(rd_T20174 x5_ x104_4).f1.f3.f1⟩:S58)⟩:S20172)⟩:S20174) (Kd.R_mono ge137_3 (fun _ h_ => Or.inl h_))) (fun _ hk => hk) (fun k_ hk_ => hk_.elim);have hx137_0:=hcc137 0 _ rfl;(try simp only [show (k20174).sz=6 from rfl,Nat.mul_one,Nat.add_zero] at hx137_0);have hf137_0:=hfr137 0;(try simp only [show (k20174).sz=6 from rfl,Nat.mul_one,Nat.add_zero] at hf137_0);clear hcl137 hcc137 hfr137 hM137 hoki137 hH137) | ((with_reducible refine gate_store (t:=3) (p:=129) rfl ?_);refine store_event (t:=3) (p:=129) (v:=?vo_w138) (w1:=(w130.setCell ⟨go124,(x104_4:Int).toNat * 6,none⟩ (.int .i64 t143))) ?hg ?ho ?hn ?hr ?_;(case ho => rfl);(case hg => rfl);(case hn => rfl);(case hr => first | (go_simp;done) | (go_simp;rfl));intro w138 hw;have hg:w130.grownBy w138 (some go124):=(by rw [hw];exact HP137.2);have hp_:Kd.S k20174 47 w138 w.heap.size (fun _ => True) (.slice (some ⟨go124,0,none⟩) x5_.length co115) y146:=(by rw [hw,Ny146.out];exact HP137.1);clear HP137;have n0_:=ak (hp_);have n1_:=ak (hp_);have n2_:=ak (blk_grown (g:=gb111) (o:=.cells #[.int .i64 a0] 3 (0,0)) (bk BK111) hg (Kd.S_ne HO_120001.out BK111.out (by decide)));have n3_:=ak (blk_grown (g:=gb112) (o:=.cells #[.int .i64 x113000_4,.slice none 0 0] 24 (0,0)) (bk BK112) hg (Kd.S_ne HO_120001.out BK112.out (by decide)));have n4_:=ak (blk_grown (g:=gb119) (o:=.cells #[.int .i64 0,.slice (some ⟨go124,0,none⟩) x5_.length co115] 24 (0,0)) (bk BK119) hg (Kd.S_ne HO_120001.out BK119.out (by decide)));have n5_:=ak trivial;have n6_:=ak trivial;have n7_:=ak ((by rw [hw];exact below_set (HB.out) GB124.out:Below w.heap.size w w138));clear HO_102 HO_120001 BK111 BK112 BK119 HL141_3 BK142 HB;have HO_102:=n0_;have HO_120001:=n1_;have BK111:=n2_;have BK112:=n3_;have BK119:=n4_;have HL141_3:=n5_;have BK142:=n6_;have HB:=n7_;clear n0_ n1_ n2_ n3_ n4_ n5_ n6_ n7_;clear hg hw hp_))
                  go_roundg k4
                  case measure => have:=HK1.out;have:=HK2.out;have:=HJ99.out;have:=HK4.out;omega
                  case rel => exact ⟨(wrap64 (x104_4 + 1)),(x113000_4),y146,xd5_,⟨by rw [Ny146.out,List.length_set]⟩,rf,H',⟨by have:=HK1.out;have:=HK2.out;have:=HJ99.out;have:=HK4.out;omega⟩,⟨by (try simp only [hl37_2]);(with_reducible repeat (first | apply Kd.S_alloc | apply Kd.S_drewN | apply Kd.S_drew));exact HO_120001.out⟩,⟨by (try simp only [hl37_2]);(refine st ?_);exact BK111.out⟩,⟨by (try simp only [hl37_2]);(refine st ?_);exact BK112.out⟩,⟨by (try simp only [hl37_2]);(refine st ?_);exact BK119.out⟩,⟨bx⟩⟩
                 ·
                  rw [if_neg c123] at H
                  exact absurd H (by simp)
                ·
                 replace c122:=Bool.eq_false_iff.mpr c122
                 subst c122
                 have H1:(some (0,([]:List (S20174)),3))=some (r1,r2,r3):=by rw [if_neg (show ¬ (false=true) by decide)] at H;exact H
                 clear H
                 have H:=H1
                 clear H1
                 simp only [Option.some.injEq,Prod.mk.injEq] at H
                 obtain ⟨rfl,rfl,rfl⟩:=H
                 have p141:0 ≤ (x104_4:Int):=of_decide_eq_true asm
                 have q141:x104_4 < (x5_.length:Int):=of_decide_eq_true asm
                 obtain ⟨ad141,A141_3,c141_3,e141,hx141_0,hx141_1,hx141_2,hx141_3,hx141_4,hx141_5,hl141_3,hi141_3⟩:=at_T20174 (Kd.S_reads' HO_102.out).2.2 x104_4 p141 q141
                 cases e141
                 obtain ⟨ce141,hce141,hMe141,hcc141⟩:=Kd.S_get HO_102.out z20174 x104_4 p141 (by first | exact q141 | exact of_decide_eq_true asm | (have e_:=(Kd.S_reads' HO_102.out).1;omega))
                 obtain ⟨ve141_3,rfl,ge141_3⟩:=k20174_openM hMe141
                 have hv141_3:=hcc141 3 _ rfl
                 rw [add_field _ _ 3 (by omega)] at hv141_3
                 replace hv141_3:=Option.some.inj (hv141_3.symm.trans hx141_3)
                 rw [hv141_3] at ge141_3
                 have HL141_3:=ak (show Kd.R k95 103 _ _ _ _ ((rd_T20174 x5_ x104_4).f1.f2) from ge141_3)
                 clear hv141_3 ge141_3
                 clear hcc141 hce141
                 have HR141_3:=ak hi141_3
                 have HC141_3:=ak hl141_3
                 clear hi141_3 hl141_3
                 replace p141:=eq_true p141
                 replace q141:=eq_true q141
                 go_wp2_with (first | ((with_reducible refine gate_dst (N:=15) rfl ?_);refine box_event ?hg (N:=15) ?hd (cs:=#[.int .i64 0,.int .i64 0,.int .i64 0,.slice none 0 0,.int .i64 0,.int .i64 0]) (t:=47) ?hr ?_;(case hd => rfl);(case hg => rfl);(case hr => first | (go_simp;done) | (go_simp;rfl));intro gb142 hg w139 hbox hb;have n0_:=ak (Kd.S_below (sx HO_102) hb);have n1_:=ak (Kd.S_below (sx HO_120001) hb);have n2_:=ak (Kd.R_below (rx HL141_3) hb);have n3_:=bB BK111 hb;have n4_:=bB BK112 hb;have n5_:=bB BK119 hb;have n6_:=ak (Kd.C_below (cx HR141_3) hb);have n7_:=ak (below_step bx hb);have n8_:=ak (hbox);have n9_:=ak ((by rw [hg];exact (below_size bx):w.heap.size ≤ gb142));have n10_:=ak ((by rw [hg];exact (below_size bx):w.heap.size ≤ gb142));have n11_:=ak ((by rw [hg];exact Nat.ne_of_lt (blk_lt (g:=gb111) (o:=.cells #[.int .i64 a0] 3 (0,0)) (bk BK111)):gb111 ≠ gb142));have n12_:=ak ((by rw [hg];exact Nat.ne_of_gt (blk_lt (g:=gb111) (o:=.cells #[.int .i64 a0] 3 (0,0)) (bk BK111)):gb142 ≠ gb111));have n13_:=ak ((by rw [hg];exact Nat.ne_of_lt (blk_lt (g:=gb112) (o:=.cells #[.int .i64 x113000_4,.slice none 0 0] 24 (0,0)) (bk BK112)):gb112 ≠ gb142));have n14_:=ak ((by rw [hg];exact Nat.ne_of_gt (blk_lt (g:=gb112) (o:=.cells #[.int .i64 x113000_4,.slice none 0 0] 24 (0,0)) (bk BK112)):gb142 ≠ gb112));have n15_:=ak ((by rw [hg];exact Nat.ne_of_lt (blk_lt (g:=gb119) (o:=.cells #[.int .i64 0,.slice (some ad141) x5_.length co115] 24 (0,0)) (bk BK119)):gb119 ≠ gb142));have n16_:=ak ((by rw [hg];exact Nat.ne_of_gt (blk_lt (g:=gb119) (o:=.cells #[.int .i64 0,.slice (some ad141) x5_.length co115] 24 (0,0)) (bk BK119)):gb142 ≠ gb119));clear HO_102 HO_120001 HL141_3 BK111 BK112 BK119 HR141_3 HB;have HO_102:=n0_;have HO_120001:=n1_;have HL141_3:=n2_;have BK111:=n3_;have BK112:=n4_;have BK119:=n5_;have HR141_3:=n6_;have HB:=n7_;have BK142:=n8_;have GW142:=n9_;have GE142:=n10_;have NB111_142:=n11_;have NB142_111:=n12_;have NB112_142:=n13_;have NB142_112:=n14_;have NB119_142:=n15_;have NB142_119:=n16_;clear n0_ n1_ n2_ n3_ n4_ n5_ n6_ n7_ n8_ n9_ n10_ n11_ n12_ n13_ n14_ n15_ n16_;clear hb hbox hg;have hnb140:=NB142_111.out;have hnc140:=NB111_142.out;have hnb141:=NB142_112.out;have hnc141:=NB112_142.out;have hnb142:=NB142_119.out;have hnc142:=NB119_142.out;obtain ⟨hcz143_0,hcz143_1,hcz143_2,hcz143_3,hcz143_4,hcz143_5,hfz143_0,hfz143_1,hfz143_2,hfz143_3,hfz143_4,hfz143_5⟩:=cb6 BK142.out;have hnb144:=NB111_112.out;have hnc144:=NB112_111.out;have hnb145:=NB111_119.out;have hnc145:=NB119_111.out;obtain ⟨hcz146_0,hfz146_0⟩:=cb1 BK111.out) | ((with_reducible refine gate_callee (f:=51) rfl ?_);refine goesL_ (some 113) rfl rfl Tryz.func51 kr rfl #[.int .i64 ((rd_T20174 x5_ x104_4).f0),.int .i64 a0] rfl ag ?_;(with_reducible refine (productT.calls ((rd_T20174 x5_ x104_4).f0) a0 t143 true _ A119.out).mono ?_);rintro e w' ⟨rfl,⟨nd,rfl⟩⟩;refine ⟨_,rfl,?_⟩) | (go_at_call 44;(with_reducible refine (ask_isCoef.calls t143 false _ A121.out).mono ?_);rintro e w' ⟨rfl,⟨nd,rfl⟩⟩;have hnb147:=NB112_119.out;have hnc147:=NB119_112.out;obtain ⟨hcz148_0,hcz148_1,hfz148_0,hfz148_1⟩:=cb2 BK112.out))
                 refine bodyPost_ret (results_ct rfl _ _ gb112 24 #[.int .i64 0,.slice none 0 0] (0,0) _ rfl (by (refine st ?_);refine blk_put (cs:=#[.int .i64 0,.slice none 0 0]) ?_ 1 _ rfl;(refine st ?_);refine blk_put (cs:=#[.int .i64 x113000_4,.slice none 0 0]) ?_ 0 _ rfl;(refine st ?_);refine blk_far ?_ NB112_142.out _;(refine st ?_);refine blk_far ?_ NB112_142.out _;(refine st ?_);refine blk_far ?_ NB112_142.out _;(refine st ?_);refine blk_far ?_ NB112_142.out _;(refine st ?_);refine blk_far ?_ NB112_142.out _;(refine st ?_);refine blk_far ?_ NB112_142.out _;(refine st ?_);exact BK112.out) Tryz.underlying24 rfl kr) rfl ?_
                 exact ⟨_,by first | rfl | (simp [errW_none,errW_some] <;> rfl) | (simp [*,errW_none,errW_some] <;> rfl),by first | exact Kd.S_nil _ _ _ _ _ | exact Kd.N_nil _ _ _ _ _ | exact Kd.V_nil _ _ _ _ _ | exact Kd.Q_nil _ _ _ _ _ | exact Kd.R_nil _ _ _ _ _,bx⟩
               ·
                replace c120:=Bool.eq_false_iff.mpr c120
                subst c120
                have H1:(some (0,([]:List (S20174)),3))=some (r1,r2,r3):=by rw [if_neg (show ¬ (false=true) by decide)] at H;exact H
                clear H
                have H:=H1
                clear H1
                simp only [Option.some.injEq,Prod.mk.injEq] at H
                obtain ⟨rfl,rfl,rfl⟩:=H
                have p141:0 ≤ (x104_4:Int):=of_decide_eq_true asm
                have q141:x104_4 < (x5_.length:Int):=of_decide_eq_true asm
                obtain ⟨ad141,A141_3,c141_3,e141,hx141_0,hx141_1,hx141_2,hx141_3,hx141_4,hx141_5,hl141_3,hi141_3⟩:=at_T20174 (Kd.S_reads' HO_102.out).2.2 x104_4 p141 q141
                cases e141
                obtain ⟨ce141,hce141,hMe141,hcc141⟩:=Kd.S_get HO_102.out z20174 x104_4 p141 (by first | exact q141 | exact of_decide_eq_true asm | (have e_:=(Kd.S_reads' HO_102.out).1;omega))
                obtain ⟨ve141_3,rfl,ge141_3⟩:=k20174_openM hMe141
                have hv141_3:=hcc141 3 _ rfl
                rw [add_field _ _ 3 (by omega)] at hv141_3
                replace hv141_3:=Option.some.inj (hv141_3.symm.trans hx141_3)
                rw [hv141_3] at ge141_3
                have HL141_3:=ak (show Kd.R k95 103 _ _ _ _ ((rd_T20174 x5_ x104_4).f1.f2) from ge141_3)
                clear hv141_3 ge141_3
                clear hcc141 hce141
                have HR141_3:=ak hi141_3
                have HC141_3:=ak hl141_3
                clear hi141_3 hl141_3
                replace p141:=eq_true p141
                replace q141:=eq_true q141
                go_wp2_with (first | ((with_reducible refine gate_dst (N:=15) rfl ?_);refine box_event ?hg (N:=15) ?hd (cs:=#[.int .i64 0,.int .i64 0,.int .i64 0,.slice none 0 0,.int .i64 0,.int .i64 0]) (t:=47) ?hr ?_;(case hd => rfl);(case hg => rfl);(case hr => first | (go_simp;done) | (go_simp;rfl));intro gb142 hg w149 hbox hb;have n0_:=ak (Kd.S_below (sx HO_102) hb);have n1_:=ak (Kd.S_below (sx HO_120001) hb);have n2_:=ak (Kd.R_below (rx HL141_3) hb);have n3_:=bB BK111 hb;have n4_:=bB BK112 hb;have n5_:=bB BK119 hb;have n6_:=ak (Kd.C_below (cx HR141_3) hb);have n7_:=ak (below_step bx hb);have n8_:=ak (hbox);have n9_:=ak ((by rw [hg];exact (below_size bx):w.heap.size ≤ gb142));have n10_:=ak ((by rw [hg];exact (below_size bx):w.heap.size ≤ gb142));have n11_:=ak ((by rw [hg];exact Nat.ne_of_lt (blk_lt (g:=gb111) (o:=.cells #[.int .i64 a0] 3 (0,0)) (bk BK111)):gb111 ≠ gb142));have n12_:=ak ((by rw [hg];exact Nat.ne_of_gt (blk_lt (g:=gb111) (o:=.cells #[.int .i64 a0] 3 (0,0)) (bk BK111)):gb142 ≠ gb111));have n13_:=ak ((by rw [hg];exact Nat.ne_of_lt (blk_lt (g:=gb112) (o:=.cells #[.int .i64 x113000_4,.slice none 0 0] 24 (0,0)) (bk BK112)):gb112 ≠ gb142));have n14_:=ak ((by rw [hg];exact Nat.ne_of_gt (blk_lt (g:=gb112) (o:=.cells #[.int .i64 x113000_4,.slice none 0 0] 24 (0,0)) (bk BK112)):gb142 ≠ gb112));have n15_:=ak ((by rw [hg];exact Nat.ne_of_lt (blk_lt (g:=gb119) (o:=.cells #[.int .i64 0,.slice (some ad141) x5_.length co115] 24 (0,0)) (bk BK119)):gb119 ≠ gb142));have n16_:=ak ((by rw [hg];exact Nat.ne_of_gt (blk_lt (g:=gb119) (o:=.cells #[.int .i64 0,.slice (some ad141) x5_.length co115] 24 (0,0)) (bk BK119)):gb142 ≠ gb119));clear HO_102 HO_120001 HL141_3 BK111 BK112 BK119 HR141_3 HB;have HO_102:=n0_;have HO_120001:=n1_;have HL141_3:=n2_;have BK111:=n3_;have BK112:=n4_;have BK119:=n5_;have HR141_3:=n6_;have HB:=n7_;have BK142:=n8_;have GW142:=n9_;have GE142:=n10_;have NB111_142:=n11_;have NB142_111:=n12_;have NB112_142:=n13_;have NB142_112:=n14_;have NB119_142:=n15_;have NB142_119:=n16_;clear n0_ n1_ n2_ n3_ n4_ n5_ n6_ n7_ n8_ n9_ n10_ n11_ n12_ n13_ n14_ n15_ n16_;clear hb hbox hg;have hnb150:=NB142_111.out;have hnc150:=NB111_142.out;have hnb151:=NB142_112.out;have hnc151:=NB112_142.out;have hnb152:=NB142_119.out;have hnc152:=NB119_142.out;obtain ⟨hcz153_0,hcz153_1,hcz153_2,hcz153_3,hcz153_4,hcz153_5,hfz153_0,hfz153_1,hfz153_2,hfz153_3,hfz153_4,hfz153_5⟩:=cb6 BK142.out;have hnb154:=NB111_112.out;have hnc154:=NB112_111.out;have hnb155:=NB111_119.out;have hnc155:=NB119_111.out;obtain ⟨hcz156_0,hfz156_0⟩:=cb1 BK111.out) | ((with_reducible refine gate_callee (f:=51) rfl ?_);refine goesL_ (some 113) rfl rfl Tryz.func51 kr rfl #[.int .i64 ((rd_T20174 x5_ x104_4).f0),.int .i64 a0] rfl ag ?_;(with_reducible refine (productT.calls ((rd_T20174 x5_ x104_4).f0) a0 t143 false _ A119.out).mono ?_);rintro e w' ⟨rfl,⟨nd,rfl⟩⟩;refine ⟨_,rfl,?_⟩;have hnb157:=NB112_119.out;have hnc157:=NB119_112.out;obtain ⟨hcz158_0,hcz158_1,hfz158_0,hfz158_1⟩:=cb2 BK112.out))
                refine bodyPost_ret (results_ct rfl _ _ gb112 24 #[.int .i64 0,.slice none 0 0] (0,0) _ rfl (by (refine st ?_);refine blk_put (cs:=#[.int .i64 0,.slice none 0 0]) ?_ 1 _ rfl;(refine st ?_);refine blk_put (cs:=#[.int .i64 x113000_4,.slice none 0 0]) ?_ 0 _ rfl;(refine st ?_);refine blk_far ?_ NB112_142.out _;(refine st ?_);refine blk_far ?_ NB112_142.out _;(refine st ?_);refine blk_far ?_ NB112_142.out _;(refine st ?_);refine blk_far ?_ NB112_142.out _;(refine st ?_);refine blk_far ?_ NB112_142.out _;(refine st ?_);refine blk_far ?_ NB112_142.out _;(refine st ?_);exact BK112.out) Tryz.underlying24 rfl kr) rfl ?_
                exact ⟨_,by first | rfl | (simp [errW_none,errW_some] <;> rfl) | (simp [*,errW_none,errW_some] <;> rfl),by first | exact Kd.S_nil _ _ _ _ _ | exact Kd.N_nil _ _ _ _ _ | exact Kd.V_nil _ _ _ _ _ | exact Kd.Q_nil _ _ _ _ _ | exact Kd.R_nil _ _ _ _ _,bx⟩
              ·
               rw [if_neg c118] at H
               exact absurd H (by simp)
             ·
              rw [if_neg c117] at H
              exact absurd H (by simp)
            ·
             rw [if_neg c116] at H
             have c116b0:decide (x104_4 < (x5_.length:Int))=false:=decide_eq_false c116
             clear c116
             by_cases c159:a0=0
             ·
              rw [if_pos c159] at H
              have c159b0:(a0 == 0)=true:=beq_iff_eq.mpr c159
              have c159b1:(a0 != 0)=false:=bne_eq_false_iff_eq.mpr c159
              clear c159
              simp only [Option.some.injEq,Prod.mk.injEq] at H
              obtain ⟨rfl,rfl,rfl⟩:=H
              have hnb160:=NB111_112.out
              have hnc160:=NB112_111.out
              have hnb161:=NB111_119.out
              have hnc161:=NB119_111.out
              obtain ⟨hcz162_0,hfz162_0⟩:=cb1 BK111.out
              have hnb163:=NB119_112.out
              have hnc163:=NB112_119.out
              obtain ⟨hcz164_0,hcz164_1,hfz164_0,hfz164_1⟩:=cb2 BK119.out
              obtain ⟨hcz165_0,hcz165_1,hfz165_0,hfz165_1⟩:=cb2 BK112.out
              go_wp2
              refine bodyPost_ret (results_ct rfl _ _ gb112 24 #[.int .i64 0,.slice Ao115 x5_.length co115] (0,0) _ rfl (by (refine st ?_);refine blk_put (cs:=#[.int .i64 0,.slice none 0 0]) ?_ 1 _ rfl;(refine st ?_);refine blk_put (cs:=#[.int .i64 x113000_4,.slice none 0 0]) ?_ 0 _ rfl;(refine st ?_);exact BK112.out) Tryz.underlying24 rfl kr) rfl ?_
              exact ⟨_,by first | rfl | (simp [errW_none,errW_some] <;> rfl) | (simp [*,errW_none,errW_some] <;> rfl),by (with_reducible repeat (first | apply Kd.S_alloc | apply Kd.S_drewN | apply Kd.S_drew));exact Kd.S_mono (Kd.S_far (p:=⟨gb112,1,none⟩) (Kd.S_far (p:=⟨gb112,0,none⟩) (Kd.S_types HO_120001.out BK112.out (by decide)) (fun _ hk => hk.2) (.int .i64 0)) (fun _ hk => hk.2) (.slice Ao115 x5_.length co115)) (fun _ hk => trivial),bx⟩
             ·
              rw [if_neg c159] at H
              have c159b0:(a0 == 0)=false:=beq_eq_false_iff_ne.mpr c159
              have c159b1:(a0 != 0)=true:=bne_iff_ne.mpr c159
              have HC166:=ak H
              clear H
              have hnb167:=NB111_112.out
              have hnc167:=NB112_111.out
              have hnb168:=NB111_119.out
              have hnc168:=NB119_111.out
              obtain ⟨hcz169_0,hfz169_0⟩:=cb1 BK111.out
              go_upto_region 35 with (fail)
              go_cut [139] (fun v139 wc => ∃ (kq:Nat) (x139_165:Bool),v139=.bool x139_165∧Aside0 (ask_normal_at.j4 w kq x7_1 x139_165 a0 0 x5_=some (r1,r2,r3))∧Aside0 (kq ≤ k4)∧Aside0 (Kd.S k20174 47 wc w.heap.size (fun _ => True) (.slice Ao115 x5_.length co115) x5_)∧Aside0 (wc.heap[gb111]?=some (.cells #[.int .i64 a0] 3 (0,0)))∧Aside0 (wc.heap[gb112]?=some (.cells #[.int .i64 x113000_4,(.slice none 0 0)] 24 (0,0)))∧Aside0 (wc.heap[gb119]?=some (.cells #[.int .i64 0,(.slice Ao115 x5_.length co115)] 24 (0,0)))∧Aside0 (Below w.heap.size w wc))
              case first =>
               have H:=HC166.out
               clear HC166
               by_cases c170:x7_1 > 2199023255552
               ·
                rw [if_pos c170] at H
                have c170b0:decide (2199023255552 < x7_1)=true:=decide_eq_true c170
                clear c170
                (first | rw [c170b0] | (simp only [i64_w,i32_w];rw [c170b0]) | skip)
                have H':=ak H
                clear H
                go_wp2
                go_meet
                case rel => exact ⟨_,(true),rf,H',⟨by have:=HK1.out;have:=HK2.out;have:=HJ99.out;have:=HK4.out;first | omega | exact Nat.le_refl _⟩,⟨by (try simp only [hl37_2]);(with_reducible repeat (first | apply Kd.S_alloc | apply Kd.S_drewN | apply Kd.S_drew));exact HO_120001.out⟩,⟨by (try simp only [hl37_2]);(refine st ?_);exact BK111.out⟩,⟨by (try simp only [hl37_2]);(refine st ?_);exact BK112.out⟩,⟨by (try simp only [hl37_2]);(refine st ?_);exact BK119.out⟩,⟨bx⟩⟩
               ·
                rw [if_neg c170] at H
                have c170b0:decide (2199023255552 < x7_1)=false:=decide_eq_false c170
                clear c170
                (first | rw [c170b0] | (simp only [i64_w,i32_w];rw [c170b0]) | skip)
                have H':=ak H
                clear H
                go_wp2
                go_meet
                case rel => exact ⟨_,(decide (x7_1 < (-2199023255552))),rf,H',⟨by have:=HK1.out;have:=HK2.out;have:=HJ99.out;have:=HK4.out;first | omega | exact Nat.le_refl _⟩,⟨by (try simp only [hl37_2]);(with_reducible repeat (first | apply Kd.S_alloc | apply Kd.S_drewN | apply Kd.S_drew));exact HO_120001.out⟩,⟨by (try simp only [hl37_2]);(refine st ?_);exact BK111.out⟩,⟨by (try simp only [hl37_2]);(refine st ?_);exact BK112.out⟩,⟨by (try simp only [hl37_2]);(refine st ?_);exact BK119.out⟩,⟨bx⟩⟩
              case rest =>
               clear HC166
               try clear c1
               try clear p1 p1
               try clear q1 q1
               try clear hx1
               try clear c2
               try clear p2 p2
               try clear c4
               try clear c5
               try clear c6
               try clear p6 p6
               try clear c7
               try clear c9
               try clear c10
               try clear c11
               try clear c12
               try clear p12 p12
               try clear q12 q12
               try clear hx12
               try clear hf12
               try clear c13
               try clear hx13
               try clear hf13
               try clear c14
               try clear p14
               try clear q14
               try clear hx14
               try clear c15
               try clear c16
               try clear c17
               try clear c18
               try clear c18b0
               try clear c19
               try clear c20
               try clear c21
               try clear c21b0
               try clear c21b1
               try clear c23
               try clear c24
               try clear c26
               try clear c26b0
               try clear c26b1
               try clear c43
               try clear c45
               try clear c46
               try clear c47
               try clear c49
               try clear c50
               try clear p64 p64
               try clear c67
               try clear c69
               try clear c70
               try clear c71
               try clear c73
               try clear c74
               try clear c76
               try clear c90
               try clear c90b0
               try clear c90b1
               try clear c91
               try clear c92
               try clear c98
               try clear c101
               try clear c102
               try clear c108
               try clear c108b0
               try clear c108b1
               try clear c108b2
               try clear c109
               try clear c110
               try clear c112
               try clear c113
               try clear c116
               try clear c116b0
               try clear c117
               try clear c117b0
               try clear c118
               try clear c118b0
               try clear c120
               try clear p120 p120
               try clear q120 q120
               try clear hx120
               try clear c122
               try clear p122 p122
               try clear q122 q122
               try clear hx122
               try clear c123
               try clear c123b0
               try clear c124
               try clear p124 p124
               try clear q124 q124
               try clear hx124
               try clear hf124
               try clear c126
               try clear c127
               try clear c128
               try clear c132
               try clear c133
               try clear c135
               try clear c137
               try clear hx137
               try clear hf137
               try clear c140
               try clear c141
               try clear p141 p141
               try clear q141 q141
               try clear hx141
               try clear c142
               try clear c144
               try clear c145
               try clear c147
               try clear c150
               try clear c151
               try clear c152
               try clear c154
               try clear c155
               try clear c157
               try clear c159
               try clear c159b0
               try clear c159b1
               try clear c160
               try clear c161
               try clear c163
               try clear c167
               try clear c168
               try clear c170
               try clear c170b0
               try clear hcz103_0 hcz103_1 hfz103_0 hfz103_1
               try clear hcz107_0 hcz107_1 hfz107_0 hfz107_1
               try clear hcz111_0 hcz111_1 hfz111_0 hfz111_1
               try clear hcz114_0 hcz114_1 hfz114_0 hfz114_1
               try clear hcz129_0 hcz129_1 hcz129_2 hcz129_3 hcz129_4 hcz129_5 hfz129_0 hfz129_1 hfz129_2 hfz129_3 hfz129_4 hfz129_5
               try clear hcz131_0 hcz131_1 hcz131_2 hcz131_3 hcz131_4 hcz131_5 hfz131_0 hfz131_1 hfz131_2 hfz131_3 hfz131_4 hfz131_5
               try clear hcz134_0 hfz134_0
               try clear hcz136_0 hcz136_1 hfz136_0 hfz136_1
               try clear hcz143_0 hcz143_1 hcz143_2 hcz143_3 hcz143_4 hcz143_5 hfz143_0 hfz143_1 hfz143_2 hfz143_3 hfz143_4 hfz143_5
               try clear hcz146_0 hfz146_0
               try clear hcz148_0 hcz148_1 hfz148_0 hfz148_1
               try clear hcz153_0 hcz153_1 hcz153_2 hcz153_3 hcz153_4 hcz153_5 hfz153_0 hfz153_1 hfz153_2 hfz153_3 hfz153_4 hfz153_5
               try clear hcz156_0 hfz156_0
               try clear hcz158_0 hcz158_1 hfz158_0 hfz158_1
               try clear hcz162_0 hfz162_0
               try clear hcz164_0 hcz164_1 hfz164_0 hfz164_1
               try clear hcz165_0 hcz165_1 hfz165_0 hfz165_1
               try clear hcz169_0 hfz169_0
               try clear hcz48_0 hcz48_1 hcz48_2 hcz48_3 hcz48_4 hcz48_5 hfz48_0 hfz48_1 hfz48_2 hfz48_3 hfz48_4 hfz48_5
               try clear hcz51_0 hcz51_1 hfz51_0 hfz51_1
               try clear hcz56_0 hcz56_1 hcz56_2 hcz56_3 hcz56_4 hcz56_5 hfz56_0 hfz56_1 hfz56_2 hfz56_3 hfz56_4 hfz56_5
               try clear hcz59_0 hcz59_1 hcz59_2 hcz59_3 hcz59_4 hcz59_5 hfz59_0 hfz59_1 hfz59_2 hfz59_3 hfz59_4 hfz59_5
               try clear hcz61_0 hcz61_1 hfz61_0 hfz61_1
               try clear hcz62_0 hcz62_1 hcz62_2 hcz62_3 hcz62_4 hcz62_5 hfz62_0 hfz62_1 hfz62_2 hfz62_3 hfz62_4 hfz62_5
               try clear hcz65_0 hcz65_1 hfz65_0 hfz65_1
               try clear hcz72_0 hcz72_1 hcz72_2 hcz72_3 hcz72_4 hcz72_5 hfz72_0 hfz72_1 hfz72_2 hfz72_3 hfz72_4 hfz72_5
               try clear hcz75_0 hcz75_1 hfz75_0 hfz75_1
               try clear hcz79_0 hcz79_1 hcz79_2 hcz79_3 hcz79_4 hcz79_5 hfz79_0 hfz79_1 hfz79_2 hfz79_3 hfz79_4 hfz79_5
               try clear hcz82_0 hcz82_1 hcz82_2 hcz82_3 hcz82_4 hcz82_5 hfz82_0 hfz82_1 hfz82_2 hfz82_3 hfz82_4 hfz82_5
               try clear hcz84_0 hcz84_1 hfz84_0 hfz84_1
               try clear hcz85_0 hcz85_1 hcz85_2 hcz85_3 hcz85_4 hcz85_5 hfz85_0 hfz85_1 hfz85_2 hfz85_3 hfz85_4 hfz85_5
               try clear hcz88_0 hcz88_1 hfz88_0 hfz88_1
               try clear hcz93_0 hcz93_1 hfz93_0 hfz93_1
               try clear hcz97_0 hcz97_1 hfz97_0 hfz97_1
               try clear hcz99_0 hcz99_1 hfz99_0 hfz99_1
               try clear hx120_0 hx120_1 hx120_2 hx120_3 hx120_4 hx120_5
               try clear hx122_0 hx122_1 hx122_2 hx122_3 hx122_4 hx122_5
               try clear hx124_0 hx124_1 hx124_2 hx124_3 hx124_4 hx124_5
               try clear hx137_0
               try clear hx141_0 hx141_1 hx141_2 hx141_3 hx141_4 hx141_5
               obtain ⟨kq,x139_165,rfl,HA,HJ165,HO_120001,BK111,BK112,BK119,HB⟩:=hcut
               cases kq with
               | zero => exact absurd HA.out (by simp [ask_normal_at.j4])
               | succ kj165 =>
                have H:=HA.out
                clear HA
                simp only [ask_normal_at.j4] at H
                by_cases c171:x139_165=true
                ·
                 subst c171
                 have H1:(some (0,([]:List (S20174)),3))=some (r1,r2,r3):=by rw [if_pos rfl] at H;exact H
                 clear H
                 have H:=H1
                 clear H1
                 simp only [Option.some.injEq,Prod.mk.injEq] at H
                 obtain ⟨rfl,rfl,rfl⟩:=H
                 have hnb172:=NB112_111.out
                 have hnc172:=NB111_112.out
                 have hnb173:=NB112_119.out
                 have hnc173:=NB119_112.out
                 obtain ⟨hcz174_0,hcz174_1,hfz174_0,hfz174_1⟩:=cb2 BK112.out
                 go_wp2
                 refine bodyPost_ret (results_ct rfl _ _ gb112 24 #[.int .i64 0,.slice none 0 0] (0,0) _ rfl (by (refine st ?_);refine blk_put (cs:=#[.int .i64 0,.slice none 0 0]) ?_ 1 _ rfl;(refine st ?_);refine blk_put (cs:=#[.int .i64 x113000_4,.slice none 0 0]) ?_ 0 _ rfl;(refine st ?_);exact BK112.out) Tryz.underlying24 rfl kr) rfl ?_
                 exact ⟨_,by first | rfl | (simp [errW_none,errW_some] <;> rfl) | (simp [*,errW_none,errW_some] <;> rfl),by first | exact Kd.S_nil _ _ _ _ _ | exact Kd.N_nil _ _ _ _ _ | exact Kd.V_nil _ _ _ _ _ | exact Kd.Q_nil _ _ _ _ _ | exact Kd.R_nil _ _ _ _ _,bx⟩
                ·
                 replace c171:=Bool.eq_false_iff.mpr c171
                 subst c171
                 have H1:((productT.f a0 x7_1).bind fun bt147 => (if bt147.2=true then ((ask_isConst.f bt147.1).bind fun t149 => (if t149=true then (some (bt147.1,x5_,0)) else (some (0,([]:List (S20174)),3)))) else (some (0,([]:List (S20174)),3))))=some (r1,r2,r3):=by rw [if_neg (show ¬ (false=true) by decide)] at H;exact H
                 clear H
                 have H:=H1
                 clear H1
                 replace H:=Option.bind_eq_some_iff.mp H
                 obtain ⟨⟨t147,t148⟩,A1750,H⟩:=H
                 replace H:(if t148=true then ((ask_isConst.f t147).bind fun t149 => (if t149=true then (some (t147,x5_,0)) else (some (0,([]:List (S20174)),3)))) else (some (0,([]:List (S20174)),3)))=some (r1,r2,r3):=H
                 have A175:=ak A1750
                 clear A1750
                 by_cases c176:t148=true
                 ·
                  subst c176
                  have H1:((ask_isConst.f t147).bind fun t149 => (if t149=true then (some (t147,x5_,0)) else (some (0,([]:List (S20174)),3))))=some (r1,r2,r3):=by rw [if_pos rfl] at H;exact H
                  clear H
                  have H:=H1
                  clear H1
                  replace H:=Option.bind_eq_some_iff.mp H
                  obtain ⟨t149,A1770,H⟩:=H
                  replace H:(if t149=true then (some (t147,x5_,0)) else (some (0,([]:List (S20174)),3)))=some (r1,r2,r3):=H
                  have A177:=ak A1770
                  clear A1770
                  by_cases c178:t149=true
                  ·
                   subst c178
                   have H1:(some (t147,x5_,0))=some (r1,r2,r3):=by rw [if_pos rfl] at H;exact H
                   clear H
                   have H:=H1
                   clear H1
                   simp only [Option.some.injEq,Prod.mk.injEq] at H
                   obtain ⟨rfl,rfl,rfl⟩:=H
                   have hnb179:=NB111_112.out
                   have hnc179:=NB112_111.out
                   have hnb180:=NB111_119.out
                   have hnc180:=NB119_111.out
                   obtain ⟨hcz181_0,hfz181_0⟩:=cb1 BK111.out
                   go_wp2_with (first | ((with_reducible refine gate_callee (f:=51) rfl ?_);refine goesL_ (some 144) rfl rfl Tryz.func51 kr rfl #[.int .i64 a0,.int .i64 x7_1] rfl ag ?_;(with_reducible refine (productT.calls a0 x7_1 t147 true _ A175.out).mono ?_);rintro e w' ⟨rfl,⟨nd,rfl⟩⟩;refine ⟨_,rfl,?_⟩;(try (rw [drewN_self wc];generalize hq_:World.drewN wc _=wc;have n0_:Aside0 (Kd.S k20174 47 wc w.heap.size (fun _ => True) (.slice Ao115 x5_.length co115) x5_):=⟨by rw [← hq_];exact (sx HO_120001)⟩;have n1_:Aside0 (wc.heap[gb111]?=some (.cells #[.int .i64 a0] 3 (0,0))):=⟨by rw [← hq_];exact (bk BK111)⟩;have n2_:Aside0 (wc.heap[gb112]?=some (.cells #[.int .i64 x113000_4,.slice none 0 0] 24 (0,0))):=⟨by rw [← hq_];exact (bk BK112)⟩;have n3_:Aside0 (wc.heap[gb119]?=some (.cells #[.int .i64 0,.slice Ao115 x5_.length co115] 24 (0,0))):=⟨by rw [← hq_];exact (bk BK119)⟩;have n4_:Aside0 (Below w.heap.size w wc):=⟨by rw [← hq_];exact bx⟩;clear HO_120001 BK111 BK112 BK119 HB hq_;have HO_120001:=n0_;have BK111:=n1_;have BK112:=n2_;have BK119:=n3_;have HB:=n4_;clear n0_ n1_ n2_ n3_ n4_))) | (go_at_call 26;(with_reducible refine (ask_isConst.calls t147 true _ A177.out).mono ?_);rintro e w' ⟨rfl,⟨nd,rfl⟩⟩;(try (rw [drewN_self wc];generalize hq_:World.drewN wc _=wc;have n0_:Aside0 (Kd.S k20174 47 wc w.heap.size (fun _ => True) (.slice Ao115 x5_.length co115) x5_):=⟨by rw [← hq_];exact (sx HO_120001)⟩;have n1_:Aside0 (wc.heap[gb111]?=some (.cells #[.int .i64 a0] 3 (0,0))):=⟨by rw [← hq_];exact (bk BK111)⟩;have n2_:Aside0 (wc.heap[gb112]?=some (.cells #[.int .i64 x113000_4,.slice none 0 0] 24 (0,0))):=⟨by rw [← hq_];exact (bk BK112)⟩;have n3_:Aside0 (wc.heap[gb119]?=some (.cells #[.int .i64 0,.slice Ao115 x5_.length co115] 24 (0,0))):=⟨by rw [← hq_];exact (bk BK119)⟩;have n4_:Aside0 (Below w.heap.size w wc):=⟨by rw [← hq_];exact bx⟩;clear HO_120001 BK111 BK112 BK119 HB hq_;have HO_120001:=n0_;have BK111:=n1_;have BK112:=n2_;have BK119:=n3_;have HB:=n4_;clear n0_ n1_ n2_ n3_ n4_));have hnb182:=NB119_112.out;have hnc182:=NB112_119.out;obtain ⟨hcz183_0,hcz183_1,hfz183_0,hfz183_1⟩:=cb2 BK119.out;obtain ⟨hcz184_0,hcz184_1,hfz184_0,hfz184_1⟩:=cb2 BK112.out))
                   refine bodyPost_ret (results_ct rfl _ _ gb112 24 #[.int .i64 t147,.slice Ao115 x5_.length co115] (0,0) _ rfl (by (refine st ?_);refine blk_put (cs:=#[.int .i64 t147,.slice none 0 0]) ?_ 1 _ rfl;(refine st ?_);refine blk_put (cs:=#[.int .i64 x113000_4,.slice none 0 0]) ?_ 0 _ rfl;(refine st ?_);refine blk_far ?_ NB112_119.out _;(refine st ?_);exact BK112.out) Tryz.underlying24 rfl kr) rfl ?_
                   exact ⟨_,by first | rfl | (simp [errW_none,errW_some] <;> rfl) | (simp [*,errW_none,errW_some] <;> rfl),by (with_reducible repeat (first | apply Kd.S_alloc | apply Kd.S_drewN | apply Kd.S_drew));exact Kd.S_mono (Kd.S_far (p:=⟨gb112,1,none⟩) (Kd.S_far (p:=⟨gb112,0,none⟩) (Kd.S_far (p:=⟨gb119,0,none⟩) (Kd.S_types (Kd.S_types HO_120001.out BK119.out (by decide)) BK112.out (by decide)) (fun _ hk => hk.1.2) (.int .i64 t147)) (fun _ hk => hk.2) (.int .i64 t147)) (fun _ hk => hk.2) (.slice Ao115 x5_.length co115)) (fun _ hk => trivial),bx⟩
                  ·
                   replace c178:=Bool.eq_false_iff.mpr c178
                   subst c178
                   have H1:(some (0,([]:List (S20174)),3))=some (r1,r2,r3):=by rw [if_neg (show ¬ (false=true) by decide)] at H;exact H
                   clear H
                   have H:=H1
                   clear H1
                   simp only [Option.some.injEq,Prod.mk.injEq] at H
                   obtain ⟨rfl,rfl,rfl⟩:=H
                   have hnb185:=NB111_112.out
                   have hnc185:=NB112_111.out
                   have hnb186:=NB111_119.out
                   have hnc186:=NB119_111.out
                   obtain ⟨hcz187_0,hfz187_0⟩:=cb1 BK111.out
                   go_wp2_with (first | ((with_reducible refine gate_callee (f:=51) rfl ?_);refine goesL_ (some 144) rfl rfl Tryz.func51 kr rfl #[.int .i64 a0,.int .i64 x7_1] rfl ag ?_;(with_reducible refine (productT.calls a0 x7_1 t147 true _ A175.out).mono ?_);rintro e w' ⟨rfl,⟨nd,rfl⟩⟩;refine ⟨_,rfl,?_⟩;(try (rw [drewN_self wc];generalize hq_:World.drewN wc _=wc;have n0_:Aside0 (Kd.S k20174 47 wc w.heap.size (fun _ => True) (.slice Ao115 x5_.length co115) x5_):=⟨by rw [← hq_];exact (sx HO_120001)⟩;have n1_:Aside0 (wc.heap[gb111]?=some (.cells #[.int .i64 a0] 3 (0,0))):=⟨by rw [← hq_];exact (bk BK111)⟩;have n2_:Aside0 (wc.heap[gb112]?=some (.cells #[.int .i64 x113000_4,.slice none 0 0] 24 (0,0))):=⟨by rw [← hq_];exact (bk BK112)⟩;have n3_:Aside0 (wc.heap[gb119]?=some (.cells #[.int .i64 0,.slice Ao115 x5_.length co115] 24 (0,0))):=⟨by rw [← hq_];exact (bk BK119)⟩;have n4_:Aside0 (Below w.heap.size w wc):=⟨by rw [← hq_];exact bx⟩;clear HO_120001 BK111 BK112 BK119 HB hq_;have HO_120001:=n0_;have BK111:=n1_;have BK112:=n2_;have BK119:=n3_;have HB:=n4_;clear n0_ n1_ n2_ n3_ n4_))) | (go_at_call 26;(with_reducible refine (ask_isConst.calls t147 false _ A177.out).mono ?_);rintro e w' ⟨rfl,⟨nd,rfl⟩⟩;(try (rw [drewN_self wc];generalize hq_:World.drewN wc _=wc;have n0_:Aside0 (Kd.S k20174 47 wc w.heap.size (fun _ => True) (.slice Ao115 x5_.length co115) x5_):=⟨by rw [← hq_];exact (sx HO_120001)⟩;have n1_:Aside0 (wc.heap[gb111]?=some (.cells #[.int .i64 a0] 3 (0,0))):=⟨by rw [← hq_];exact (bk BK111)⟩;have n2_:Aside0 (wc.heap[gb112]?=some (.cells #[.int .i64 x113000_4,.slice none 0 0] 24 (0,0))):=⟨by rw [← hq_];exact (bk BK112)⟩;have n3_:Aside0 (wc.heap[gb119]?=some (.cells #[.int .i64 0,.slice Ao115 x5_.length co115] 24 (0,0))):=⟨by rw [← hq_];exact (bk BK119)⟩;have n4_:Aside0 (Below w.heap.size w wc):=⟨by rw [← hq_];exact bx⟩;clear HO_120001 BK111 BK112 BK119 HB hq_;have HO_120001:=n0_;have BK111:=n1_;have BK112:=n2_;have BK119:=n3_;have HB:=n4_;clear n0_ n1_ n2_ n3_ n4_));have hnb188:=NB112_119.out;have hnc188:=NB119_112.out;obtain ⟨hcz189_0,hcz189_1,hfz189_0,hfz189_1⟩:=cb2 BK112.out))
                   refine bodyPost_ret (results_ct rfl _ _ gb112 24 #[.int .i64 0,.slice none 0 0] (0,0) _ rfl (by (refine st ?_);refine blk_put (cs:=#[.int .i64 0,.slice none 0 0]) ?_ 1 _ rfl;(refine st ?_);refine blk_put (cs:=#[.int .i64 x113000_4,.slice none 0 0]) ?_ 0 _ rfl;(refine st ?_);exact BK112.out) Tryz.underlying24 rfl kr) rfl ?_
                   exact ⟨_,by first | rfl | (simp [errW_none,errW_some] <;> rfl) | (simp [*,errW_none,errW_some] <;> rfl),by first | exact Kd.S_nil _ _ _ _ _ | exact Kd.N_nil _ _ _ _ _ | exact Kd.V_nil _ _ _ _ _ | exact Kd.Q_nil _ _ _ _ _ | exact Kd.R_nil _ _ _ _ _,bx⟩
                 ·
                  replace c176:=Bool.eq_false_iff.mpr c176
                  subst c176
                  have H1:(some (0,([]:List (S20174)),3))=some (r1,r2,r3):=by rw [if_neg (show ¬ (false=true) by decide)] at H;exact H
                  clear H
                  have H:=H1
                  clear H1
                  simp only [Option.some.injEq,Prod.mk.injEq] at H
                  obtain ⟨rfl,rfl,rfl⟩:=H
                  have hnb190:=NB111_112.out
                  have hnc190:=NB112_111.out
                  have hnb191:=NB111_119.out
                  have hnc191:=NB119_111.out
                  obtain ⟨hcz192_0,hfz192_0⟩:=cb1 BK111.out
                  go_wp2_with (first | ((with_reducible refine gate_callee (f:=51) rfl ?_);refine goesL_ (some 144) rfl rfl Tryz.func51 kr rfl #[.int .i64 a0,.int .i64 x7_1] rfl ag ?_;(with_reducible refine (productT.calls a0 x7_1 t147 false _ A175.out).mono ?_);rintro e w' ⟨rfl,⟨nd,rfl⟩⟩;refine ⟨_,rfl,?_⟩;(try (rw [drewN_self wc];generalize hq_:World.drewN wc _=wc;have n0_:Aside0 (Kd.S k20174 47 wc w.heap.size (fun _ => True) (.slice Ao115 x5_.length co115) x5_):=⟨by rw [← hq_];exact (sx HO_120001)⟩;have n1_:Aside0 (wc.heap[gb111]?=some (.cells #[.int .i64 a0] 3 (0,0))):=⟨by rw [← hq_];exact (bk BK111)⟩;have n2_:Aside0 (wc.heap[gb112]?=some (.cells #[.int .i64 x113000_4,.slice none 0 0] 24 (0,0))):=⟨by rw [← hq_];exact (bk BK112)⟩;have n3_:Aside0 (wc.heap[gb119]?=some (.cells #[.int .i64 0,.slice Ao115 x5_.length co115] 24 (0,0))):=⟨by rw [← hq_];exact (bk BK119)⟩;have n4_:Aside0 (Below w.heap.size w wc):=⟨by rw [← hq_];exact bx⟩;clear HO_120001 BK111 BK112 BK119 HB hq_;have HO_120001:=n0_;have BK111:=n1_;have BK112:=n2_;have BK119:=n3_;have HB:=n4_;clear n0_ n1_ n2_ n3_ n4_));have hnb193:=NB112_119.out;have hnc193:=NB119_112.out;obtain ⟨hcz194_0,hcz194_1,hfz194_0,hfz194_1⟩:=cb2 BK112.out))
                  refine bodyPost_ret (results_ct rfl _ _ gb112 24 #[.int .i64 0,.slice none 0 0] (0,0) _ rfl (by (refine st ?_);refine blk_put (cs:=#[.int .i64 0,.slice none 0 0]) ?_ 1 _ rfl;(refine st ?_);refine blk_put (cs:=#[.int .i64 x113000_4,.slice none 0 0]) ?_ 0 _ rfl;(refine st ?_);exact BK112.out) Tryz.underlying24 rfl kr) rfl ?_
                  exact ⟨_,by first | rfl | (simp [errW_none,errW_some] <;> rfl) | (simp [*,errW_none,errW_some] <;> rfl),by first | exact Kd.S_nil _ _ _ _ _ | exact Kd.N_nil _ _ _ _ _ | exact Kd.V_nil _ _ _ _ _ | exact Kd.Q_nil _ _ _ _ _ | exact Kd.R_nil _ _ _ _ _,bx⟩
end
end Go.Proofs.YtkemjdedikobfaaGreatDoor.PSx
