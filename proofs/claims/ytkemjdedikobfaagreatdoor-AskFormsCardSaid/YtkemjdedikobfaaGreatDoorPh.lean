/- What is proved: what functions of the program do (walks: printed by a copy of the kit's print that programs of this repository have turned and shortened, or by hand). Conditions stand in each theorem. -/
import Derived.Test.YtkemjdedikobfaaGreatDoorPg
import Derived.Deep.CutBlock
set_option linter.unusedVariables false
set_option linter.unusedSimpArgs false
namespace Go.Proofs.YtkemjdedikobfaaGreatDoor.PSx
open PFx (S95 z95 k95 k95_open k95_openM k95_mk k95_mkM rd_T95 at_T95)
open Go.Proofs.YtkemjdedikobfaaGreatDoor.Sh
open Go.RowKit Go.Proofs.YtkemjdedikobfaaGreatDoorW.PrintWords Go.Proofs.YtkemjdedikobfaaGreatDoorW.PrintLast Go.Proofs.YtkemjdedikobfaaGreatDoorW.PrintMore
attribute [local go_sem] max2_int min2_int max_two min_two max_three min_three max_four min_four   -- for this text's walks alone
set_option linter.unusedVariables false
set_option linter.unusedSimpArgs false
def udometerref10_constant.f (a0:Int):Option (Bool):=if a0 ≥ (-1099511627776) then (some (decide (a0 ≤ 1099511627776))) else (some false)
set_option maxHeartbeats 8000000 in
set_option maxRecDepth 100000 in
theorem udometerref10_constant.calls (a0:Int) (r:Bool) (w:World) (h:udometerref10_constant.f a0=some r) :
 Calls Tryz.prog 29 #[.int .i64 a0] w fun e w' => e=.returned (.bool r)∧Drawn0 w w':=by
 have H:(if a0 ≥ (-1099511627776) then (some (decide (a0 ≤ 1099511627776))) else (some false))=some r:=h;clear h;by_cases c2:a0 ≥ (-1099511627776)
 ·rw [if_pos c2] at H;have c2b0:decide ((-1099511627776) ≤ a0)=true:=decide_eq_true c2;clear c2;obtain rfl:=Option.some.inj H;go_enter Tryz.func29,Tryz.ntmps29
  go_wp2;go_ret;exact ⟨by first | rfl | (simp;done) | (simp [*];done),by repeat (first | exact Drawn0.refl _ | apply Drawn0.step)⟩
 ·rw [if_neg c2] at H;have c2b0:decide ((-1099511627776) ≤ a0)=false:=decide_eq_false c2;clear c2;obtain rfl:=Option.some.inj H;go_enter Tryz.func29,Tryz.ntmps29
  go_wp2;go_ret;exact ⟨by first | rfl | (simp;done) | (simp [*];done),by repeat (first | exact Drawn0.refl _ | apply Drawn0.step)⟩
def udometerref10_Valid.l0:Nat→Int→Int→List (S174)→Option (Bool)
 | 0,_,_,_ => none
 | k + 1,x3,x102000,x102001 => if x3 < (x102001.length:Int) then (if 0 ≤ x3 then (if ((rd_T174 x102001 x3).f0) < (-50) then (some false) else (if ((rd_T174 x102001 x3).f0) > 50 then (some false) else (udometerref10_Valid.l0 k (wrap64 (x3 + 1)) x102000 x102001))) else (none)) else ((udometerref10_constant.f x102000).bind fun t104 => (if t104=true then (some (decide ((x102001.length:Int) ≤ 5))) else (some false)))
def udometerref10_Valid.f (k:Nat) (a0_0:Int) (l0_1:List (S174)):Option (Bool):=udometerref10_Valid.l0 k 0 a0_0 l0_1
set_option maxHeartbeats 8000000 in
set_option maxRecDepth 100000 in
theorem udometerref10_Valid.calls (k:Nat) (a0_0:Int) (A0_1:Option Addr) (c0_1:Nat) (l0_1:List (S174)) (r:Bool) (w:World) (hr0_1:Kd.C k174 w A0_1 l0_1.length l0_1) (hc0_1:l0_1.length ≤ c0_1) (h:udometerref10_Valid.f k a0_0 l0_1=some r) :
 Calls Tryz.prog 27 #[.agg #[.int .i64 a0_0,.slice A0_1 l0_1.length c0_1]] w fun e w' => e=.returned (.bool r)∧Below w.heap.size w w':=by
 have hu24:=Tryz.underlying24;have HR0_1:=ak hr0_1;have HC0_1:=ak hc0_1;clear hr0_1 hc0_1;have HB:=ak (Below.refl w.heap.size w);have H:(udometerref10_Valid.l0 k 0 a0_0 l0_1)=some r:=h;clear h;have H':=ak H;clear H;go_enter Tryz.func27,Tryz.ntmps27
 go_wp2_with (first | ((with_reducible refine gate_dst (N:=1) rfl ?_);(try (refine gate_guard (by rfl) ?_;dsimp only));refine box_event ?hg (N:=1) ?hd (cs:=#[.int .i64 a0_0,.slice A0_1 l0_1.length c0_1]) (t:=24) ?hr ?_;(case hd => rfl);(case hg => rfl);(case hr => first | (go_simp;done) | (go_simp;rfl));intro gb101 hg w2 hbox hb;have n0_:=ak (below_step bx hb);have n1_:=ak (hbox);have n2_:=ak ((by rw [hg];exact (below_size bx):w.heap.size ≤ gb101));have n3_:=ak ((by rw [hg];exact (below_size bx):w.heap.size ≤ gb101));clear HB;have HB:=n0_;have BK101:=n1_;have GW101:=n2_;have GE101:=n3_;clear n0_ n1_ n2_ n3_;clear hb hbox hg))
 go_loopg [3] k (fun kq v3 w' => ∃ (x3_1:Int),v3=.int .i64 x3_1∧Aside0 (udometerref10_Valid.l0 kq x3_1 a0_0 l0_1=some r)∧Aside0 (kq ≤ k)∧Aside0 (w'.heap[gb101]?=some (.cells #[.int .i64 a0_0,(.slice A0_1 l0_1.length c0_1)] 24 (0,0)))∧Aside0 (Below w.heap.size w w'))
 case atStart => exact ⟨(0),rf,H',⟨Nat.le_refl _⟩,⟨bk BK101⟩,⟨bx⟩⟩
 case round =>
  clear H';try clear c2
  try clear p2
  obtain ⟨x3_1,rfl,HA,HK1,BK101,HB⟩:=hrel;cases gk with
  | zero => exact absurd HA.out (by simp [udometerref10_Valid.l0])
  | succ k1 =>
   have H:=HA.out;clear HA;simp only [udometerref10_Valid.l0] at H;by_cases c3:x3_1 < (l0_1.length:Int)
   ·rw [if_pos c3] at H;have c3b0:decide (x3_1 < (l0_1.length:Int))=true:=decide_eq_true c3;clear c3;by_cases c4:0 ≤ x3_1
    ·rw [if_pos c4] at H;have c4b0:decide (0 ≤ x3_1)=true:=decide_eq_true c4;clear c4;by_cases c5:((rd_T174 l0_1 x3_1).f0) < (-50)
     ·rw [if_pos c5] at H;have c5b0:decide (((rd_T174 l0_1 x3_1).f0) < (-50))=true:=decide_eq_true c5;clear c5;obtain rfl:=Option.some.inj H;obtain ⟨hcz6_0,hcz6_1,hfz6_0,hfz6_1⟩:=cb2 BK101.out;have p102:0 ≤ (x3_1:Int):=of_decide_eq_true asm;have q102:x3_1 < (l0_1.length:Int):=of_decide_eq_true asm;obtain ⟨ad102,e102,hx102_0,hx102_1,hx102_2,hx102_3,hx102_4,hx102_5⟩:=at_T174 HR0_1.out x3_1 p102 q102;cases e102;replace hx102_0:=(HB.out.cell (World.block_lt_of_cell? w _ hx102_0)).trans hx102_0;replace hx102_1:=(HB.out.cell (World.block_lt_of_cell? w _ hx102_1)).trans hx102_1;replace hx102_2:=(HB.out.cell (World.block_lt_of_cell? w _ hx102_2)).trans hx102_2;replace hx102_3:=(HB.out.cell (World.block_lt_of_cell? w _ hx102_3)).trans hx102_3;replace hx102_4:=(HB.out.cell (World.block_lt_of_cell? w _ hx102_4)).trans hx102_4;replace hx102_5:=(HB.out.cell (World.block_lt_of_cell? w _ hx102_5)).trans hx102_5;replace p102:=eq_true p102;replace q102:=eq_true q102;go_wp2;go_ret;exact ⟨by first | rfl | (simp [errW_none,errW_some] <;> rfl) | (simp [*,errW_none,errW_some] <;> rfl),bx⟩
     ·rw [if_neg c5] at H;have c5b0:decide (((rd_T174 l0_1 x3_1).f0) < (-50))=false:=decide_eq_false c5;clear c5;by_cases c7:((rd_T174 l0_1 x3_1).f0) > 50
      ·rw [if_pos c7] at H;have c7b0:decide (50 < ((rd_T174 l0_1 x3_1).f0))=true:=decide_eq_true c7;clear c7;obtain rfl:=Option.some.inj H;obtain ⟨hcz8_0,hcz8_1,hfz8_0,hfz8_1⟩:=cb2 BK101.out;have p102:0 ≤ (x3_1:Int):=of_decide_eq_true asm;have q102:x3_1 < (l0_1.length:Int):=of_decide_eq_true asm;obtain ⟨ad102,e102,hx102_0,hx102_1,hx102_2,hx102_3,hx102_4,hx102_5⟩:=at_T174 HR0_1.out x3_1 p102 q102;cases e102;replace hx102_0:=(HB.out.cell (World.block_lt_of_cell? w _ hx102_0)).trans hx102_0;replace hx102_1:=(HB.out.cell (World.block_lt_of_cell? w _ hx102_1)).trans hx102_1;replace hx102_2:=(HB.out.cell (World.block_lt_of_cell? w _ hx102_2)).trans hx102_2;replace hx102_3:=(HB.out.cell (World.block_lt_of_cell? w _ hx102_3)).trans hx102_3;replace hx102_4:=(HB.out.cell (World.block_lt_of_cell? w _ hx102_4)).trans hx102_4;replace hx102_5:=(HB.out.cell (World.block_lt_of_cell? w _ hx102_5)).trans hx102_5;replace p102:=eq_true p102;replace q102:=eq_true q102;have p103:0 ≤ (x3_1:Int):=of_decide_eq_true asm;have q103:x3_1 < (l0_1.length:Int):=of_decide_eq_true asm;obtain ⟨ad103,e103,hx103_0,hx103_1,hx103_2,hx103_3,hx103_4,hx103_5⟩:=at_T174 HR0_1.out x3_1 p103 q103;obtain rfl:ad102=ad103:=(by injection e103);replace hx103_0:=(HB.out.cell (World.block_lt_of_cell? w _ hx103_0)).trans hx103_0;replace hx103_1:=(HB.out.cell (World.block_lt_of_cell? w _ hx103_1)).trans hx103_1;replace hx103_2:=(HB.out.cell (World.block_lt_of_cell? w _ hx103_2)).trans hx103_2;replace hx103_3:=(HB.out.cell (World.block_lt_of_cell? w _ hx103_3)).trans hx103_3;replace hx103_4:=(HB.out.cell (World.block_lt_of_cell? w _ hx103_4)).trans hx103_4;replace hx103_5:=(HB.out.cell (World.block_lt_of_cell? w _ hx103_5)).trans hx103_5;replace p103:=eq_true p103;replace q103:=eq_true q103;go_wp2;go_ret;exact ⟨by first | rfl | (simp [errW_none,errW_some] <;> rfl) | (simp [*,errW_none,errW_some] <;> rfl),bx⟩
      ·rw [if_neg c7] at H;have c7b0:decide (50 < ((rd_T174 l0_1 x3_1).f0))=false:=decide_eq_false c7;clear c7;have H':=ak H;clear H;obtain ⟨hcz9_0,hcz9_1,hfz9_0,hfz9_1⟩:=cb2 BK101.out;have p102:0 ≤ (x3_1:Int):=of_decide_eq_true asm;have q102:x3_1 < (l0_1.length:Int):=of_decide_eq_true asm;obtain ⟨ad102,e102,hx102_0,hx102_1,hx102_2,hx102_3,hx102_4,hx102_5⟩:=at_T174 HR0_1.out x3_1 p102 q102;cases e102;replace hx102_0:=(HB.out.cell (World.block_lt_of_cell? w _ hx102_0)).trans hx102_0;replace hx102_1:=(HB.out.cell (World.block_lt_of_cell? w _ hx102_1)).trans hx102_1;replace hx102_2:=(HB.out.cell (World.block_lt_of_cell? w _ hx102_2)).trans hx102_2;replace hx102_3:=(HB.out.cell (World.block_lt_of_cell? w _ hx102_3)).trans hx102_3;replace hx102_4:=(HB.out.cell (World.block_lt_of_cell? w _ hx102_4)).trans hx102_4;replace hx102_5:=(HB.out.cell (World.block_lt_of_cell? w _ hx102_5)).trans hx102_5;replace p102:=eq_true p102;replace q102:=eq_true q102;have p103:0 ≤ (x3_1:Int):=of_decide_eq_true asm;have q103:x3_1 < (l0_1.length:Int):=of_decide_eq_true asm;obtain ⟨ad103,e103,hx103_0,hx103_1,hx103_2,hx103_3,hx103_4,hx103_5⟩:=at_T174 HR0_1.out x3_1 p103 q103;obtain rfl:ad102=ad103:=(by injection e103);replace hx103_0:=(HB.out.cell (World.block_lt_of_cell? w _ hx103_0)).trans hx103_0;replace hx103_1:=(HB.out.cell (World.block_lt_of_cell? w _ hx103_1)).trans hx103_1;replace hx103_2:=(HB.out.cell (World.block_lt_of_cell? w _ hx103_2)).trans hx103_2;replace hx103_3:=(HB.out.cell (World.block_lt_of_cell? w _ hx103_3)).trans hx103_3;replace hx103_4:=(HB.out.cell (World.block_lt_of_cell? w _ hx103_4)).trans hx103_4;replace hx103_5:=(HB.out.cell (World.block_lt_of_cell? w _ hx103_5)).trans hx103_5;replace p103:=eq_true p103;replace q103:=eq_true q103;go_wp2;(go_roundg k1);(case measure => have:=HK1.out;omega);case rel => exact ⟨(wrap64 (x3_1 + 1)),rf,H',⟨by have:=HK1.out;omega⟩,⟨bk BK101⟩,⟨bx⟩⟩
    ·rw [if_neg c4] at H;exact absurd H (by simp)
   ·rw [if_neg c3] at H;have c3b0:decide (x3_1 < (l0_1.length:Int))=false:=decide_eq_false c3;clear c3;replace H:=Option.bind_eq_some_iff.mp H;obtain ⟨t104,A100,H⟩:=H;replace H:(if t104=true then (some (decide ((l0_1.length:Int) ≤ 5))) else (some false))=some r:=H;have A10:=ak A100;clear A100;by_cases c11:t104=true
    ·subst c11;(have H1:(some (decide ((l0_1.length:Int) ≤ 5)))=some r:=by rw [if_pos rfl] at H;exact H);clear H;have H:=H1;clear H1;obtain rfl:=Option.some.inj H;obtain ⟨hcz12_0,hcz12_1,hfz12_0,hfz12_1⟩:=cb2 BK101.out;(go_wp2_with (first | ((with_reducible refine gate_callee (f:=29) rfl ?_);refine goesL_ (some 29) rfl rfl Tryz.func29 kr rfl #[.int .i64 a0_0] rfl ag ?_;(with_reducible refine (udometerref10_constant.calls a0_0 true _ A10.out).mono ?_);rintro e w' ⟨rfl,⟨nd,rfl⟩⟩;refine ⟨_,rfl,?_⟩)));go_ret;exact ⟨by first | rfl | (simp [errW_none,errW_some] <;> rfl) | (simp [*,errW_none,errW_some] <;> rfl),bx⟩
    ·replace c11:=Bool.eq_false_iff.mpr c11;subst c11;(have H1:(some false)=some r:=by rw [if_neg (show ¬ (false=true) by decide)] at H;exact H);clear H;have H:=H1;clear H1;obtain rfl:=Option.some.inj H;obtain ⟨hcz13_0,hcz13_1,hfz13_0,hfz13_1⟩:=cb2 BK101.out;(go_wp2_with (first | ((with_reducible refine gate_callee (f:=29) rfl ?_);refine goesL_ (some 29) rfl rfl Tryz.func29 kr rfl #[.int .i64 a0_0] rfl ag ?_;(with_reducible refine (udometerref10_constant.calls a0_0 false _ A10.out).mono ?_);rintro e w' ⟨rfl,⟨nd,rfl⟩⟩;refine ⟨_,rfl,?_⟩)));go_ret;exact ⟨by first | rfl | (simp [errW_none,errW_some] <;> rfl) | (simp [*,errW_none,errW_some] <;> rfl),bx⟩
def udometerref10_fits.f (a0:Int) (a1:Int):Option (Bool):=if a0=0 then (some true) else (if a1=0 then (some true) else (if (mx a0 (wrap64 (-a0)))=0 then (none) else (some (decide ((mx a1 (wrap64 (-a1))) ≤ (wrap64 (Int.tdiv (1099511627776:Int) (mx a0 (wrap64 (-a0))))))))))
set_option maxHeartbeats 8000000 in
set_option maxRecDepth 100000 in
theorem udometerref10_fits.calls (a0:Int) (a1:Int) (r:Bool) (w:World) (h:udometerref10_fits.f a0 a1=some r) :
 Calls Tryz.prog 30 #[.int .i64 a0,.int .i64 a1] w fun e w' => e=.returned (.bool r)∧Below w.heap.size w w':=by
 have HB:=ak (Below.refl w.heap.size w);have H:(if a0=0 then (some true) else (if a1=0 then (some true) else (if (mx a0 (wrap64 (-a0)))=0 then (none) else (some (decide ((mx a1 (wrap64 (-a1))) ≤ (wrap64 (Int.tdiv (1099511627776:Int) (mx a0 (wrap64 (-a0)))))))))))=some r:=h;clear h;by_cases c3:a0=0
 ·rw [if_pos c3] at H;have c3b0:(a0 == 0)=true:=beq_iff_eq.mpr c3;have c3b1:(a0 != 0)=false:=bne_eq_false_iff_eq.mpr c3;clear c3;obtain rfl:=Option.some.inj H;go_enter Tryz.func30,Tryz.ntmps30
  go_wp2;go_ret;exact ⟨by first | rfl | (simp [errW_none,errW_some] <;> rfl) | (simp [*,errW_none,errW_some] <;> rfl),bx⟩
 ·rw [if_neg c3] at H;have c3b0:(a0 == 0)=false:=beq_eq_false_iff_ne.mpr c3;have c3b1:(a0 != 0)=true:=bne_iff_ne.mpr c3;by_cases c4:a1=0
  ·rw [if_pos c4] at H;have c4b0:(a1 == 0)=true:=beq_iff_eq.mpr c4;have c4b1:(a1 != 0)=false:=bne_eq_false_iff_eq.mpr c4;clear c4;obtain rfl:=Option.some.inj H;(go_enter Tryz.func30,Tryz.ntmps30);go_wp2;go_ret;exact ⟨by first | rfl | (simp [errW_none,errW_some] <;> rfl) | (simp [*,errW_none,errW_some] <;> rfl),bx⟩
  ·rw [if_neg c4] at H;have c4b0:(a1 == 0)=false:=beq_eq_false_iff_ne.mpr c4;have c4b1:(a1 != 0)=true:=bne_iff_ne.mpr c4;obtain ⟨ji5,hji5⟩:∃ j_:Int,(mx a1 (wrap64 (-a1)))=j_:=⟨_,rfl⟩;(replace H:(if (mx a0 (wrap64 (-a0)))=0 then (none) else (some (decide ((ji5) ≤ (wrap64 (Int.tdiv (1099511627776:Int) (mx a0 (wrap64 (-a0)))))))))=some r:=by first | (rw [hji5] at H;exact H) | (simp only [hji5] at H ⊢;exact H));have hji5_:(if a1 < (wrap64 (-a1)) then (wrap64 (-a1)) else a1)=ji5:=hji5;obtain ⟨ji6,hji6⟩:∃ j_:Int,(mx a0 (wrap64 (-a0)))=j_:=⟨_,rfl⟩;(replace H:(if (ji6)=0 then (none) else (some (decide ((ji5) ≤ (wrap64 (Int.tdiv (1099511627776:Int) (ji6)))))))=some r:=by first | (rw [hji6] at H;exact H) | (simp only [hji6] at H ⊢;exact H));have hji6_:(if a0 < (wrap64 (-a0)) then (wrap64 (-a0)) else a0)=ji6:=hji6;by_cases c7:(ji6)=0
   ·rw [if_pos c7] at H;exact absurd H (by simp)
   ·rw [if_neg c7] at H;have c7b0:((ji6) == 0)=false:=beq_eq_false_iff_ne.mpr c7;have c7b1:((ji6) != 0)=true:=bne_iff_ne.mpr c7;obtain rfl:=Option.some.inj H;(go_enter Tryz.func30,Tryz.ntmps30);go_wp2;go_ret;exact ⟨by first | rfl | (simp [errW_none,errW_some] <;> rfl) | (simp only [← hji5,← hji6];first | rfl | (simp [errW_none,errW_some] <;> rfl)) | (simp [*,errW_none,errW_some] <;> rfl),bx⟩
end Go.Proofs.YtkemjdedikobfaaGreatDoor.PSx
namespace Go.Proofs.YtkemjdedikobfaaGreatDoor.Sem
open Sh PSx Go.RowKit Go.Proofs.YtkemjdedikobfaaGreatDoorW.PrintWords Go.Proofs.YtkemjdedikobfaaGreatDoorW.PrintLast Go.Proofs.YtkemjdedikobfaaGreatDoorW.PrintMore
set_option linter.unusedVariables false
set_option linter.unusedSimpArgs false
def CE (w:World) (g:Nat) (c:Int) (A:Option Addr) (n k:Nat) (e:Int):Prop:=w.heap[g]?=some (.cells #[.int .i64 c,.slice A n k,.int .i64 e] 34 (0,0))
theorem CE.step {w w':World} {g n k:Nat} {c e:Int} {A:Option Addr} (h:CE w g c A n k e) (hb:Below w.heap.size w w'):CE w' g c A n k e:=blk_below h hb
theorem CE.all {w:World} {g n k:Nat} {c e:Int} {A:Option Addr} (h:CE w g c A n k e):g < w.heap.size∧w.cell? ⟨g,0,none⟩=some (.int .i64 c)∧w.cell? ⟨g,1,none⟩=some (.slice A n k)∧w.cell? ⟨g,2,none⟩=some (.int .i64 e)∧w.frozen? ⟨g,0,none⟩=false∧w.frozen? ⟨g,1,none⟩=false∧w.frozen? ⟨g,2,none⟩=false :=
 ⟨blk_lt h,(blk_cell h 0).trans rfl,(blk_cell h 1).trans rfl,(blk_cell h 2).trans rfl,blk_frozen h 0,blk_frozen h 1,blk_frozen h 2⟩
theorem CE.put {w:World} {g n k n' k':Nat} {c e c' e':Int} {A A':Option Addr} (h:CE w g c A n k e):CE (((w.setCell ⟨g,0,none⟩ (.int .i64 c')).setCell ⟨g,1,none⟩ (.slice A' n' k')).setCell ⟨g,2,none⟩ (.int .i64 e')) g c' A' n' k' e' :=
 blk_put (blk_put (blk_put h 0 (.int .i64 c') rfl) 1 (.slice A' n' k') rfl) 2 _ rfl
theorem wnew (w:World) (o:Obj):(w.alloc o).heap[w.heap.size]?=some o:=Go.Proofs.YtkemjdedikobfaaGreatDoorW.PrintWords.blk_new w o
theorem frm_of {F:Frm} {e:Int} {c:Int} {T:List Trm} {e':Int} (h:(F.c,F.T,e)=(c,T,e')):F=⟨c,T⟩∧e=e':=by cases F;simp only [Prod.mk.injEq] at h;simp [h.1,h.2.1,h.2.2]
theorem CE.put1 {w:World} {g n k:Nat} {c e c':Int} {A:Option Addr} (h:CE w g c A n k e):CE (w.setCell ⟨g,0,none⟩ (.int .i64 c')) g c' A n k e:=blk_put h 0 _ rfl
theorem CE.put2 {w:World} {g n k n' k':Nat} {c e c':Int} {A A':Option Addr} (h:CE w g c A n k e):CE ((w.setCell ⟨g,0,none⟩ (.int .i64 c')).setCell ⟨g,1,none⟩ (.slice A' n' k')) g c' A' n' k' e:=blk_put h.put1 1 _ rfl
abbrev RV (w0 w:World) (F:Frm) (e:Int) (en:Ending) (w':World):Prop:=∃ (A:Option Addr) (k:Nat) (D:List S174),en=.returned (.agg #[.int .i64 F.c,.slice A D.length k,.int .i64 e])∧(∃ base ok,Kd.R k174 47 w' base ok (.slice A D.length k) D)∧(∀ y ∈ D,Ok w0 y)∧D.map trmS=F.T∧Below w.heap.size w w'
theorem rv_zero {w0 w w':World} (e:Int) (hb:Below w.heap.size w w'):RV w0 w ⟨0,[]⟩ e (.returned (.agg #[.int .i64 0,.slice none 0 0,.int .i64 e])) w' :=
 ⟨none,0,[],rfl,⟨0,fun _ => True,Kd.R_nil _ _ _ _ _⟩,fun y hy => (by cases hy),rfl,hb⟩
theorem formR {w:World} {base:Nat} {ok:Nat→Prop} {A:Option Addr} {k:Nat} {c:Int} {D:List S174} {T:List Trm} (h:Kd.R k174 47 w base ok (.slice A D.length k) D) (ho:∀ y ∈ D,Ok w y) (hT:D.map trmS=T):FormV w (.agg #[.int .i64 c,.slice A D.length k]) ⟨c,T⟩ :=
 ⟨A,k,D,rfl,(Kd.R_reads' h).2.1,(Kd.R_reads' h).2.2,ho,hT⟩
theorem formV_zero (w:World):FormV w (.agg #[.int .i64 0,.slice none 0 0]) ⟨0,[]⟩:=⟨none,0,[],rfl,Nat.le_refl _,⟨rfl,by decide,fun h => by simp at h⟩,fun y hy => by simp at hy,rfl⟩
theorem ret34 {fn:Func} {p:Tmp} (h:fn.results=#[.cell p 34]) (tmps:Array Value) {w:World} {g n k:Nat} {c e:Int} {A:Option Addr} (hp:tmps.getD p undef=.pointer (some ⟨g,0,none⟩)) (hg:CE w g c A n k e) :
 (results fn tmps).run Tryz.prog w=.ok (.agg #[.int .i64 c,.slice A n k,.int .i64 e]) w :=
 results_cell_row h tmps w g 34 #[.int .i64 c,.slice A n k,.int .i64 e] (0,0) _ hp hg Tryz.underlying34 rfl (by kernel_rfl)
theorem validE (n:Int) (D:List S174) (hD:D.length ≤ 1000):∀ (k i:Nat),i ≤ D.length→D.length - i < k→(∀ j (hj:j < D.length),j < i→cf D[j].f0)→udometerref10_Valid.l0 k (i:Int) n D=some (decide (validF ⟨n,D.map trmS⟩))
 | 0,i,_,h,_ => by omega
 | k + 1,i,hi,hk,hp => by
  have hv:validF ⟨n,D.map trmS⟩ ↔ sm n∧D.length ≤ 5∧∀ y ∈ D,cf y.f0:=by unfold validF;simp only [List.length_map,List.mem_map,forall_exists_index,and_imp,forall_apply_eq_imp_iff₂];rfl
  rw [udometerref10_Valid.l0];by_cases h:i < D.length
  ·rw [if_pos (by omega),if_pos (by omega),rdS D i D[i] (List.getElem?_eq_getElem h)];by_cases hc:cf D[i].f0
   ·have hc':=hc;unfold cf at hc';rw [if_neg (by omega),if_neg (by omega),show wrap64 ((i:Int) + 1)=((i + 1:Nat):Int) by rw [wr (by omega) (by omega)];rfl];refine validE n D hD k (i + 1) (by omega) (by omega) (fun j hj hji => ?_);rcases Nat.lt_or_ge j i with h' | h'
    ·exact hp j hj h'
    ·(obtain rfl:j=i:=by omega);exact hc
   ·have hno:¬ validF ⟨n,D.map trmS⟩:=fun hh => hc ((hv.1 hh).2.2 _ (List.getElem_mem h));rw [decide_eq_false hno];unfold cf at hc;by_cases h1:D[i].f0 < -50
    ·rw [if_pos h1]
    ·rw [if_neg h1,if_pos (by omega)]
  ·rw [if_neg (by omega)];(have hall:∀ y ∈ D,cf y.f0:=fun y hy => by obtain ⟨j,hj,rfl⟩:=List.getElem_of_mem hy;exact hp j hj (by omega));have he:(validF ⟨n,D.map trmS⟩)=(sm n∧D.length ≤ 5):=propext ⟨fun hh => ⟨(hv.1 hh).1,(hv.1 hh).2.1⟩,fun hh => hv.2 ⟨hh.1,hh.2,hall⟩⟩;simp only [he];unfold udometerref10_constant.f sm;by_cases h1:n ≥ -1099511627776
   ·rw [if_pos h1,Option.bind_some];by_cases h2:n ≤ 1099511627776
    ·rw [if_pos (by simpa using h2)];congr 1;simp only [decide_eq_decide];omega
    ·rw [if_neg (by simpa using h2),decide_eq_false (by omega)]
   ·rw [if_neg h1,Option.bind_some,if_neg (by decide),decide_eq_false (by omega)]
theorem outOne (n:Int) (T:List Trm):outN 1 n T=if T.length > 5 then (0,[],2) else if validF ⟨n,T⟩ then (n,T,0) else (0,[],3):=by
 unfold outN;by_cases h5:T.length > 5
 ·rw [if_pos h5,if_pos h5]
 ·rw [if_neg h5,if_neg h5];have hm:mul 1 T=T:=by unfold mul;rw [show (fun t:Trm => (⟨t.c * 1,t.F⟩:Trm))=id by funext t;cases t;simp,List.map_id]
  by_cases ha:(T.all fun t => decide (cf (t.c * 1)))=true
  ·(have hall:∀ t ∈ T,cf t.c:=fun t ht => by have:=of_decide_eq_true (List.all_eq_true.1 ha t ht);rwa [Int.mul_one] at this);rw [if_pos ha,if_neg (by decide),hm,Int.one_mul];by_cases hs:sm n
   ·rw [if_pos hs,if_pos ⟨hs,by simp only;omega,hall⟩]
   ·rw [if_neg hs,if_neg (fun h => hs h.1)]
  ·rw [if_neg ha,if_neg (fun h => ha (List.all_eq_true.2 fun t ht => decide_eq_true (by rw [Int.mul_one];exact h.2.2 t ht)))]
set_option maxHeartbeats 8000000 in
set_option maxRecDepth 100000 in
theorem rnormW (n:Int) (xs:List S174) (w0:World) (hok:∀ y ∈ xs,Ok w0 y) (hl:xs.length ≤ 20) (hb:bnd 100000000000000 xs) :
 ∃ F e,NormR 1 n (xs.map trmS) F e∧∀ (w:World) (A:Option Addr) (cap:Nat),Below w0.heap.size w0 w→Kd.C k174 w A xs.length xs→xs.length ≤ cap→Calls Tryz.prog 28 #[.int .i64 n,.slice A xs.length cap] w (RV w0 w F e):=by
 obtain ⟨hDo,s0,z0,c0⟩:=colP (Q:=Ok w0) (fun a b e h => by unfold Ok at h ⊢;rw [← e];exact h) xs hok hb;have hs0:srt ((colF xs).map trmS):=List.pairwise_map.2 s0;have hz0:nz ((colF xs).map trmS):=fun t ht => by obtain ⟨y,hy,rfl⟩:=List.mem_map.1 ht;exact z0 y hy
 obtain ⟨F,e,hFe⟩:∃ (F:Frm) (e:Int),(F.c,F.T,e)=outN 1 n ((colF xs).map trmS):=⟨⟨_,_⟩,_,rfl⟩;refine ⟨F,e,⟨(colF xs).map trmS,hs0,hz0,fun G => by rw [if_neg (by decide)];exact c0 G,hFe⟩,fun w A cap hw0 hr hc => ?_⟩;rw [outOne] at hFe;clear s0 z0 c0 hs0 hz0;obtain ⟨D,hDe⟩:∃ D,D=colF xs:=⟨_,rfl⟩;rw [← hDe] at hDo hFe;replace hDe:=ak hDe;obtain ⟨T,hT⟩:∃ T,D.map trmS=T:=⟨_,rfl⟩;rw [hT] at hFe;go_enter Tryz.func28,Tryz.ntmps28
 go_upto_region 0 with fail
 go_cut [4] from 6 to 6 (fun s4 wc => ∃ gr,s4=pt gr∧CE wc gr 0 none 0 0 0∧w.heap.size ≤ gr∧Below w.heap.size w wc)
 case first =>
  go_wp2_with fail
  go_meet;case rel => exact ⟨_,rfl,wnew w _,Nat.le_refl _,bl_new w _⟩
 obtain ⟨gr,rfl,BR,hge,HB⟩:=hcut;have hw1:=ak (below_step hw0 HB);replace hr:=Kd.C_below hr HB;go_upto_region 1 with fail
 go_cut [5] from 6 to 9 (fun s5 wx => ∃ g A' k',s5=pt g∧CB wx g n A' D.length k'∧Kd.R k174 47 wx wc.heap.size (fun _ => True) (.slice A' D.length k') D∧Below wc.heap.size wc wx)
 case first =>
  go_wp2_with (first | (go_at_call 52;(with_reducible refine (colW hr hc hl hw1.out hok hb).mono ?_);rintro en w2 ⟨v,rfl,ho,hb2⟩;rw [← hDe.out] at ho;obtain ⟨A',k',rfl⟩:=Kd.R_slice ho) | go_in)
  go_meet;case rel => exact ⟨_,A',k',rfl,wnew w2 _,Kd.R_alloc ho _,hb2.trans ((bl_new w2 _).mono hb2.size)⟩
 obtain ⟨g,A',k',rfl,B5,hR,hb2⟩:=hcut;obtain ⟨_,hDk,hD⟩:=Kd.R_reads' hR;replace BR:=BR.step hb2;replace HB:=HB.trans (hb2.mono HB.size);clear hb2 hr hw1;have hTl:T.length=D.length:=by rw [← hT];simp
 by_cases h5:T.length > 5
 ·rw [if_pos h5] at hFe;obtain ⟨rfl,rfl⟩:=frm_of hFe;have c1:decide (5 < D.length)=true:=decide_eq_true (by omega);have c2:decide (5 < (D.length:Int))=true:=decide_eq_true (by omega);obtain ⟨lt5,p50,p51,z50,z51⟩:=B5.all;obtain ⟨ltR,pR0,pR1,pR2,zR0,zR1,zR2⟩:=BR.all;go_wp2_with fail
  refine bodyPost_ret (ret34 rfl _ rfl BR.put) rfl ?_;exact rv_zero _ (below_set (below_set (below_set HB hge) hge) hge)
 ·rw [if_neg h5] at hFe;have c1:decide (5 < D.length)=false:=decide_eq_false (by omega);have c2:decide (5 < (D.length:Int))=false:=decide_eq_false (by omega);have hv:=validE n D (by omega) 5000 0 (by omega) (by omega) (fun j hj h => by omega);rw [hT] at hv;replace hv:udometerref10_Valid.f 5000 n D=some (decide (validF ⟨n,T⟩)):=hv;obtain ⟨lt5,p50,p51,z50,z51⟩:=B5.all;go_upto_region 4 with fail
  go_cut [17] from 15 to 17 (fun s wx => s=.bool (!decide (validF ⟨n,T⟩))∧Below wc.heap.size wc wx)
  case first => (go_wp2_with (first | (go_at_call 27;(with_reducible refine (udometerref10_Valid.calls 5000 n A' k' D _ _ hD hDk hv).mono ?_);rintro en w2 ⟨rfl,hb2⟩) | go_in));go_meet;case rel => exact ⟨rfl,hb2⟩
  obtain ⟨rfl,hb2⟩:=hcut;replace BR:=BR.step hb2;replace B5:=B5.step hb2;replace hR:=Kd.R_below hR hb2;replace HB:=HB.trans (hb2.mono HB.size);clear hb2 lt5 p50 p51 z50 z51;obtain ⟨lt5,p50,p51,z50,z51⟩:=B5.all;obtain ⟨ltR,pR0,pR1,pR2,zR0,zR1,zR2⟩:=BR.all;by_cases hval:validF ⟨n,T⟩
  ·rw [if_pos hval] at hFe;obtain ⟨rfl,rfl⟩:=frm_of hFe;rw [decide_eq_true hval];(go_wp2_with fail);refine bodyPost_ret (ret34 rfl _ rfl BR.put) rfl ?_;exact ⟨_,_,_,rfl,⟨_,_,Kd.R_set (Kd.R_set (Kd.R_set hR BR (by decide) _ _) BR.put1 (by decide) _ _) BR.put2 (by decide) _ _⟩,hDo,hT,below_set (below_set (below_set HB hge) hge) hge⟩
  ·rw [if_neg hval] at hFe;obtain ⟨rfl,rfl⟩:=frm_of hFe;rw [decide_eq_false hval];(go_wp2_with fail);refine bodyPost_ret (ret34 rfl _ rfl BR.put) rfl ?_;exact rv_zero _ (below_set (below_set (below_set HB hge) hge) hge)
end Go.Proofs.YtkemjdedikobfaaGreatDoor.Sem
namespace Go.Proofs.YtkemjdedikobfaaGreatDoor.Sem
open Sh PSx Go.RowKit Go.Proofs.YtkemjdedikobfaaGreatDoorW.PrintWords Go.Proofs.YtkemjdedikobfaaGreatDoorW.PrintLast Go.Proofs.YtkemjdedikobfaaGreatDoorW.PrintMore
set_option linter.unusedVariables false
set_option linter.unusedSimpArgs false
theorem valid27 (a:Frm) (ys:List S174) (hT:ys.map trmS=a.T) (hl:a.T.length ≤ 1000):udometerref10_Valid.f 5000 a.c ys=some (decide (validF a))∧ys.length=a.T.length:=by
 have hy:ys.length=a.T.length:=by rw [← hT];simp
 have hv:=validE a.c ys (by omega) 5000 0 (by omega) (by omega) (fun j hj h => by omega);rw [hT] at hv;exact ⟨hv,hy⟩
theorem bnd_of {a:Frm} {ys:List S174} (hT:ys.map trmS=a.T) (hv:validF a):bnd 50 ys:=fun y hy => by have:=hv.2.2 (trmS y) (by rw [← hT];exact List.mem_map_of_mem hy);exact this
theorem bnd_up {B C:Int} {ys:List S174} (h:bnd B ys) (hBC:B ≤ C):bnd C ys:=fun y hy => by have:=h y hy;omega
theorem boxr (w:World) (c:Int) (A:Option Addr) (n k:Nat):∃ g1 gr,pt w.heap.size=pt g1∧pt (w.heap.size + 1)=pt gr ∧
 CB ((w.alloc (.cells #[.int .i64 c,.slice A n k] 24)).alloc (.cells #[.int .i64 0,.slice none 0 0,.int .i64 0] 34)) g1 c A n k ∧
 CE ((w.alloc (.cells #[.int .i64 c,.slice A n k] 24)).alloc (.cells #[.int .i64 0,.slice none 0 0,.int .i64 0] 34)) gr 0 none 0 0 0∧w.heap.size ≤ gr ∧
 Below w.heap.size w ((w.alloc (.cells #[.int .i64 c,.slice A n k] 24)).alloc (.cells #[.int .i64 0,.slice none 0 0,.int .i64 0] 34)):=by
 have e:(w.alloc (.cells #[.int .i64 c,.slice A n k] 24)).heap.size=w.heap.size + 1:=by simp
 refine ⟨_,_,rfl,rfl,(cb_new w c A n k).step (bl_new _ _),?_,by omega,(bl_new w _).trans ((bl_new (w.alloc _) _).mono (bl_new w _).size)⟩;rw [← e];exact wnew _ _
theorem boxr2 (w:World) (c c2:Int) (A A2:Option Addr) (n k n2 k2:Nat):∃ g1 g2 gr,pt w.heap.size=pt g1∧pt (w.heap.size + 1)=pt g2∧pt (w.heap.size + 1 + 1)=pt gr ∧
 CB (((w.alloc (.cells #[.int .i64 c,.slice A n k] 24)).alloc (.cells #[.int .i64 c2,.slice A2 n2 k2] 24)).alloc (.cells #[.int .i64 0,.slice none 0 0,.int .i64 0] 34)) g1 c A n k ∧
 CB (((w.alloc (.cells #[.int .i64 c,.slice A n k] 24)).alloc (.cells #[.int .i64 c2,.slice A2 n2 k2] 24)).alloc (.cells #[.int .i64 0,.slice none 0 0,.int .i64 0] 34)) g2 c2 A2 n2 k2 ∧
 CE (((w.alloc (.cells #[.int .i64 c,.slice A n k] 24)).alloc (.cells #[.int .i64 c2,.slice A2 n2 k2] 24)).alloc (.cells #[.int .i64 0,.slice none 0 0,.int .i64 0] 34)) gr 0 none 0 0 0∧w.heap.size ≤ gr ∧
 Below w.heap.size w (((w.alloc (.cells #[.int .i64 c,.slice A n k] 24)).alloc (.cells #[.int .i64 c2,.slice A2 n2 k2] 24)).alloc (.cells #[.int .i64 0,.slice none 0 0,.int .i64 0] 34)):=by
 have e:(w.alloc (.cells #[.int .i64 c,.slice A n k] 24)).heap.size=w.heap.size + 1:=by simp
 have e2:((w.alloc (.cells #[.int .i64 c,.slice A n k] 24)).alloc (.cells #[.int .i64 c2,.slice A2 n2 k2] 24)).heap.size=w.heap.size + 1 + 1:=by simp
 refine ⟨_,_,_,rfl,rfl,rfl,((cb_new w c A n k).step (bl_new _ _)).step (bl_new _ _),?_,?_,by omega,((bl_new w _).trans ((bl_new (w.alloc _) _).mono (bl_new w _).size)).trans ((bl_new ((w.alloc _).alloc _) _).mono (by rw [e2];omega))⟩
 ·rw [← e];exact (cb_new _ _ _ _ _).step (bl_new _ _)
 ·rw [← e2];exact wnew _ _
theorem held2 {W:World} {g1 g2:Nat} {c c2:Int} {A A2:Option Addr} {n k n2 k2:Nat} (h1:CB W g1 c A n k) (h2:CB W g2 c2 A2 n2 k2):W.cell? ⟨g1,0,none⟩=some (.int .i64 c)∧W.cell? ⟨g1,1,none⟩=some (.slice A n k)∧W.cell? ⟨g2,0,none⟩=some (.int .i64 c2)∧W.cell? ⟨g2,1,none⟩=some (.slice A2 n2 k2):=⟨h1.all.2.1,h1.all.2.2.1,h2.all.2.1,h2.all.2.2.1⟩
theorem far3 {W:World} {g gr:Nat} {c:Int} {A:Option Addr} {n k:Nat} (h:CB W g c A n k) (hne:g ≠ gr) {u1 u2 u3:Value}:CB (((W.setCell ⟨gr,0,none⟩ u1).setCell ⟨gr,1,none⟩ u2).setCell ⟨gr,2,none⟩ u3) g c A n k:=blk_far (blk_far (blk_far h hne u1) hne u2) hne u3
def rs_T:Bool × List (List Nat × List Nat):=(true,[([],[]),([0],[0]),([],[]),([2],[2]),([1,3],[1,3]),([],[]),([],[]),([6],[6]),([5,7],[5,7]),([],[]),([9],[9]),([8,10,8],[8,10]),([4,11,11],[4,11]),([12,12,0,1,2,3,4,5,6,7,8,9,10,11,12],[12])])
def rs_B:List Nat:=[0,1,0,4,15,0,0,64,224,0,512,2016,4095,8191]
theorem rs_tab:rtab .any (opsOf Tryz.f12 3)=rs_T:=by kernel_rfl
theorem rs_bits:waitsOk rs_T.2 rs_B=true:=by kernel_rfl
theorem rv_put {w0 W:World} {gr n k:Nat} {c0 e0:Int} {A0:Option Addr} {F:Frm} {e:Int} {A:Option Addr} {m:Nat} {D:List S174} {W1:World} (HB:Below w0.heap.size w0 W) (BR:CE W gr c0 A0 n k e0) (hge:w0.heap.size ≤ gr) (hR:∃ base ok,Kd.R k174 47 W base ok (.slice A D.length m) D) (hD:∀ y ∈ D,Ok w0 y) (hT:D.map trmS=F.T)
 (hW:W1=(((W.setCell ⟨gr,0,none⟩ (.int .i64 F.c)).setCell ⟨gr,1,none⟩ (.slice A D.length m)).setCell ⟨gr,2,none⟩ (.int .i64 e))) :
 RV w0 w0 F e (.returned (.agg #[.int .i64 F.c,.slice A D.length m,.int .i64 e])) W1:=by
 obtain ⟨base,ok,hR⟩:=hR;subst hW;exact ⟨_,_,_,rfl,⟨_,_,Kd.R_set (Kd.R_set (Kd.R_set hR BR (by decide) _ _) BR.put1 (by decide) _ _) BR.put2 (by decide) _ _⟩,hD,hT,below_set (below_set (below_set HB hge) hge) hge⟩
set_option maxHeartbeats 8000000 in
set_option maxRecDepth 100000 in
theorem rnormalV {w:World} {va:Value} {a:Frm} (ha:FormV w va a) (hl:a.T.length ≤ 1000):∃ F e,NormalR a F e∧Calls Tryz.prog 11 #[va] w (RV w w F e):=by
 obtain ⟨A,cap,ys,rfl,hc,hr,ho,hT⟩:=ha;obtain ⟨hv,-⟩:=valid27 a ys hT hl;have key:∃ F e,NormalR a F e∧(¬ validF a→F=⟨0,[]⟩∧e=1)∧(validF a→∀ (w1:World) (A:Option Addr) (cap:Nat),Below w.heap.size w w1→Kd.C k174 w1 A ys.length ys→ys.length ≤ cap→Calls Tryz.prog 28 #[.int .i64 a.c,.slice A ys.length cap] w1 (RV w w1 F e)):=by
  unfold NormalR;by_cases hva:validF a
  ·obtain ⟨F,e,h1,h2⟩:=rnormW a.c ys w ho (by have:=hva.2.1;rw [← hT] at this;simp at this;omega) (bnd_up (bnd_of hT hva) (by omega));rw [hT] at h1;exact ⟨F,e,by rw [if_pos hva];exact h1,fun h => absurd hva h,fun _ => h2⟩
  ·exact ⟨⟨0,[]⟩,1,by rw [if_neg hva];exact ⟨rfl,rfl⟩,fun _ => ⟨rfl,rfl⟩,fun h => absurd h hva⟩
 obtain ⟨F,e,hF,hno,hyes⟩:=key;refine ⟨F,e,hF,?_⟩;clear hF;go_enter Tryz.func11,Tryz.ntmps11
 go_upto_region 0 with fail
 go_cut [1,2] from 3 to 3 (fun s1 s2 wc => ∃ g1 gr,s1=pt g1∧s2=pt gr∧CB wc g1 a.c A ys.length cap∧CE wc gr 0 none 0 0 0∧w.heap.size ≤ gr∧Below w.heap.size w wc)
 case first =>
  go_wp2_with fail
  go_meet;case rel => exact boxr w _ _ _ _
 obtain ⟨g1,gr,rfl,rfl,B1,BR,hge,HB⟩:=hcut;replace hr:=Kd.C_below hr HB;go_upto_region 1 with fail
 go_cut [5] from 3 to 5 (fun s wx => s=.bool (!decide (validF a))∧Below wc.heap.size wc wx)
 case first =>
  obtain ⟨lt1,p10,p11,z10,z11⟩:=B1.all;go_wp2_with (first | (go_at_call 27;(with_reducible refine (udometerref10_Valid.calls 5000 a.c A cap ys _ _ hr hc hv).mono ?_);rintro en w2 ⟨rfl,hb⟩) | go_in)
  go_meet;case rel => exact ⟨rfl,hb⟩
 obtain ⟨rfl,hb⟩:=hcut;replace hr:=Kd.C_below hr hb;replace B1:=B1.step hb;replace BR:=BR.step hb;replace HB:=HB.trans (hb.mono HB.size);clear hb;by_cases hva:validF a
 ·rw [decide_eq_true hva];replace hyes:=hyes hva _ A cap HB hr hc;obtain ⟨lt1,p10,p11,z10,z11⟩:=B1.all;go_wp2_with (first | (go_at_call 28;(with_reducible refine hyes.mono ?_);rintro en w2 ⟨A',k',D,rfl,hR,hD,hT',hb⟩;replace BR:=BR.step hb;replace HB:=HB.trans (hb.mono HB.size);clear lt1 p10 p11 z10 z11;obtain ⟨ltR,pR0,pR1,pR2,zR0,zR1,zR2⟩:=BR.all) | go_in)
  refine bodyPost_ret (ret34 rfl _ rfl BR.put) rfl ?_;exact rv_put HB BR hge hR hD hT' rfl
 ·rw [decide_eq_false hva];obtain ⟨rfl,rfl⟩:=hno hva;obtain ⟨ltR,pR0,pR1,pR2,zR0,zR1,zR2⟩:=BR.all;go_wp2_with fail
  refine bodyPost_ret (ret34 rfl _ rfl BR.put) rfl ?_;exact rv_zero _ (below_set (below_set (below_set HB hge) hge) hge)
set_option maxHeartbeats 8000000 in
set_option maxRecDepth 100000 in
theorem rsumV {w:World} {va vb:Value} {a b:Frm} (ha:FormV w va a) (hl:a.T.length ≤ 1000) (hb:FormV w vb b) (hlb:b.T.length ≤ 1000):∃ F e,SumR a b F e∧Calls Tryz.prog 12 #[va,vb] w (RV w w F e):=by
 obtain ⟨A,cap,ys,rfl,hc,hr,ho,hT⟩:=ha;obtain ⟨A2,cap2,ys2,rfl,hc2,hr2,ho2,hT2⟩:=hb;obtain ⟨hv,-⟩:=valid27 a ys hT hl;obtain ⟨hv2,-⟩:=valid27 b ys2 hT2 hlb;have key:∃ F e,SumR a b F e∧(¬ (validF a∧validF b)→F=⟨0,[]⟩∧e=1)∧(validF a∧validF b→(ys ++ ys2).length ≤ 20∧∀ (w1:World) (A:Option Addr) (cap:Nat),Below w.heap.size w w1→Kd.C k174 w1 A (ys ++ ys2).length (ys ++ ys2)→(ys ++ ys2).length ≤ cap→Calls Tryz.prog 28 #[.int .i64 (wrap64 (a.c + b.c)),.slice A (ys ++ ys2).length cap] w1 (RV w w1 F e)):=by
  unfold SumR;by_cases hva:validF a∧validF b
  ·have h1:=hva.1.2.1;have h2:=hva.2.2.1;rw [← hT] at h1;rw [← hT2] at h2;rw [List.length_map] at h1 h2;(have h3:(ys ++ ys2).length ≤ 20:=by rw [List.length_append];omega);obtain ⟨F,e,h4,h5⟩:=rnormW (a.c + b.c) (ys ++ ys2) w (fun y hy => (List.mem_append.1 hy).elim (ho y) (ho2 y)) h3 (fun y hy => (List.mem_append.1 hy).elim (bnd_up (bnd_of hT hva.1) (by omega) y) (bnd_up (bnd_of hT2 hva.2) (by omega) y));rw [List.map_append,hT,hT2] at h4;have s1:=hva.1.1;have s2:=hva.2.1;unfold sm at s1 s2;exact ⟨F,e,by rw [if_pos hva];exact h4,fun h => absurd hva h,fun _ => ⟨h3,by rw [wrapN (by omega) (by omega)];exact h5⟩⟩
  ·exact ⟨⟨0,[]⟩,1,by rw [if_neg hva];exact ⟨rfl,rfl⟩,fun _ => ⟨rfl,rfl⟩,fun h => absurd h hva⟩
 obtain ⟨F,e,hF,hno,hyes⟩:=key;refine ⟨F,e,hF,?_⟩;clear hF;go_enter Tryz.func12,Tryz.ntmps12
 go_upto_region 0 with fail
 go_cut [2,3,4] from 5 to 5 (fun s1 s3 s2 wc => ∃ g1 g2 gr,s1=pt g1∧s3=pt g2∧s2=pt gr∧CB wc g1 a.c A ys.length cap∧CB wc g2 b.c A2 ys2.length cap2∧CE wc gr 0 none 0 0 0∧w.heap.size ≤ gr∧Below w.heap.size w wc)
 case first =>
  go_wp2_with fail
  go_meet;case rel => exact boxr2 w _ _ _ _ _ _ _ _
 obtain ⟨g1,g2,gr,rfl,rfl,rfl,B1,B2,BR,hge,HB⟩:=hcut;replace hr:=Kd.C_below hr HB;replace hr2:=Kd.C_below hr2 HB;go_upto_region 1 with fail
 go_cut [12] from 5 to 12 (fun s wx => s=.bool (!decide (validF a∧validF b))∧Below wc.heap.size wc wx)
 case first =>
  obtain ⟨lt1,p10,p11,z10,z11⟩:=B1.all;obtain ⟨lt2,p20,p21,z20,z21⟩:=B2.all;go_wp2_with (first | (go_at_call 27;(with_reducible refine (udometerref10_Valid.calls 5000 a.c A cap ys _ _ hr hc hv).mono ?_);rintro en w2 ⟨rfl,hb⟩;replace B2:=B2.step hb;replace hr2:=Kd.C_below hr2 hb;clear lt2 p20 p21 z20 z21;obtain ⟨lt2,p20,p21,z20,z21⟩:=B2.all) | (go_at_call 27;(with_reducible refine (udometerref10_Valid.calls 5000 b.c A2 cap2 ys2 _ _ hr2 hc2 hv2).mono ?_);rintro en w3 ⟨rfl,hb3⟩;replace hb:=hb.trans (hb3.mono hb.size)) | go_in)
  all_goals
   go_meet
   case rel => exact ⟨by first | rfl | (simp_all;done),hb⟩
 obtain ⟨rfl,hb⟩:=hcut;replace hr:=Kd.C_below hr hb;replace hr2:=Kd.C_below hr2 hb;replace B1:=B1.step hb;replace B2:=B2.step hb;replace BR:=BR.step hb;replace HB:=HB.trans (hb.mono HB.size);clear hb;by_cases hva:validF a∧validF b
 ·rw [decide_eq_true hva];obtain ⟨h20,hyes⟩:=hyes hva;have ne1:g1 ≠ gr:=by rintro rfl;have:=B1.symm.trans BR;simp at this
  have ne2:g2 ≠ gr:=by rintro rfl;have:=B2.symm.trans BR;simp at this
  go_upto_region 3 with fail
  have HX:Below wc.heap.size wc wc.drew:=Below.drew (Below.refl _ _);refine start_ (n:=14) (S:=fun w' => w'.cell? ⟨g1,0,none⟩=some (.int .i64 a.c)∧w'.cell? ⟨g1,1,none⟩=some (.slice A ys.length cap)∧w'.cell? ⟨g2,0,none⟩=some (.int .i64 b.c)∧w'.cell? ⟨g2,1,none⟩=some (.slice A2 ys2.length cap2)) (ds:=[]) #[false,false,false,false,false,false,false,false,false,false,false,false,false,false] kr rfl rfl (held2 (B1.step HX) (B2.step HX)) (fun hHeld => ?_);refine with_tabW rs_tab rs_bits (fun HT_ HW_ => ?_);generalize wc.drew=w20 at HX hHeld ⊢;refine pS 0 (some 14) ?_;refine pS 2 (some 16) ?_;refine pS 6 (some 20) ?_;refine pS 9 (some 23) ?_;refine pT 1 (some 15) ?_;refine pT 3 (some 17) ?_;refine pS 4 (some 18) ?_;refine pT 7 (some 21) ?_;refine pT 10 (some 24) ?_;refine one_ (i:=5) (N:=some 19) #[true,true,true,true,true,true,true,true,false,true,true,false,false,false] rfl rfl (one_of HT_.out kr) (by decide) (fun K hK => ?_);refine Kd.R_lit_step k174 (w0:=wc) wc.heap.size 47 ?hg (N:=19) ?hd (xs:=([]:List S174)) (inner:=[]) (ok:=fun _ => True) (okp:=fun _ => True) ?hr ?hp (fun _ hk => hk) trivial HX HX.size (by simp) ?_;(case hd => rfl);(case hg => rfl);(case hr => first | (go_simp;done) | (go_simp;rfl));(case hp => exact (Reps.none _ _))
  intro v1 w1 ho1 hb1 _ _;refine hK.out _ _ (held2 (B1.step hb1) (B2.step hb1)) (fun hHeld => ?_);clear hK K;refine norm_ (a':=?_) ?_ ?_;rotate_left
  ·show Act.put _ (some 19) _=_;simp only [Act.put,List.setIfInBounds_toArray,List.set_cons_zero,List.set_cons_succ,i64_w,i32_w];rfl
  refine one_ (i:=8) (N:=some 22) #[true,true,true,true,true,true,true,true,true,true,true,false,false,false] rfl rfl (one_of HT_.out kr) (by decide) (fun K hK => ?_);refine Kd.R_append_rows_step k174 (w0:=wc) wc.heap.size (by rfl) (.tmp 19) (.tmp 21) 22 47 (.agg #[(.int .i64 0),(.int .i64 0),(.int .i64 0),(.slice none 0 0),(.int .i64 0),(.int .i64 0)]) 64 rfl Tryz.underlying22 info47 rfl (by decide) (by omega) v1 [] ys _ _ _ (fun _ => True) (fun _ => False) rfl rfl ho1 (Kd.C_below hr hb1) (fun _ _ h => h) (fun _ h => h.elim) (fun _ _ => trivial) hb1 hb1.size (by simp;simp at h20;omega) ?_;intro v2 w2 ho2 hb2 _ _;refine hK.out _ _ (held2 (B1.step hb2) (B2.step hb2)) (fun hHeld => ?_);clear hK K;refine norm_ (a':=?_) ?_ ?_;rotate_left
  ·show Act.put _ (some 22) _=_;simp only [Act.put,List.setIfInBounds_toArray,List.set_cons_zero,List.set_cons_succ,i64_w,i32_w];rfl
  refine one_ (i:=11) (N:=some 25) #[true,true,true,true,true,true,true,true,true,true,true,true,false,false] rfl rfl (one_of HT_.out kr) (by decide) (fun K hK => ?_);refine Kd.R_append_rows_step k174 (w0:=wc) wc.heap.size (by rfl) (.tmp 22) (.tmp 24) 22 47 (.agg #[(.int .i64 0),(.int .i64 0),(.int .i64 0),(.slice none 0 0),(.int .i64 0),(.int .i64 0)]) 64 rfl Tryz.underlying22 info47 rfl (by decide) (by omega) v2 ([] ++ ys) ys2 _ _ _ (fun _ => True) (fun _ => False) rfl rfl ho2 (Kd.C_below hr2 hb2) (fun _ _ h => h) (fun _ h => h.elim) (fun _ _ => trivial) hb2 hb2.size (by simp;simp at h20;omega) ?_;intro v3 w3 ho3 hb3 _ _;rw [List.nil_append] at ho3;obtain ⟨A3,k3,rfl⟩:=Kd.R_slice ho3;obtain ⟨_,hk3,hC3⟩:=Kd.R_reads' ho3;have HB3:=HB.trans (hb3.mono HB.size);refine hK.out _ _ (held2 (B1.step hb3) (B2.step hb3)) (fun hHeld => ?_);clear hK K;refine norm_ (a':=?_) ?_ ?_;rotate_left
  ·show Act.put _ (some 25) _=_;simp only [Act.put,List.setIfInBounds_toArray,List.set_cons_zero,List.set_cons_succ,i64_w,i32_w];rfl
  refine one_ (i:=12) (N:=some 26) #[true,true,true,true,true,true,true,true,true,true,true,true,true,false] rfl rfl (one_of HT_.out kr) (by decide) (fun K hK => ?_);refine goes_ Tryz.func28 kr rfl #[.int .i64 (wrap64 (a.c + b.c)),.slice A3 (ys ++ ys2).length k3] (by rfl) rfl rfl ag ?_;with_reducible refine (hyes _ A3 k3 HB3 hC3 hk3).mono ?_
  rintro en w4 ⟨A',k',D,rfl,hR,hD,hT',hb4⟩;refine ⟨_,rfl,?_⟩;replace BR:=(BR.step hb3).step hb4;replace B1:=(B1.step hb3).step hb4;replace B2:=(B2.step hb3).step hb4;replace HB:=HB3.trans (hb4.mono HB3.size);obtain ⟨ltR,pR0,pR1,pR2,zR0,zR1,zR2⟩:=BR.all;refine hK.out _ _ (held2 B1 B2) (fun hHeld => ?_);clear hK K;refine norm_ (a':=?_) ?_ ?_;rotate_left
  ·show Act.put _ (some 26) _=_;simp only [Act.put,List.setIfInBounds_toArray,List.set_cons_zero,List.set_cons_succ,i64_w,i32_w];rfl
  refine one_ (i:=13) (N:=none) #[true,true,true,true,true,true,true,true,true,true,true,true,true,true] rfl rfl (one_of HT_.out kr) (by decide) (fun K hK => ?_);refine skip_ (w1:=?_) (by rfl) rfl ?_ ?_;rotate_left
  ·go_simp;rfl
  refine hK.out _ _ (held2 (far3 B1 ne1) (far3 B2 ne2)) (fun hHeld => ?_);clear hK K;refine Go.Proofs.YtkemjdedikobfaaGreatDoorW.PrintLast.done_ (done_of HT_.out kr) ?_;try go_wp2
  refine bodyPost_ret (ret34 rfl _ rfl BR.put) rfl ?_;exact rv_put HB BR hge hR hD hT' rfl
 ·rw [decide_eq_false hva];obtain ⟨rfl,rfl⟩:=hno hva;obtain ⟨ltR,pR0,pR1,pR2,zR0,zR1,zR2⟩:=BR.all;go_wp2_with fail
  refine bodyPost_ret (ret34 rfl _ rfl BR.put) rfl ?_;exact rv_zero _ (below_set (below_set (below_set HB hge) hge) hge)
end Go.Proofs.YtkemjdedikobfaaGreatDoor.Sem
namespace Go.Proofs.YtkemjdedikobfaaGreatDoor.Sem
open PSx Go.RowKit Go.Proofs.YtkemjdedikobfaaGreatDoorW.PrintWords Go.Proofs.YtkemjdedikobfaaGreatDoorW.PrintLast Go.Proofs.YtkemjdedikobfaaGreatDoorW.PrintMore
theorem mxAbs {x:Int} (h0:-9000000000000000 ≤ x) (h1:x ≤ 9000000000000000):mx x (wrap64 (-x))=(x.natAbs:Int):=by rw [wrapN (by omega) (by omega)];unfold mx;split <;> omega
theorem fitsE {c n:Int} (hc:sm c) (hn:sm n):udometerref10_fits.f c n=some (decide (sm (c * n))):=by
 have hc':=hc;have hn':=hn;unfold sm at hc' hn';unfold udometerref10_fits.f;by_cases c0:c=0
 ·subst c0;rw [if_pos rfl,decide_eq_true (by unfold sm;rw [Int.zero_mul];omega)]
 ·rw [if_neg c0];by_cases n0:n=0
  ·subst n0;rw [if_pos rfl,decide_eq_true (by unfold sm;rw [Int.mul_zero];omega)]
  ·rw [if_neg n0,mxAbs (by omega) (by omega),mxAbs (by omega) (by omega),if_neg (by omega)];(have hq:Int.tdiv (1099511627776:Int) (c.natAbs:Int)=((1099511627776 / c.natAbs:Nat):Int):=by rw [Int.tdiv_eq_ediv_of_nonneg (by omega)];rfl);have hle:1099511627776 / c.natAbs ≤ 1099511627776:=Nat.div_le_self _ _;have h1:n.natAbs ≤ 1099511627776 / c.natAbs ↔ n.natAbs * c.natAbs ≤ 1099511627776:=Nat.le_div_iff_mul_le (by omega);(have h2:(c * n).natAbs=n.natAbs * c.natAbs:=by rw [Int.natAbs_mul,Nat.mul_comm]);rw [← h2] at h1;rw [hq];generalize 1099511627776 / c.natAbs=Q at h1 hle;rw [wrapN (by omega) (by omega)];congr 1;rw [decide_eq_decide];unfold sm;generalize c * n=P at h1;omega
theorem times_law {n c:Int} {T:List Trm} {F2 F1 F0:Frm} {e2 e1 e0:Int} (h2:NormR 1 c T F2 e2) (h1:NormR 1 (c * n) (mul n T) F1 e1) (h0:NormR 1 0 (mul n T) F0 e0) :
 NormR n c T (if sm (c * n) then F1 else if e0=2 then F0 else ⟨0,[]⟩) (if sm (c * n) then e1 else if e0=2 then e0 else 3):=by
 obtain ⟨D,sD,zD,cD,-⟩:=h2;obtain ⟨D1,s1,z1,c1,o1⟩:=h1;obtain ⟨D0,s0,z0,c0,o0⟩:=h0;simp only [if_neg (show ¬ (1:Int)=0 by decide),co_mul] at cD c1 c0;rw [outOne] at o1 o0;by_cases hn:n=0
 ·subst hn;obtain rfl:D1=[]:=uniq _ _ s1 List.Pairwise.nil z1 (fun t ht => by cases ht) (fun G => by rw [c1,Int.mul_zero];rfl);rw [if_neg (by simp),Int.mul_zero,if_pos (by unfold validF sm;simp)] at o1;obtain ⟨hF,he⟩:=frm_of o1;rw [Int.mul_zero,if_pos (by unfold sm;omega),if_pos (by unfold sm;omega),hF,he];exact ⟨[],List.Pairwise.nil,fun t ht => (by cases ht),fun G => by rw [if_pos rfl];rfl,by simp [outN,mul]⟩
 ·have e1':D1=mul n D:=uniq _ _ s1 (srt_mul sD) z1 (nz_mul hn zD) (fun G => by rw [c1,co_mul,cD]);have e0':D0=mul n D:=uniq _ _ s0 (srt_mul sD) z0 (nz_mul hn zD) (fun G => by rw [c0,co_mul,cD]);subst e1' e0';refine ⟨D,sD,zD,fun G => by rw [if_neg hn];exact cD G,?_⟩;have hl:(mul n D).length=D.length:=List.length_map ..;rw [hl] at o1 o0;unfold outN;by_cases h5:D.length > 5
  ·rw [if_pos h5] at o1 o0 ⊢;obtain ⟨rfl,rfl⟩:=frm_of o1;obtain ⟨rfl,rfl⟩:=frm_of o0;by_cases hs:sm (c * n)
   ·simp only [if_pos hs]
   ·simp [if_neg hs]
  ·rw [if_neg h5] at o1 o0 ⊢;have hv:∀ x,validF ⟨x,mul n D⟩ ↔ sm x∧(D.all fun t => decide (cf (t.c * n)))=true:=fun x => by
    unfold validF;constructor
    ·rintro ⟨a1,a2,a3⟩;exact ⟨a1,List.all_eq_true.2 fun t ht => decide_eq_true (a3 ⟨t.c * n,t.F⟩ (List.mem_map.2 ⟨t,ht,rfl⟩))⟩
    ·rintro ⟨a1,a2⟩;refine ⟨a1,by simp only [hl];omega,fun t ht => ?_⟩;obtain ⟨y,hy,rfl⟩:=List.mem_map.1 ht;exact of_decide_eq_true (List.all_eq_true.1 a2 y hy)
   rw [if_neg hn];by_cases hs:sm (c * n)
   ·simp only [if_pos hs,if_pos (show sm (n * c) by rw [Int.mul_comm];exact hs)];by_cases ha:(D.all fun t => decide (cf (t.c * n)))=true
    ·rw [if_pos ((hv _).2 ⟨hs,ha⟩)] at o1;rw [if_pos ha,Int.mul_comm n c];exact o1
    ·rw [if_neg (fun h => ha ((hv _).1 h).2)] at o1;rw [if_neg ha];exact o1
   ·have hne:e0 ≠ 2:=by
     by_cases hv0:validF ⟨0,mul n D⟩
     ·rw [if_pos hv0] at o0;rw [(frm_of o0).2];decide
     ·rw [if_neg hv0] at o0;rw [(frm_of o0).2];decide
    simp only [if_neg hs,if_neg hne,if_neg (show ¬ sm (n * c) by rw [Int.mul_comm];exact hs)];split <;> rfl
end Go.Proofs.YtkemjdedikobfaaGreatDoor.Sem
namespace Go.Proofs.YtkemjdedikobfaaGreatDoor.Sem
open Sh PSx Go.RowKit Go.Proofs.YtkemjdedikobfaaGreatDoorW.PrintWords Go.Proofs.YtkemjdedikobfaaGreatDoorW.PrintLast Go.Proofs.YtkemjdedikobfaaGreatDoorW.PrintMore
set_option linter.unusedVariables false
set_option linter.unusedSimpArgs false
def rt_T:Bool × List (List Nat × List Nat):=(true,[([],[]),([],[]),([1],[1]),([],[]),([2,3],[2,3]),([4],[4]),([5],[5]),([],[]),([6,7],[6,7]),([],[]),([9],[9]),([],[]),([10,11],[10,11]),([12],[12]),([13],[13]),([8,14],[8,14]),([15],[15]),([0,16],[0,16]),([17,17,0,1,2,3,4,5,6,7,8,9,10,11,12,13,14,15,16,17],[0,17])])
def rt_B:List Nat:=[0,0,2,0,14,30,62,0,254,0,512,0,3584,7680,15872,32766,65534,131071,262143]
theorem rt_tab:rtab .any (opsOf Tryz.f13 7)=rt_T:=by kernel_rfl
theorem rt_bits:waitsOk rt_T.2 rt_B=true:=by kernel_rfl
def scl (n:Int) (y:S174):S174:=⟨y.f0 * n,y.f1⟩
set_option maxHeartbeats 8000000 in
set_option maxRecDepth 100000 in
theorem rtimesV {w:World} {va:Value} {a:Frm} (n:Int) (ha:FormV w va a) (hl:a.T.length ≤ 1000):∃ F e,TimesR a n F e∧Calls Tryz.prog 13 #[va,.int .i64 n] w (RV w w F e):=by
 obtain ⟨A,cap,ys,rfl,hc,hr,ho,hT⟩:=ha;obtain ⟨hv,-⟩:=valid27 a ys hT hl;have hcn:udometerref10_constant.f n=some (decide (sm n)):=by
  have e:sm n ↔ (-1099511627776 ≤ n∧n ≤ 1099511627776):=Iff.rfl;unfold udometerref10_constant.f;by_cases h1:n ≥ -1099511627776
  ·rw [if_pos h1];congr 1;rw [decide_eq_decide,e];omega
  ·rw [if_neg h1,decide_eq_false (fun h => h1 (e.1 h).1)]
 have key:∃ F e,TimesR a n F e∧(¬ (validF a∧sm n)→F=⟨0,[]⟩∧e=1)∧(validF a∧sm n→ys.length ≤ 5∧(∀ y ∈ ys,wrap64 (y.f0 * n)=y.f0 * n)∧udometerref10_fits.f a.c n=some (decide (sm (a.c * n)))∧∃ F0 e0,
  F=(if sm (a.c * n) then F else if e0=2 then F0 else ⟨0,[]⟩)∧e=(if sm (a.c * n) then e else if e0=2 then e0 else 3) ∧
  (sm (a.c * n)→∀ (w1:World) (A:Option Addr) (cap:Nat),Below w.heap.size w w1→Kd.C k174 w1 A (ys.map (scl n)).length (ys.map (scl n))→(ys.map (scl n)).length ≤ cap→Calls Tryz.prog 28 #[.int .i64 (wrap64 (a.c * n)),.slice A (ys.map (scl n)).length cap] w1 (RV w w1 F e)) ∧
  ∀ (w1:World) (A:Option Addr) (cap:Nat),Below w.heap.size w w1→Kd.C k174 w1 A (ys.map (scl n)).length (ys.map (scl n))→(ys.map (scl n)).length ≤ cap→Calls Tryz.prog 28 #[.int .i64 0,.slice A (ys.map (scl n)).length cap] w1 (RV w w1 F0 e0)):=by
  unfold TimesR;by_cases hva:validF a∧sm n
  ·have h5:=hva.1.2.1;rw [← hT,List.length_map] at h5;have hb:=bnd_of hT hva.1;have hn:=hva.2;have hcs:=hva.1.1;(have hbn:∀ y ∈ ys,-100000000000000 ≤ y.f0 * n∧y.f0 * n ≤ 100000000000000:=fun y hy => by have h1:=hb y hy;(have h2:(y.f0 * n).natAbs ≤ 50 * 1099511627776:=by rw [Int.natAbs_mul];exact Nat.mul_le_mul (by omega) (by unfold sm at hn;omega));omega);have hbc:-9000000000000000 ≤ a.c * n∧a.c * n ≤ 9000000000000000 ∨ ¬ sm (a.c * n):=by
    by_cases h:sm (a.c * n)
    ·exact .inl (by unfold sm at h;omega)
    ·exact .inr h
   (have hmT:(ys.map (scl n)).map trmS=mul n a.T:=by rw [← hT];unfold mul;rw [List.map_map,List.map_map];rfl);(have hox:∀ y ∈ ys.map (scl n),Ok w y:=fun y hy => by obtain ⟨z,hz,rfl⟩:=List.mem_map.1 hy;exact ho z hz);(have hbx:bnd 100000000000000 (ys.map (scl n)):=fun y hy => by obtain ⟨z,hz,rfl⟩:=List.mem_map.1 hy;exact hbn z hz);(have hlx:(ys.map (scl n)).length ≤ 20:=by rw [List.length_map];omega);obtain ⟨F2,e2,q2,-⟩:=rnormW a.c ys w ho (by omega) (bnd_up hb (by omega));obtain ⟨F1,e1,q1,r1⟩:=rnormW (a.c * n) (ys.map (scl n)) w hox hlx hbx;obtain ⟨F0,e0,q0,r0⟩:=rnormW 0 (ys.map (scl n)) w hox hlx hbx;rw [hT] at q2;rw [hmT] at q1 q0;refine ⟨_,_,by rw [if_pos hva];exact times_law q2 q1 q0,fun h => absurd hva h,fun _ => ⟨h5,fun y hy => by have:=hbn y hy;exact wrapN (by omega) (by omega),fitsE hcs hn,F0,e0,?_,?_,fun hs => ?_,r0⟩⟩
   ·by_cases hs:sm (a.c * n) <;> simp [hs]
   ·by_cases hs:sm (a.c * n) <;> simp [hs]
   ·rw [if_pos hs,if_pos hs,wrapN (by unfold sm at hs;omega) (by unfold sm at hs;omega)];exact r1
  ·exact ⟨⟨0,[]⟩,1,by rw [if_neg hva];exact ⟨rfl,rfl⟩,fun _ => ⟨rfl,rfl⟩,fun h => absurd h hva⟩
 obtain ⟨F,e,hF,hno,hyes⟩:=key;refine ⟨F,e,hF,?_⟩;clear hF;go_enter Tryz.func13,Tryz.ntmps13
 go_upto_region 0 with fail
 go_cut [2,4] from 5 to 5 (fun s1 s2 wc => ∃ g1 gr,s1=pt g1∧s2=pt gr∧CB wc g1 a.c A ys.length cap∧CE wc gr 0 none 0 0 0∧w.heap.size ≤ gr∧Below w.heap.size w wc)
 case first =>
  go_wp2_with fail
  go_meet;case rel => exact boxr w _ _ _ _
 obtain ⟨g1,gr,rfl,rfl,B1,BR,hge,HB⟩:=hcut;replace hr:=Kd.C_below hr HB;go_upto_region 1 with fail
 go_cut [15] from 8 to 15 (fun s wx => s=.bool (!decide (validF a∧sm n))∧Below wc.heap.size wc wx)
 case first =>
  obtain ⟨lt1,p10,p11,z10,z11⟩:=B1.all;clear hyes hno;generalize hA:decide (validF a)=bA at hv;generalize hN:decide (sm n)=bN at hcn;have hbb:(!decide (validF a∧sm n))=!(bA && bN):=by subst hA hN;simp only [Bool.decide_and]
  replace hbb:=ak hbb;clear hA hN;cases bA <;> cases bN;all_goals
   go_wp2_with (first | (go_at_call 27;(with_reducible refine (udometerref10_Valid.calls 5000 a.c A cap ys _ _ hr hc hv).mono ?_);rintro en w2 ⟨rfl,hb⟩) | (go_at_call 29;(with_reducible refine (udometerref10_constant.calls n _ _ hcn).mono ?_);rintro en w3 ⟨rfl,⟨nd,rfl⟩⟩;replace hb:=pw_below_drewN hb nd) | go_in)
   go_meet
   case rel => exact ⟨by rw [hbb.out];rfl,hb⟩
 obtain ⟨rfl,hb⟩:=hcut;replace hr:=Kd.C_below hr hb;replace B1:=B1.step hb;replace BR:=BR.step hb;replace HB:=HB.trans (hb.mono HB.size);clear hb;by_cases hva:validF a∧sm n
 ·rw [decide_eq_true hva];obtain ⟨h5,hwr,hfit,F0,e0,hF,he,hy1,hy0⟩:=hyes hva;replace hF:=ak hF;replace he:=ak he;have hB0:=Below.refl wc.heap.size wc;go_wp2_with fail
  go_loopg [5,6] ys.length (fun kq v5 v6 w' => ∃ (x:Int) (i:Nat),v6=.int .i64 x∧Aside0 (x=i∧i + kq=ys.length)∧Aside0 (Kd.R k174 47 w' wc.heap.size (fun _ => True) v5 ((ys.take i).map (scl n)))∧Aside0 (Below wc.heap.size wc w'))
  case atStart => exact ⟨0,0,rfl,⟨rfl,by omega⟩,⟨Kd.R_nil _ _ _ _ _⟩,⟨hB0⟩⟩
  case round =>
   obtain ⟨x,i,rfl,⟨hx,hi⟩,⟨hR⟩,⟨hX⟩⟩:=hrel;have HB':=HB.trans (hX.mono HB.size);cases gk with
   | zero =>
    have c4:decide (x < (ys.length:Int))=false:=decide_eq_false (by omega);have hti:ys.take i=ys:=List.take_of_length_le (by omega);rw [hti] at hR;clear hi hx hti;generalize ys.map (scl n)=xs at hR hy1 hy0;obtain ⟨A3,k3,rfl⟩:=Kd.R_slice hR;obtain ⟨_,hk3,hC3⟩:=Kd.R_reads' hR;obtain ⟨lt1,p10,p11,z10,z11⟩:=(B1.step hX).all;replace BR:=BR.step hX;by_cases hs:sm (a.c * n)
    ·rw [decide_eq_true hs] at hfit;replace hy1:=hy1 hs;clear hF he hy0;(go_wp2_with (first | (go_at_call 30;(with_reducible refine (udometerref10_fits.calls a.c n _ _ hfit).mono ?_);rintro en w2 ⟨rfl,hb2⟩;replace BR:=BR.step hb2;replace HB':=HB'.trans (hb2.mono HB'.size);replace hC3:=Kd.C_below hC3 hb2;clear lt1 p10 p11 z10 z11;obtain ⟨lt1,p10,p11,z10,z11⟩:=((B1.step hX).step hb2).all) | (go_at_call 28;(with_reducible refine (hy1 _ A3 k3 HB' hC3 hk3).mono ?_);rintro en w4 ⟨A',k',D,rfl,hR',hD,hT',hb4⟩;replace BR:=BR.step hb4;replace HB':=HB'.trans (hb4.mono HB'.size);obtain ⟨ltR,pR0,pR1,pR2,zR0,zR1,zR2⟩:=BR.all) | go_in));refine bodyPost_ret (ret34 rfl _ rfl BR.put) rfl ?_;exact rv_put HB' BR hge hR' hD hT' rfl
    ·rw [decide_eq_false hs] at hfit;replace hF:=hF.out;replace he:=he.out;rw [if_neg hs] at hF he;replace hF:=ak hF;replace he:=ak he;clear hy1;(go_upto_region 8 with fail);(go_cut [46] from 7 to 46 (fun s wx => s=.bool true∧Below wr.heap.size wr wx));(case first => (go_wp2_with (first | (go_at_call 30;(with_reducible refine (udometerref10_fits.calls a.c n _ _ hfit).mono ?_);rintro en w2 ⟨rfl,hb2⟩) | go_in));go_meet;case rel => exact ⟨rfl,hb2⟩);obtain ⟨rfl,hb2⟩:=hcut;replace BR:=BR.step hb2;replace HB':=HB'.trans (hb2.mono HB'.size);replace hC3:=Kd.C_below hC3 hb2;clear lt1 p10 p11 z10 z11 hX hb2;(go_upto_region 9 with fail);(go_cut [7] from 46 to 48 (fun s wx => ∃ g7 A' k' D,s=pt g7∧CE wx g7 F0.c A' D.length k' e0∧(∃ base ok,Kd.R k174 47 wx base ok (.slice A' D.length k') D)∧(∀ y ∈ D,Ok w y)∧D.map trmS=F0.T∧Below wc.heap.size wc wx));(case first => (go_wp2_with (first | (go_at_call 28;(with_reducible refine (hy0 _ A3 k3 HB' hC3 hk3).mono ?_);rintro en w4 ⟨A',k',D,rfl,hR',hD,hT',hb4⟩) | go_in));go_meet;case rel => obtain ⟨_,_,hR'⟩:=hR';exact ⟨_,A',k',D,rfl,wnew w4 _,⟨_,_,Kd.R_alloc hR' _⟩,hD,hT',hb4.trans ((bl_new w4 _).mono hb4.size)⟩);obtain ⟨g7,A',k',D,rfl,B7,hR',hD,hT',hb4⟩:=hcut;replace BR:=BR.step hb4;replace HB':=HB'.trans (hb4.mono HB'.size);obtain ⟨lt7,p70,p71,p72,z70,z71,z72⟩:=B7.all;obtain ⟨ltR,pR0,pR1,pR2,zR0,zR1,zR2⟩:=BR.all;replace hF:=hF.out;replace he:=he.out;by_cases h2:e0=2
     ·rw [if_pos h2] at hF he;subst hF he h2;(go_wp2_with fail);refine bodyPost_ret (ret34 rfl _ rfl BR.put) rfl ?_;exact rv_put HB' BR hge hR' hD hT' rfl
     ·rw [if_neg h2] at hF he;subst hF he;(have c1:(e0 == 2)=false:=by simpa using h2);have c2:decide (e0=2)=false:=decide_eq_false h2;clear h2;(go_wp2_with fail);refine bodyPost_ret (ret34 rfl _ rfl BR.put) rfl ?_;exact rv_zero _ (below_set (below_set (below_set HB' hge) hge) hge)
   | succ k1 =>
    (have hlt:i < ys.length:=by omega);have c4:decide (x < (ys.length:Int))=true:=decide_eq_true (by omega);obtain ⟨ad,e,hx0,hx1,hx2,hx3,hx4,hx5⟩:=at_T174 hr x (by omega) (by omega);cases e;have p:(0 ≤ x)=True:=eq_true (by omega);have q:(x < (ys.length:Int))=True:=eq_true (by omega);(have hin:x.toNat=i:=by omega);(have ea:rd_T174 ys x=ys[i]:=by unfold rd_T174;rw [hin,List.getD_eq_getElem?_getD,List.getElem?_eq_getElem hlt];rfl);have hw0:=hwr _ (List.getElem_mem hlt);rw [← ea] at hw0;generalize hy:rd_T174 ys x=y at hx0 hx1 hx2 hx3 hx4 hx5 hw0;have HX:=ak hx;have HI:=ak hi;have HY:=ak (hy.symm.trans ea);have HIN:=ak hin;clear hx hi hin ea hy;obtain ⟨lt1,p10,p11,z10,z11⟩:=(B1.step hX).all;have HW0:=ak (show (⟨wrap64 (y.f0 * n),y.f1⟩:S174)=scl n y by rw [hw0];rfl);clear hw0;have hu24:=Tryz.underlying24;(go_upto_region 7 with fail);have hXd:=below_drew1 hX;refine start_ (n:=19) (S:=fun w' => w'.cell? ⟨g1,0,none⟩=some (.int .i64 a.c)∧w'.cell? ⟨g1,1,none⟩=some (.slice (some ad) ys.length cap)∧w'.cell? (ad.add (x.toNat * 6))=some (.int .i64 y.f0)∧w'.cell? ⟨(ad.add (x.toNat * 6)).block,(ad.add (x.toNat * 6)).off + 1,none⟩=some (.int .i64 y.f1.f0)∧w'.cell? ⟨(ad.add (x.toNat * 6)).block,(ad.add (x.toNat * 6)).off + 2,none⟩=some (.int .i64 y.f1.f1)∧w'.cell? ⟨(ad.add (x.toNat * 6)).block,(ad.add (x.toNat * 6)).off + 3,none⟩=some (svv y.f1.f2)∧w'.cell? ⟨(ad.add (x.toNat * 6)).block,(ad.add (x.toNat * 6)).off + 4,none⟩=some (.int .i64 y.f1.f3.f0)∧w'.cell? ⟨(ad.add (x.toNat * 6)).block,(ad.add (x.toNat * 6)).off + 5,none⟩=some (.int .i64 y.f1.f3.f1)) (ds:=[]) #[false,false,false,false,false,false,false,false,false,false,false,false,false,false,false,false,false,false,false] kr rfl rfl ⟨(B1.step hXd).all.2.1,(B1.step hXd).all.2.2.1,cellB hXd hx0,cellB hXd hx1,cellB hXd hx2,cellB hXd hx3,cellB hXd hx4,cellB hXd hx5⟩ (fun hHeld => ?_);refine with_tabW rt_tab rt_bits (fun HT_ HW_ => ?_);refine pS 0 (some 24) ?_;refine pS 1 (some 25) ?_;refine pS 3 (some 27) ?_;refine pS 7 (some 31) ?_;refine pS 9 (some 33) ?_;refine pS 11 (some 35) ?_;refine pT 2 (some 26) ?_;refine pS 4 (some 28) ?_;refine pS 5 (some 29) ?_;refine pT 6 (some 30) ?_;refine pS 8 (some 32) ?_;refine pT 10 (some 34) ?_;refine pS 12 (some 36) ?_;refine pS 13 (some 37) ?_;refine pT 14 (some 38) ?_;refine pS 15 (some 39) ?_;refine one_ (i:=16) (N:=some 40) #[true,true,true,true,true,true,true,true,true,true,true,true,true,true,true,true,true,false,false] rfl rfl (one_of HT_.out kr) (by decide) (fun K hK => ?_);refine value_ (w1:=?_) (v:=?_) (by rfl) rfl ?_ ?_;rotate_left 2
    ·go_simp;constructor
     ·rfl
     ·rfl
    have hXa:=below_alloc hXd (.cells [.int .i64 (wrap64 (y.f0 * n)),.int .i64 y.f1.f0,.int .i64 y.f1.f1,(svv y.f1.f2),.int .i64 y.f1.f3.f0,.int .i64 y.f1.f3.f1].toArray 47);refine hK.out _ _ ⟨(B1.step hXa).all.2.1,(B1.step hXa).all.2.2.1,cellB hXa hx0,cellB hXa hx1,cellB hXa hx2,cellB hXa hx3,cellB hXa hx4,cellB hXa hx5⟩ (fun hHeld => ?_);clear hK K;refine norm_ (a':=?_) ?_ ?_;rotate_left
    ·show Act.put _ (some 40) _=_;simp only [Act.put,List.setIfInBounds_toArray,List.set_cons_zero,List.set_cons_succ,i64_w,i32_w];rfl
    refine one_ (i:=17) (N:=some 41) #[true,true,true,true,true,true,true,true,true,true,true,true,true,true,true,true,true,true,false] rfl rfl (one_of HT_.out kr) (by decide) (fun K hK => ?_);refine Kd.R_append_step k174 (w0:=wc) wc.heap.size (by rfl) (.tmp 24) (.tmp 40) 22 47 (.agg #[(.int .i64 0),(.int .i64 0),(.int .i64 0),(.slice none 0 0),(.int .i64 0),(.int .i64 0)]) 64 rfl Tryz.underlying22 info47 rfl (by decide) (by omega) u5 ((ys.take i).map (scl n)) (⟨wrap64 (y.f0 * n),y.f1⟩:S174) [.int .i64 (wrap64 (y.f0 * n)),.int .i64 y.f1.f0,.int .i64 y.f1.f1,(svv y.f1.f2),.int .i64 y.f1.f3.f0,.int .i64 y.f1.f3.f1] (fun _ => True) (fun _ => False) rfl rfl (k174_mkM _ _ _ (⟨wrap64 (y.f0 * n),y.f1⟩:S174)) (fun _ hk => hk.elim) (fun _ _ => trivial) (Kd.R_drew hR) hXd hXd.size (by simp;omega) ?_;intro v3 w3 ho3 hb3 _ _;refine hK.out _ _ ⟨(B1.step hb3).all.2.1,(B1.step hb3).all.2.2.1,cellB hb3 hx0,cellB hb3 hx1,cellB hb3 hx2,cellB hb3 hx3,cellB hb3 hx4,cellB hb3 hx5⟩ (fun hHeld => ?_);clear hK K;refine norm_ (a':=?_) ?_ ?_;rotate_left
    ·show Act.put _ (some 41) _=_;simp only [Act.put,List.setIfInBounds_toArray,List.set_cons_zero,List.set_cons_succ,i64_w,i32_w];rfl
    refine pS 18 (some 5) ?_;refine Go.Proofs.YtkemjdedikobfaaGreatDoorW.PrintLast.done_ (done_of HT_.out kr) ?_;(try go_wp2);(go_roundg k1);(case measure => omega);case rel =>
     refine ⟨wrap64 (x + 1),i + 1,rfl,⟨?_,?_⟩,⟨?_⟩,⟨hb3⟩⟩
     ·have:=HX.out;rw [this,wrapN (by omega) (by omega)];omega
     ·have:=HI.out;omega
     ·rw [HW0.out,HY.out] at ho3;rw [show ys.take (i + 1)=ys.take i ++ [ys[i]] by rw [List.take_add_one,List.getElem?_eq_getElem hlt];rfl,List.map_append];exact ho3
 ·rw [decide_eq_false hva];obtain ⟨rfl,rfl⟩:=hno hva;obtain ⟨ltR,pR0,pR1,pR2,zR0,zR1,zR2⟩:=BR.all;go_wp2_with fail
  refine bodyPost_ret (ret34 rfl _ rfl BR.put) rfl ?_;exact rv_zero _ (below_set (below_set (below_set HB hge) hge) hge)
end Go.Proofs.YtkemjdedikobfaaGreatDoor.Sem
namespace Go.Proofs.YtkemjdedikobfaaGreatDoor.Sem
open Sh PSx Go.RowKit Go.Proofs.YtkemjdedikobfaaGreatDoorW.PrintWords Go.Proofs.YtkemjdedikobfaaGreatDoorW.PrintLast Go.Proofs.YtkemjdedikobfaaGreatDoorW.PrintMore
set_option linter.unusedVariables false
set_option linter.unusedSimpArgs false
theorem boxm (w:World) (c:Int) (A:Option Addr) (n k:Nat) (c' e':Int) (A':Option Addr) (n' k':Nat):∃ g1 gr,pt w.heap.size=pt g1∧pt (w.heap.size + 1)=pt gr ∧
 CB ((w.alloc (.cells #[.int .i64 c,.slice A n k] 24)).alloc (.cells #[.int .i64 c',.slice A' n' k',.int .i64 e'] 34)) g1 c A n k ∧
 CE ((w.alloc (.cells #[.int .i64 c,.slice A n k] 24)).alloc (.cells #[.int .i64 c',.slice A' n' k',.int .i64 e'] 34)) gr c' A' n' k' e' ∧
 Below w.heap.size w ((w.alloc (.cells #[.int .i64 c,.slice A n k] 24)).alloc (.cells #[.int .i64 c',.slice A' n' k',.int .i64 e'] 34)):=by
 have e:(w.alloc (.cells #[.int .i64 c,.slice A n k] 24)).heap.size=w.heap.size + 1:=by simp
 refine ⟨_,_,rfl,rfl,(cb_new w c A n k).step (bl_new _ _),?_,(bl_new w _).trans ((bl_new (w.alloc _) _).mono (bl_new w _).size)⟩;rw [← e];exact wnew _ _
set_option maxHeartbeats 8000000 in
set_option maxRecDepth 100000 in
theorem madeV {w:World} {F:Frm} {e:Int} {c c':Int} {A A':Option Addr} {n k n' k':Nat} (hl:F.T.length ≤ 1000) (ha:FormV w (.agg #[.int .i64 c,.slice A n k]) F) (hb:FormV w (.agg #[.int .i64 c',.slice A' n' k']) F) :
 Calls Tryz.prog 10 #[.agg #[.int .i64 c,.slice A n k],.int .i64 e,.agg #[.int .i64 c',.slice A' n' k',.int .i64 e]] w fun en w' => en=.returned (.bool true)∧Below w.heap.size w w':=by
 have hu24:=Tryz.underlying24;have hu34:=Tryz.underlying34;go_enter Tryz.func10,Tryz.ntmps10
 go_upto_region 0 with fail
 go_cut [3,5,6] from 7 to 7 (fun s1 s2 s3 wc => ∃ g1 gr,s1=pt g1∧s2=pt gr∧s3=.bool false∧CB wc g1 c A n k∧CE wc gr c' A' n' k' e∧Below w.heap.size w wc)
 case first =>
  go_wp2_with fail
  go_meet;case rel => obtain ⟨g1,gr,a1,a2,a3,a4,a5⟩:=boxm w c A n k c' e A' n' k';exact ⟨g1,gr,a1,a2,rfl,a3,a4,a5⟩
 obtain ⟨g1,gr,rfl,rfl,rfl,B1,BR,HB⟩:=hcut;replace ha:=ha.below HB;replace hb:=hb.below HB;obtain ⟨lt1,p10,p11,z10,z11⟩:=B1.all;obtain ⟨ltR,pR0,pR1,pR2,zR0,zR1,zR2⟩:=BR.all;have he:(e == e)=true:=by simp
 have he2:decide (e=e)=true:=by simp
 go_wp2_with (first | (go_at_call 14;(with_reducible refine (sameV hl ha hb).mono ?_);rintro en w2 ⟨rfl,hb2⟩) | go_in)
 go_ret;exact ⟨rfl,HB.trans (hb2.mono HB.size)⟩
end Go.Proofs.YtkemjdedikobfaaGreatDoor.Sem
