/- What is proved: what functions of the program do (walks: printed by a copy of the kit's print that programs of this repository have turned and shortened, or by hand). Conditions stand in each theorem. -/
import Derived.Test.YtkemjdedikobfaaGreatDoorPc
import Derived.Deep.CutBlock
set_option linter.unusedVariables false
set_option linter.unusedSimpArgs false
namespace Go.Proofs.YtkemjdedikobfaaGreatDoor.PSx
open PFx (S95 z95 k95 k95_open k95_openM k95_mk k95_mkM rd_T95 at_T95)
open Go.Proofs.YtkemjdedikobfaaGreatDoor.Sh
open Go.RowKit Go.Proofs.YtkemjdedikobfaaGreatDoorW.PrintWords Go.Proofs.YtkemjdedikobfaaGreatDoorW.PrintLast Go.Proofs.YtkemjdedikobfaaGreatDoorW.PrintMore
attribute [local go_sem] max2_int min2_int max_two min_two max_three min_three max_four min_four
set_option linter.unusedVariables false
set_option linter.unusedSimpArgs false
def ask_isForm_1.f (a0_0:Int) (a0_1:Int) (a0_2:Int) (a0_3:SV) (a0_4:Int) (a0_5:Int):Option (Bool):=(ask_isCoef.f a0_0).bind fun t102 => (some (!t102))
set_option maxHeartbeats 8000000 in
set_option maxRecDepth 100000 in
theorem ask_isForm_1.calls (a0_0:Int) (a0_1:Int) (a0_2:Int) (a0_3:SV) (a0_4:Int) (a0_5:Int) (r:Bool) (w:World) (h:ask_isForm_1.f a0_0 a0_1 a0_2 a0_3 a0_4 a0_5=some r) :
 Calls Tryz.prog 43 #[.agg #[.int .i64 a0_0,.int .i64 a0_1,.int .i64 a0_2,(svv a0_3),.int .i64 a0_4,.int .i64 a0_5]] w fun e w' => e=.returned (.bool r)∧Below w.heap.size w w':=by
 have hu174:=Tryz.underlying47;have HB:=ak (Below.refl w.heap.size w);have H:((ask_isCoef.f a0_0).bind fun t102 => (some (!t102)))=some r:=h;clear h;replace H:=Option.bind_eq_some_iff.mp H;obtain ⟨t102,A20,H⟩:=H;replace H:(some (!t102))=some r:=H;have A2:=ak A20;clear A20;obtain rfl:=Option.some.inj H;go_enter Tryz.func43,Tryz.ntmps43
 go_wp2_with (first | ((with_reducible refine gate_dst (N:=1) rfl ?_);refine box_event ?hg (N:=1) ?hd (cs:=#[.int .i64 a0_0,.int .i64 a0_1,.int .i64 a0_2,(svv a0_3),.int .i64 a0_4,.int .i64 a0_5]) (t:=47) ?hr ?_;(case hd => rfl);(case hg => rfl);(case hr => first | (go_simp;done) | (go_simp;rfl));intro gb101 hg w3 hbox hb;have n0_:=ak (below_step bx hb);have n1_:=ak (hbox);have n2_:=ak ((by rw [hg];exact (below_size bx):w.heap.size ≤ gb101));have n3_:=ak ((by rw [hg];exact (below_size bx):w.heap.size ≤ gb101));clear HB;have HB:=n0_;have BK101:=n1_;have GW101:=n2_;have GE101:=n3_;clear n0_ n1_ n2_ n3_;clear hb hbox hg;obtain ⟨hcz4_0,hcz4_1,hcz4_2,hcz4_3,hcz4_4,hcz4_5,hfz4_0,hfz4_1,hfz4_2,hfz4_3,hfz4_4,hfz4_5⟩:=cb6 BK101.out) | ((with_reducible refine gate_callee (f:=44) rfl ?_);refine goesL_ (some 5) rfl rfl Tryz.func44 kr rfl #[.int .i64 a0_0] rfl ag ?_;(with_reducible refine (ask_isCoef.calls a0_0 t102 _ A2.out).mono ?_);rintro e w' ⟨rfl,⟨nd,rfl⟩⟩;refine ⟨_,rfl,?_⟩))
 go_ret;exact ⟨by first | rfl | (simp [errW_none,errW_some] <;> rfl) | (simp [*,errW_none,errW_some] <;> rfl),bx⟩
def slices_IndexFunc_at.l0:Nat→List (S174)→Int→Int→Option (Int)
 | 0,_,_,_ => none
 | k + 1,x0,x7,x8 => if x8 < x7 then (if 0 ≤ x8 then (if x8 < (x0.length:Int) then ((ask_isForm_1.f ((rd_T174 x0 x8).f0) ((rd_T174 x0 x8).f1.f0) ((rd_T174 x0 x8).f1.f1) ((rd_T174 x0 x8).f1.f2) ((rd_T174 x0 x8).f1.f3.f0) ((rd_T174 x0 x8).f1.f3.f1)).bind fun t104 => (if t104=true then (some x8) else (slices_IndexFunc_at.l0 k x0 x7 (wrap64 (x8 + 1))))) else (none)) else (none)) else (some (-1))
def slices_IndexFunc_at.f (k:Nat) (l0:List (S174)) (a1:Nat):Option (Int):=slices_IndexFunc_at.l0 k l0 (l0.length:Int) 0
set_option maxHeartbeats 8000000 in
set_option maxRecDepth 100000 in
theorem slices_IndexFunc_at.calls (k:Nat) (A0:Option Addr) (c0:Nat) (l0:List (S174)) (a1:Nat) (r:Int) (w:World) (hr0:Kd.C k174 w A0 l0.length l0) (hc0:l0.length ≤ c0) (h:slices_IndexFunc_at.f k l0 a1=some r) :
 Calls Tryz.prog 79 #[.slice A0 l0.length c0,.func (.func 43) #[] #[]] w fun e w' => e=.returned (.int .i64 r)∧Below w.heap.size w w':=by
 have hu174:=Tryz.underlying47;have HR0:=ak hr0;have HC0:=ak hc0;clear hr0 hc0;have HB:=ak (Below.refl w.heap.size w);have H:(slices_IndexFunc_at.l0 k l0 (l0.length:Int) 0)=some r:=h;clear h;have H':=ak H;clear H;go_enter Tryz.func79,Tryz.ntmps79
 go_wp2;go_loopg [8] k (fun kq v8 w' => ∃ (x8_1:Int),v8=.int .i64 x8_1∧Aside0 (slices_IndexFunc_at.l0 kq l0 (l0.length:Int) x8_1=some r)∧Aside0 (kq ≤ k)∧Aside0 (Below w.heap.size w w'))
 case atStart => exact ⟨(0),rf,H',⟨Nat.le_refl _⟩,⟨bx⟩⟩
 case round =>
  clear H';try clear c1
  try clear p2
  obtain ⟨x8_1,rfl,HA,HK1,HB⟩:=hrel;cases gk with
  | zero => exact absurd HA.out (by simp [slices_IndexFunc_at.l0])
  | succ k1 =>
   have H:=HA.out;clear HA;simp only [slices_IndexFunc_at.l0] at H;by_cases c3:x8_1 < (l0.length:Int)
   ·rw [if_pos c3] at H;have c3b0:decide (x8_1 < (l0.length:Int))=true:=decide_eq_true c3;clear c3;by_cases c4:0 ≤ x8_1
    ·rw [if_pos c4] at H;have c4b0:decide (0 ≤ x8_1)=true:=decide_eq_true c4;clear c4;by_cases c5:x8_1 < (l0.length:Int)
     ·rw [if_pos c5] at H;have c5b0:decide (x8_1 < (l0.length:Int))=true:=decide_eq_true c5;clear c5;replace H:=Option.bind_eq_some_iff.mp H;obtain ⟨t104,A60,H⟩:=H;replace H:(if t104=true then (some x8_1) else (slices_IndexFunc_at.l0 k1 l0 (l0.length:Int) (wrap64 (x8_1 + 1))))=some r:=H;have A6:=ak A60;clear A60;by_cases c7:t104=true
      ·subst c7;(have H1:(some x8_1)=some r:=by rw [if_pos rfl] at H;exact H);clear H;have H:=H1;clear H1;obtain rfl:=Option.some.inj H;have p103:0 ≤ (x8_1:Int):=of_decide_eq_true asm;have q103:x8_1 < (l0.length:Int):=of_decide_eq_true asm;obtain ⟨ad103,e103,hx103_0,hx103_1,hx103_2,hx103_3,hx103_4,hx103_5⟩:=at_T174 HR0.out x8_1 p103 q103;cases e103;replace hx103_0:=(HB.out.cell (World.block_lt_of_cell? w _ hx103_0)).trans hx103_0;replace hx103_1:=(HB.out.cell (World.block_lt_of_cell? w _ hx103_1)).trans hx103_1;replace hx103_2:=(HB.out.cell (World.block_lt_of_cell? w _ hx103_2)).trans hx103_2;replace hx103_3:=(HB.out.cell (World.block_lt_of_cell? w _ hx103_3)).trans hx103_3;replace hx103_4:=(HB.out.cell (World.block_lt_of_cell? w _ hx103_4)).trans hx103_4;replace hx103_5:=(HB.out.cell (World.block_lt_of_cell? w _ hx103_5)).trans hx103_5;replace p103:=eq_true p103;replace q103:=eq_true q103;(go_wp2_with (first | ((with_reducible refine gate_slot (t:=11) rfl ?_);refine goesC_ (t:=11) (caps:=#[]) (some 16) rfl rfl Tryz.func43 kr rfl #[.agg #[.int .i64 ((rd_T174 l0 x8_1).f0),.int .i64 ((rd_T174 l0 x8_1).f1.f0),.int .i64 ((rd_T174 l0 x8_1).f1.f1),(svv ((rd_T174 l0 x8_1).f1.f2)),.int .i64 ((rd_T174 l0 x8_1).f1.f3.f0),.int .i64 ((rd_T174 l0 x8_1).f1.f3.f1)]] rfl rfl ag ?_;(with_reducible refine (ask_isForm_1.calls ((rd_T174 l0 x8_1).f0) ((rd_T174 l0 x8_1).f1.f0) ((rd_T174 l0 x8_1).f1.f1) ((rd_T174 l0 x8_1).f1.f2) ((rd_T174 l0 x8_1).f1.f3.f0) ((rd_T174 l0 x8_1).f1.f3.f1) true _ A6.out).mono ?_);rintro e w8 ⟨rfl,hb⟩;refine ⟨_,rfl,?_⟩;have n0_:=ak (below_step bx hb);clear HB;have HB:=n0_;clear n0_;(try clear hb);(try clear hb2);(try clear hk);(try clear hi))));go_ret;exact ⟨by first | rfl | (simp [errW_none,errW_some] <;> rfl) | (simp [*,errW_none,errW_some] <;> rfl),bx⟩
      ·replace c7:=Bool.eq_false_iff.mpr c7;subst c7;(have H1:(slices_IndexFunc_at.l0 k1 l0 (l0.length:Int) (wrap64 (x8_1 + 1)))=some r:=by rw [if_neg (show ¬ (false=true) by decide)] at H;exact H);clear H;have H:=H1;clear H1;have H':=ak H;clear H;have p103:0 ≤ (x8_1:Int):=of_decide_eq_true asm;have q103:x8_1 < (l0.length:Int):=of_decide_eq_true asm;obtain ⟨ad103,e103,hx103_0,hx103_1,hx103_2,hx103_3,hx103_4,hx103_5⟩:=at_T174 HR0.out x8_1 p103 q103;cases e103;replace hx103_0:=(HB.out.cell (World.block_lt_of_cell? w _ hx103_0)).trans hx103_0;replace hx103_1:=(HB.out.cell (World.block_lt_of_cell? w _ hx103_1)).trans hx103_1;replace hx103_2:=(HB.out.cell (World.block_lt_of_cell? w _ hx103_2)).trans hx103_2;replace hx103_3:=(HB.out.cell (World.block_lt_of_cell? w _ hx103_3)).trans hx103_3;replace hx103_4:=(HB.out.cell (World.block_lt_of_cell? w _ hx103_4)).trans hx103_4;replace hx103_5:=(HB.out.cell (World.block_lt_of_cell? w _ hx103_5)).trans hx103_5;replace p103:=eq_true p103;replace q103:=eq_true q103;(go_wp2_with (first | ((with_reducible refine gate_slot (t:=11) rfl ?_);refine goesC_ (t:=11) (caps:=#[]) (some 16) rfl rfl Tryz.func43 kr rfl #[.agg #[.int .i64 ((rd_T174 l0 x8_1).f0),.int .i64 ((rd_T174 l0 x8_1).f1.f0),.int .i64 ((rd_T174 l0 x8_1).f1.f1),(svv ((rd_T174 l0 x8_1).f1.f2)),.int .i64 ((rd_T174 l0 x8_1).f1.f3.f0),.int .i64 ((rd_T174 l0 x8_1).f1.f3.f1)]] rfl rfl ag ?_;(with_reducible refine (ask_isForm_1.calls ((rd_T174 l0 x8_1).f0) ((rd_T174 l0 x8_1).f1.f0) ((rd_T174 l0 x8_1).f1.f1) ((rd_T174 l0 x8_1).f1.f2) ((rd_T174 l0 x8_1).f1.f3.f0) ((rd_T174 l0 x8_1).f1.f3.f1) false _ A6.out).mono ?_);rintro e w9 ⟨rfl,hb⟩;refine ⟨_,rfl,?_⟩;have n0_:=ak (below_step bx hb);clear HB;have HB:=n0_;clear n0_;(try clear hb);(try clear hb2);(try clear hk);(try clear hi))));(go_roundg k1);(case measure => have:=HK1.out;omega);case rel => exact ⟨(wrap64 (x8_1 + 1)),rf,H',⟨by have:=HK1.out;omega⟩,⟨bx⟩⟩
     ·rw [if_neg c5] at H;exact absurd H (by simp)
    ·rw [if_neg c4] at H;exact absurd H (by simp)
   ·rw [if_neg c3] at H;have c3b0:decide (x8_1 < (l0.length:Int))=false:=decide_eq_false c3;clear c3;obtain rfl:=Option.some.inj H;go_wp2;go_ret;exact ⟨by first | rfl | (simp [errW_none,errW_some] <;> rfl) | (simp [*,errW_none,errW_some] <;> rfl),bx⟩
def slices_ContainsFunc_at.f (k:Nat) (l0:List (S174)) (a1:Nat):Option (Bool):=(slices_IndexFunc_at.f k l0 a1).bind fun t105 => (some (decide (t105 ≥ 0)))
set_option maxHeartbeats 8000000 in
set_option maxRecDepth 100000 in
theorem slices_ContainsFunc_at.calls (k:Nat) (A0:Option Addr) (c0:Nat) (l0:List (S174)) (a1:Nat) (r:Bool) (w:World) (hr0:Kd.C k174 w A0 l0.length l0) (hc0:l0.length ≤ c0) (h:slices_ContainsFunc_at.f k l0 a1=some r) :
 Calls Tryz.prog 42 #[.slice A0 l0.length c0,.func (.func 43) #[] #[]] w fun e w' => e=.returned (.bool r)∧Below w.heap.size w w':=by
 have HR0:=ak hr0;have HC0:=ak hc0;clear hr0 hc0;have HB:=ak (Below.refl w.heap.size w);have H:((slices_IndexFunc_at.f k l0 a1).bind fun t105 => (some (decide (t105 ≥ 0))))=some r:=h;clear h;replace H:=Option.bind_eq_some_iff.mp H;obtain ⟨t105,A30,H⟩:=H;replace H:(some (decide (t105 ≥ 0)))=some r:=H;have A3:=ak A30;clear A30;obtain rfl:=Option.some.inj H;go_enter Tryz.func42,Tryz.ntmps42
 go_wp2_with (first | ((with_reducible refine gate_callee (f:=79) rfl ?_);refine goesL_ (some 7) rfl rfl Tryz.func79 kr rfl #[.slice A0 l0.length c0,.func (.func 43) #[] #[]] rfl ag ?_;(with_reducible refine (slices_IndexFunc_at.calls k _ _ l0 a1 t105 _ ?side1 ?side2 A3.out).mono ?_);(case side1 => repeat (first | exact HR0.out | (with_reducible refine Kd.C_alloc ?_ _) | (with_reducible refine Kd.C_drewN ?_ _) | (with_reducible refine Kd.C_drew ?_)));(case side2 => exact HC0.out);rintro e w4 ⟨rfl,hb⟩;refine ⟨_,rfl,?_⟩;have n0_:=ak (below_step bx hb);clear HB;have HB:=n0_;clear n0_;(try clear hb);(try clear hb2);(try clear hk);(try clear hi)))
 go_ret;exact ⟨by first | rfl | (simp [errW_none,errW_some] <;> rfl) | (simp [*,errW_none,errW_some] <;> rfl),bx⟩
def ask_isForm_at.f (k:Nat) (a0_0:Int) (l0_1:List (S174)):Option (Bool):=(ask_isConst.f a0_0).bind fun t107 => (if t107=true then (if (l0_1.length:Int) ≤ 5 then ((slices_ContainsFunc_at.f k l0_1 124).bind fun t108 => (some (!t108))) else (some false)) else (some false))
set_option maxHeartbeats 8000000 in
set_option maxRecDepth 100000 in
theorem ask_isForm_at.calls (k:Nat) (a0_0:Int) (A0_1:Option Addr) (c0_1:Nat) (l0_1:List (S174)) (r:Bool) (w:World) (hr0_1:Kd.C k174 w A0_1 l0_1.length l0_1) (hc0_1:l0_1.length ≤ c0_1) (h:ask_isForm_at.f k a0_0 l0_1=some r) :
 Calls Tryz.prog 24 #[.agg #[.int .i64 a0_0,.slice A0_1 l0_1.length c0_1]] w fun e w' => e=.returned (.bool r)∧Below w.heap.size w w':=by
 have hu45:=Tryz.underlying24;have HR0_1:=ak hr0_1;have HC0_1:=ak hc0_1;clear hr0_1 hc0_1;have HB:=ak (Below.refl w.heap.size w);have H:((ask_isConst.f a0_0).bind fun t107 => (if t107=true then (if (l0_1.length:Int) ≤ 5 then ((slices_ContainsFunc_at.f k l0_1 124).bind fun t108 => (some (!t108))) else (some false)) else (some false)))=some r:=h;clear h;replace H:=Option.bind_eq_some_iff.mp H;obtain ⟨t107,A20,H⟩:=H;replace H:(if t107=true then (if (l0_1.length:Int) ≤ 5 then ((slices_ContainsFunc_at.f k l0_1 124).bind fun t108 => (some (!t108))) else (some false)) else (some false))=some r:=H;have A2:=ak A20;clear A20;by_cases c3:t107=true
 ·subst c3;have H1:(if (l0_1.length:Int) ≤ 5 then ((slices_ContainsFunc_at.f k l0_1 124).bind fun t108 => (some (!t108))) else (some false))=some r:=by rw [if_pos rfl] at H;exact H
  clear H;have H:=H1;clear H1;by_cases c4:(l0_1.length:Int) ≤ 5
  ·rw [if_pos c4] at H;have c4b0:decide ((l0_1.length:Int) ≤ 5)=true:=decide_eq_true c4;have c4b1:decide (l0_1.length ≤ 5)=true:=decide_eq_true (by omega);clear c4;replace H:=Option.bind_eq_some_iff.mp H;obtain ⟨t108,A50,H⟩:=H;replace H:(some (!t108))=some r:=H;have A5:=ak A50;clear A50;obtain rfl:=Option.some.inj H;(go_enter Tryz.func24,Tryz.ntmps24);(go_wp2_with (first | ((with_reducible refine gate_dst (N:=1) rfl ?_);(try (refine gate_guard (by rfl) ?_;dsimp only));refine box_event ?hg (N:=1) ?hd (cs:=#[.int .i64 a0_0,.slice A0_1 l0_1.length c0_1]) (t:=24) ?hr ?_;(case hd => rfl);(case hg => rfl);(case hr => first | (go_simp;done) | (go_simp;rfl));intro gb106 hg w6 hbox hb;have n0_:=ak (below_step bx hb);have n1_:=ak (hbox);have n2_:=ak ((by rw [hg];exact (below_size bx):w.heap.size ≤ gb106));have n3_:=ak ((by rw [hg];exact (below_size bx):w.heap.size ≤ gb106));clear HB;have HB:=n0_;have BK106:=n1_;have GW106:=n2_;have GE106:=n3_;clear n0_ n1_ n2_ n3_;clear hb hbox hg;obtain ⟨hcz7_0,hcz7_1,hfz7_0,hfz7_1⟩:=cb2 BK106.out) | ((with_reducible refine gate_callee (f:=26) rfl ?_);refine goesL_ (some 5) rfl rfl Tryz.func26 kr rfl #[.int .i64 a0_0] rfl ag ?_;(with_reducible refine (ask_isConst.calls a0_0 true _ A2.out).mono ?_);rintro e w' ⟨rfl,⟨nd,rfl⟩⟩;refine ⟨_,rfl,?_⟩) | (go_at_call 42;(with_reducible refine (slices_ContainsFunc_at.calls k _ _ l0_1 124 t108 _ ?side1 ?side2 A5.out).mono ?_);(case side1 => repeat (first | exact (Kd.C_below HR0_1.out bx) | (with_reducible refine Kd.C_alloc ?_ _) | (with_reducible refine Kd.C_drewN ?_ _) | (with_reducible refine Kd.C_drew ?_)));(case side2 => exact HC0_1.out);rintro e w8 ⟨rfl,hb⟩;have n0_:=bB BK106 hb;have n1_:=ak (below_step bx hb);clear BK106 HB;have BK106:=n0_;have HB:=n1_;clear n0_ n1_;(try clear hb);(try clear hb2);(try clear hk);(try clear hi))));go_ret;exact ⟨by first | rfl | (simp [errW_none,errW_some] <;> rfl) | (simp [*,errW_none,errW_some] <;> rfl),bx⟩
  ·rw [if_neg c4] at H;have c4b0:decide ((l0_1.length:Int) ≤ 5)=false:=decide_eq_false c4;have c4b1:decide (l0_1.length ≤ 5)=false:=decide_eq_false (by omega);clear c4;obtain rfl:=Option.some.inj H;(go_enter Tryz.func24,Tryz.ntmps24);(go_wp2_with (first | ((with_reducible refine gate_dst (N:=1) rfl ?_);(try (refine gate_guard (by rfl) ?_;dsimp only));refine box_event ?hg (N:=1) ?hd (cs:=#[.int .i64 a0_0,.slice A0_1 l0_1.length c0_1]) (t:=24) ?hr ?_;(case hd => rfl);(case hg => rfl);(case hr => first | (go_simp;done) | (go_simp;rfl));intro gb106 hg w9 hbox hb;have n0_:=ak (below_step bx hb);have n1_:=ak (hbox);have n2_:=ak ((by rw [hg];exact (below_size bx):w.heap.size ≤ gb106));have n3_:=ak ((by rw [hg];exact (below_size bx):w.heap.size ≤ gb106));clear HB;have HB:=n0_;have BK106:=n1_;have GW106:=n2_;have GE106:=n3_;clear n0_ n1_ n2_ n3_;clear hb hbox hg;obtain ⟨hcz10_0,hcz10_1,hfz10_0,hfz10_1⟩:=cb2 BK106.out) | ((with_reducible refine gate_callee (f:=26) rfl ?_);refine goesL_ (some 5) rfl rfl Tryz.func26 kr rfl #[.int .i64 a0_0] rfl ag ?_;(with_reducible refine (ask_isConst.calls a0_0 true _ A2.out).mono ?_);rintro e w' ⟨rfl,⟨nd,rfl⟩⟩;refine ⟨_,rfl,?_⟩)));go_ret;exact ⟨by first | rfl | (simp [errW_none,errW_some] <;> rfl) | (simp [*,errW_none,errW_some] <;> rfl),bx⟩
 ·replace c3:=Bool.eq_false_iff.mpr c3;subst c3;have H1:(some false)=some r:=by rw [if_neg (show ¬ (false=true) by decide)] at H;exact H
  clear H;have H:=H1;clear H1;obtain rfl:=Option.some.inj H;go_enter Tryz.func24,Tryz.ntmps24
  go_wp2_with (first | ((with_reducible refine gate_dst (N:=1) rfl ?_);(try (refine gate_guard (by rfl) ?_;dsimp only));refine box_event ?hg (N:=1) ?hd (cs:=#[.int .i64 a0_0,.slice A0_1 l0_1.length c0_1]) (t:=24) ?hr ?_;(case hd => rfl);(case hg => rfl);(case hr => first | (go_simp;done) | (go_simp;rfl));intro gb106 hg w11 hbox hb;have n0_:=ak (below_step bx hb);have n1_:=ak (hbox);have n2_:=ak ((by rw [hg];exact (below_size bx):w.heap.size ≤ gb106));have n3_:=ak ((by rw [hg];exact (below_size bx):w.heap.size ≤ gb106));clear HB;have HB:=n0_;have BK106:=n1_;have GW106:=n2_;have GE106:=n3_;clear n0_ n1_ n2_ n3_;clear hb hbox hg;obtain ⟨hcz12_0,hcz12_1,hfz12_0,hfz12_1⟩:=cb2 BK106.out) | ((with_reducible refine gate_callee (f:=26) rfl ?_);refine goesL_ (some 5) rfl rfl Tryz.func26 kr rfl #[.int .i64 a0_0] rfl ag ?_;(with_reducible refine (ask_isConst.calls a0_0 false _ A2.out).mono ?_);rintro e w' ⟨rfl,⟨nd,rfl⟩⟩;refine ⟨_,rfl,?_⟩))
  go_ret;exact ⟨by first | rfl | (simp [errW_none,errW_some] <;> rfl) | (simp [*,errW_none,errW_some] <;> rfl),bx⟩
end Go.Proofs.YtkemjdedikobfaaGreatDoor.PSx
namespace Go.Proofs.YtkemjdedikobfaaGreatDoor.PSx
open Go.RowKit Go.Proofs.YtkemjdedikobfaaGreatDoorW.PrintWords
abbrev pt (g:Nat):Value:=.pointer (some ⟨g,0,none⟩)
def CB (w:World) (g:Nat) (c:Int) (A:Option Addr) (n k:Nat):Prop:=w.heap[g]?=some (.cells #[.int .i64 c,.slice A n k] 24 (0,0))
theorem CB.step {w w':World} {g n k:Nat} {c:Int} {A:Option Addr} (h:CB w g c A n k) (hb:Below w.heap.size w w'):CB w' g c A n k:=blk_below h hb
theorem CB.all {w:World} {g n k:Nat} {c:Int} {A:Option Addr} (h:CB w g c A n k):g < w.heap.size∧w.cell? ⟨g,0,none⟩=some (.int .i64 c)∧w.cell? ⟨g,1,none⟩=some (.slice A n k)∧w.frozen? ⟨g,0,none⟩=false∧w.frozen? ⟨g,1,none⟩=false :=
 ⟨blk_lt h,(blk_cell h 0).trans rfl,(blk_cell h 1).trans rfl,blk_frozen h 0,blk_frozen h 1⟩
theorem cb_new (w:World) (c:Int) (A:Option Addr) (n k:Nat):CB (w.alloc (.cells #[.int .i64 c,.slice A n k] 24)) w.heap.size c A n k:=blk_new w _
theorem bl_new (w:World) (o:Obj):Below w.heap.size w (w.alloc o):=(Below.refl _ w).alloc (Nat.le_refl _) o
theorem box1r (w:World) (c:Int) (A:Option Addr) (n k:Nat):∃ g1 gr,pt w.heap.size=pt g1∧pt (w.heap.size + 1)=pt gr∧Value.int .i64 0=.int .i64 0 ∧
 CB ((w.alloc (.cells #[.int .i64 c,.slice A n k] 24)).alloc (.cells #[.int .i64 0,.slice none 0 0] 24)) g1 c A n k ∧
 CB ((w.alloc (.cells #[.int .i64 c,.slice A n k] 24)).alloc (.cells #[.int .i64 0,.slice none 0 0] 24)) gr 0 none 0 0∧w.heap.size ≤ gr ∧
 Below w.heap.size w ((w.alloc (.cells #[.int .i64 c,.slice A n k] 24)).alloc (.cells #[.int .i64 0,.slice none 0 0] 24)):=by
 have e:(w.alloc (.cells #[.int .i64 c,.slice A n k] 24)).heap.size=w.heap.size + 1:=by simp
 refine ⟨_,_,rfl,rfl,rfl,(cb_new w c A n k).step (bl_new _ _),?_,by omega,(bl_new w _).trans ((bl_new (w.alloc _) _).mono (bl_new w _).size)⟩;rw [← e];exact cb_new _ _ _ _ _
theorem boxes2 (w:World) (c c2:Int) (A A2:Option Addr) (n k n2 k2:Nat):∃ g1 g2,pt w.heap.size=pt g1∧pt (w.heap.size + 1)=pt g2∧Value.bool false=.bool false ∧
 CB ((w.alloc (.cells #[.int .i64 c,.slice A n k] 24)).alloc (.cells #[.int .i64 c2,.slice A2 n2 k2] 24)) g1 c A n k ∧
 CB ((w.alloc (.cells #[.int .i64 c,.slice A n k] 24)).alloc (.cells #[.int .i64 c2,.slice A2 n2 k2] 24)) g2 c2 A2 n2 k2 ∧
 Below w.heap.size w ((w.alloc (.cells #[.int .i64 c,.slice A n k] 24)).alloc (.cells #[.int .i64 c2,.slice A2 n2 k2] 24)):=by
 have e:(w.alloc (.cells #[.int .i64 c,.slice A n k] 24)).heap.size=w.heap.size + 1:=by simp
 refine ⟨_,_,rfl,rfl,rfl,(cb_new w c A n k).step (bl_new _ _),?_,(bl_new w _).trans ((bl_new (w.alloc _) _).mono (bl_new w _).size)⟩;rw [← e];exact cb_new _ _ _ _ _
theorem boxes2r (w:World) (c c2:Int) (A A2:Option Addr) (n k n2 k2:Nat):∃ g1 g2 gr,pt w.heap.size=pt g1∧pt (w.heap.size + 1)=pt g2∧pt (w.heap.size + 1 + 1)=pt gr∧Value.int .i64 0=.int .i64 0 ∧
 CB (((w.alloc (.cells #[.int .i64 c,.slice A n k] 24)).alloc (.cells #[.int .i64 c2,.slice A2 n2 k2] 24)).alloc (.cells #[.int .i64 0,.slice none 0 0] 24)) g1 c A n k ∧
 CB (((w.alloc (.cells #[.int .i64 c,.slice A n k] 24)).alloc (.cells #[.int .i64 c2,.slice A2 n2 k2] 24)).alloc (.cells #[.int .i64 0,.slice none 0 0] 24)) g2 c2 A2 n2 k2 ∧
 CB (((w.alloc (.cells #[.int .i64 c,.slice A n k] 24)).alloc (.cells #[.int .i64 c2,.slice A2 n2 k2] 24)).alloc (.cells #[.int .i64 0,.slice none 0 0] 24)) gr 0 none 0 0∧w.heap.size ≤ gr ∧
 Below w.heap.size w (((w.alloc (.cells #[.int .i64 c,.slice A n k] 24)).alloc (.cells #[.int .i64 c2,.slice A2 n2 k2] 24)).alloc (.cells #[.int .i64 0,.slice none 0 0] 24)):=by
 have e:(w.alloc (.cells #[.int .i64 c,.slice A n k] 24)).heap.size=w.heap.size + 1:=by simp
 have e2:((w.alloc (.cells #[.int .i64 c,.slice A n k] 24)).alloc (.cells #[.int .i64 c2,.slice A2 n2 k2] 24)).heap.size=w.heap.size + 1 + 1:=by simp
 refine ⟨_,_,_,rfl,rfl,rfl,rfl,((cb_new w c A n k).step (bl_new _ _)).step (bl_new _ _),?_,?_,by omega,((bl_new w _).trans ((bl_new (w.alloc _) _).mono (bl_new w _).size)).trans ((bl_new ((w.alloc _).alloc _) _).mono (by rw [e2];omega))⟩
 ·rw [← e];exact (cb_new _ _ _ _ _).step (bl_new _ _)
 ·rw [← e2];exact cb_new _ _ _ _ _
end Go.Proofs.YtkemjdedikobfaaGreatDoor.PSx
namespace Go.Proofs.YtkemjdedikobfaaGreatDoor.PSx
open PFx (S95 z95 k95 k95_open k95_openM k95_mk k95_mkM rd_T95 at_T95)
open Go.RowKit Go.Proofs.YtkemjdedikobfaaGreatDoorW.PrintWords Go.Proofs.YtkemjdedikobfaaGreatDoorW.PrintLast Go.Proofs.YtkemjdedikobfaaGreatDoorW.PrintMore
set_option linter.unusedVariables false
set_option linter.unusedSimpArgs false
theorem isConstB.calls (a0:Int) (r:Bool) (w:World) (h:ask_isConst.f a0=some r) :
 Calls Tryz.prog 26 #[.int .i64 a0] w fun e w' => e=.returned (.bool r)∧Below w.heap.size w w':=by
 refine (ask_isConst.calls a0 r w h).mono ?_;rintro e w' ⟨rfl,⟨n,rfl⟩⟩;exact ⟨rfl,pw_below_drewN (Below.refl _ _) n⟩
theorem blk_new0 (w:World) (o:Obj):(w.alloc o).heap[w.heap.size]?=some o:=by show (w.heap.push o)[w.heap.size]?=some o;exact Array.getElem?_push_size
theorem row_form {w:World} {b:Nat} {c:Int} {A:Option Addr} {cap:Nat} {ys:List S174} (hb:w.heap[b]?=some (.cells #[.int .i64 c,.slice A ys.length cap] 24 (0,0))) (hc:ys.length ≤ cap) (hr:Kd.C k174 w A ys.length ys) :
 Kd.C k45 w (some ⟨b,0,none⟩) 1 [⟨c,ys⟩]:=by
 refine ⟨rfl,by decide,fun _ => ⟨_,rfl,fun j p hj => ?_⟩⟩;match j with
 | 0 =>
  obtain rfl:p=⟨c,ys⟩:=by simpa using hj.symm
  refine ⟨[.int .i64 c,.slice A ys.length cap],rfl,k45_mk w ⟨c,ys⟩ hc hr,fun i u hu => ?_⟩;rw [show (⟨b,0,none⟩:Addr).add (0 * k45.sz + i)=⟨b,i,none⟩ by rw [Nat.zero_mul,Nat.zero_add,add_plain]];match i with
  | 0 => exact (blk_cell hb 0).trans (by simpa using hu)
  | 1 => exact (blk_cell hb 1).trans (by simpa using hu)
  | i + 2 => simp at hu
 | j + 1 => simp at hj
theorem row_form2 {w:World} {b:Nat} {c c2:Int} {A A2:Option Addr} {cap cap2:Nat} {ys ys2:List S174} (hb:w.heap[b]?=some (.cells #[.int .i64 c,.slice A ys.length cap,.int .i64 c2,.slice A2 ys2.length cap2] 24 (0,0))) (hc:ys.length ≤ cap) (hc2:ys2.length ≤ cap2) (hr:Kd.C k174 w A ys.length ys) (hr2:Kd.C k174 w A2 ys2.length ys2) :
 Kd.C k45 w (some ⟨b,0,none⟩) 2 [⟨c,ys⟩,⟨c2,ys2⟩]:=by
 refine ⟨rfl,by decide,fun _ => ⟨_,rfl,fun j p hj => ?_⟩⟩;match j with
 | 0 =>
  obtain rfl:p=⟨c,ys⟩:=by simpa using hj.symm
  refine ⟨[.int .i64 c,.slice A ys.length cap],rfl,k45_mk w ⟨c,ys⟩ hc hr,fun i u hu => ?_⟩;rw [show (⟨b,0,none⟩:Addr).add (0 * k45.sz + i)=⟨b,i,none⟩ by rw [Nat.zero_mul,Nat.zero_add,add_plain]];match i with
  | 0 => exact (blk_cell hb 0).trans (by simpa using hu)
  | 1 => exact (blk_cell hb 1).trans (by simpa using hu)
  | i + 2 => simp at hu
 | 1 =>
  obtain rfl:p=⟨c2,ys2⟩:=by simpa using hj.symm
  refine ⟨[.int .i64 c2,.slice A2 ys2.length cap2],rfl,k45_mk w ⟨c2,ys2⟩ hc2 hr2,fun i u hu => ?_⟩;rw [show (⟨b,0,none⟩:Addr).add (1 * k45.sz + i)=⟨b,2 + i,none⟩ by rw [Nat.one_mul,add_plain];rfl];match i with
  | 0 => exact (blk_cell hb 2).trans (by simpa using hu)
  | 1 => exact (blk_cell hb 3).trans (by simpa using hu)
  | i + 2 => simp at hu
 | j + 2 => simp at hj
set_option maxHeartbeats 8000000 in
set_option maxRecDepth 100000 in
theorem askNormal.calls (k:Nat) (c:Int) (A:Option Addr) (cap:Nat) (ys:List S174) (w:World) (hr:Kd.C k174 w A ys.length ys) (hc:ys.length ≤ cap) (b:Bool) (r1:Int) (r2:List S20174) (r3:Int) (hf:ask_isForm_at.f k c ys=some b) (hn:b=true→∀ W:World,Below w.heap.size w W→ask_normal_at.f W k 1 [⟨c,ys⟩]=some (r1,r2,r3)) (hz:b=false→r1=0∧r2=[]∧r3=1) :
 Calls Tryz.prog 7 #[.agg #[.int .i64 c,.slice A ys.length cap]] w fun e w' => ∃ v,e=.returned (.tuple #[.agg #[.int .i64 r1,v],.int .i64 r3])∧Kd.S k20174 47 w' w.heap.size (fun _ => True) v r2∧Below w.heap.size w w':=by
 have hu24:=Tryz.underlying24;go_enter Tryz.func7,Tryz.ntmps7
 go_upto_region 0 with fail
 go_cut [1,2,3] from 4 to 4 (fun s1 s2 s3 wc => ∃ g1 gr,s1=pt g1∧s2=pt gr∧s3=.int .i64 0∧CB wc g1 c A ys.length cap∧CB wc gr 0 none 0 0∧w.heap.size ≤ gr∧Below w.heap.size w wc)
 case first =>
  go_wp2_with fail
  go_meet;case rel => exact box1r w _ _ _ _
 case rest =>
  obtain ⟨g1,gr,rfl,rfl,rfl,B1,BR,hge,HB⟩:=hcut;replace hr:=Kd.C_below hr HB;go_upto_region 1 with fail
  go_cut [6] from 4 to 6 (fun s wx => s=.bool (!b)∧Below wc.heap.size wc wx)
  case first =>
   obtain ⟨lt1,p10,p11,z10,z11⟩:=B1.all;(go_wp2_with (first | (go_at_call 24;(with_reducible refine (ask_isForm_at.calls k c A cap ys b _ hr hc hf).mono ?_);rintro en w2 ⟨rfl,hb⟩) | go_in));all_goals
    go_meet
    case rel => exact ⟨by first | rfl | (simp_all;done),hb⟩
  case rest => obtain ⟨rfl,hb⟩:=hcut;replace hr:=Kd.C_below hr hb;replace B1:=B1.step hb;replace BR:=BR.step hb;replace HB:=HB.trans (hb.mono HB.size);clear hb;cases b;(case false => obtain ⟨rfl,rfl,rfl⟩:=hz rfl;obtain ⟨ltR,pR0,pR1,zR0,zR1⟩:=BR.all;(go_wp2_with fail);refine bodyPost_ret (results_ct rfl _ _ gr 24 #[.int .i64 0,.slice none 0 0] (0,0) _ rfl (blk_put (cs:=#[.int .i64 0,.slice none 0 0]) (blk_put (cs:=#[.int .i64 0,.slice none 0 0]) BR 0 _ rfl) 1 _ rfl) Tryz.underlying24 rfl (by kernel_rfl)) rfl ?_;exact ⟨_,rfl,Kd.S_nil _ _ _ _ _,below_set (below_set HB hge) hge⟩);case true => obtain ⟨lt1,p10,p11,z10,z11⟩:=B1.all;have ha:=below_alloc HB (.cells #[.int .i64 c,.slice A ys.length cap] 24);(go_wp2_with (first | (go_at_call 25;(refine (ask_normal_at.calls k 1 (some ⟨wc.heap.size,0,none⟩) 1 [⟨c,ys⟩] r1 r2 r3 _ (row_form (by exact blk_new _ _) hc (Kd.C_alloc hr _)) (Nat.le_refl _) (hn rfl _ ha)).mono ?_);rintro e w5 ⟨v_,rfl,hs,hb⟩;obtain ⟨Av,cv,ev⟩:=Kd.S_slice hs;subst ev;replace hs:=Kd.S_lower hs (below_size ha);replace BR:=(BR.step ((Below.refl _ _).alloc (Nat.le_refl _) _)).step hb;have HW:=below_step ha hb;obtain ⟨ltR,pR0,pR1,zR0,zR1⟩:=BR.all) | go_in));refine bodyPost_ret (results_ct rfl _ _ gr 24 #[.int .i64 r1,.slice Av r2.length cv] (0,0) _ rfl (blk_put (blk_put (cs:=#[.int .i64 0,.slice none 0 0]) BR 0 (.int .i64 r1) rfl) 1 _ rfl) Tryz.underlying24 rfl (by kernel_rfl)) rfl ?_;exact ⟨_,rfl,Kd.S_mono (Kd.S_far (p:=⟨gr,1,none⟩) (Kd.S_far (p:=⟨gr,0,none⟩) (Kd.S_types hs BR (by decide)) (fun _ hk => hk.2) (.int .i64 r1)) (fun _ hk => hk.2) (.slice Av r2.length cv)) (fun _ _ => trivial),below_set (below_set HW hge) hge⟩
set_option maxHeartbeats 8000000 in
set_option maxRecDepth 100000 in
theorem askSum.calls (k:Nat) (c:Int) (A:Option Addr) (cap:Nat) (ys:List S174) (c2:Int) (A2:Option Addr) (cap2:Nat) (ys2:List S174) (w:World) (hr:Kd.C k174 w A ys.length ys) (hc:ys.length ≤ cap) (hr2:Kd.C k174 w A2 ys2.length ys2) (hc2:ys2.length ≤ cap2) (b:Bool) (b2:Bool) (r1:Int) (r2:List S20174) (r3:Int) (hf:ask_isForm_at.f k c ys=some b) (hf2:ask_isForm_at.f k c2 ys2=some b2) (hn:(b && b2)=true→∀ W:World,Below w.heap.size w W→ask_normal_at.f W k 1 [⟨c,ys⟩,⟨c2,ys2⟩]=some (r1,r2,r3)) (hz:(b && b2)=false→r1=0∧r2=[]∧r3=1) :
 Calls Tryz.prog 8 #[.agg #[.int .i64 c,.slice A ys.length cap],.agg #[.int .i64 c2,.slice A2 ys2.length cap2]] w fun e w' => ∃ v,e=.returned (.tuple #[.agg #[.int .i64 r1,v],.int .i64 r3])∧Kd.S k20174 47 w' w.heap.size (fun _ => True) v r2∧Below w.heap.size w w':=by
 have hu24:=Tryz.underlying24;go_enter Tryz.func8,Tryz.ntmps8
 go_upto_region 0 with fail
 go_cut [2,3,4,5] from 6 to 6 (fun s2 s3 s4 s5 wc => ∃ g1 g2 gr,s2=pt g1∧s3=pt g2∧s4=pt gr∧s5=.int .i64 0∧CB wc g1 c A ys.length cap∧CB wc g2 c2 A2 ys2.length cap2∧CB wc gr 0 none 0 0∧w.heap.size ≤ gr∧Below w.heap.size w wc)
 case first =>
  go_wp2_with fail
  go_meet;case rel => exact boxes2r w _ _ _ _ _ _ _ _
 case rest =>
  obtain ⟨g1,g2,gr,rfl,rfl,rfl,rfl,B1,B2,BR,hge,HB⟩:=hcut;replace hr:=Kd.C_below hr HB;replace hr2:=Kd.C_below hr2 HB;go_upto_region 1 with fail
  go_cut [13] from 6 to 13 (fun s wx => s=.bool (!(b && b2))∧Below wc.heap.size wc wx)
  case first =>
   obtain ⟨lt1,p10,p11,z10,z11⟩:=B1.all;obtain ⟨lt2,p20,p21,z20,z21⟩:=B2.all;(go_wp2_with (first | (go_at_call 24;(with_reducible refine (ask_isForm_at.calls k c A cap ys b _ hr hc hf).mono ?_);rintro en w2 ⟨rfl,hb⟩;replace B2:=B2.step hb;replace hr2:=Kd.C_below hr2 hb;clear lt2 p20 p21 z20 z21;obtain ⟨lt2,p20,p21,z20,z21⟩:=B2.all) | (go_at_call 24;(with_reducible refine (ask_isForm_at.calls k c2 A2 cap2 ys2 b2 _ hr2 hc2 hf2).mono ?_);rintro en w3 ⟨rfl,hb3⟩;replace hb:=hb.trans (hb3.mono hb.size)) | go_in));all_goals
    go_meet
    case rel => exact ⟨by first | rfl | (simp_all;done),hb⟩
  case rest => obtain ⟨rfl,hb⟩:=hcut;replace hr:=Kd.C_below hr hb;replace B1:=B1.step hb;replace hr2:=Kd.C_below hr2 hb;replace B2:=B2.step hb;replace BR:=BR.step hb;replace HB:=HB.trans (hb.mono HB.size);clear hb;generalize hB:(b && b2)=bb at hn hz ⊢;clear hB;cases bb;(case false => obtain ⟨rfl,rfl,rfl⟩:=hz rfl;obtain ⟨ltR,pR0,pR1,zR0,zR1⟩:=BR.all;(go_wp2_with fail);refine bodyPost_ret (results_ct rfl _ _ gr 24 #[.int .i64 0,.slice none 0 0] (0,0) _ rfl (blk_put (cs:=#[.int .i64 0,.slice none 0 0]) (blk_put (cs:=#[.int .i64 0,.slice none 0 0]) BR 0 _ rfl) 1 _ rfl) Tryz.underlying24 rfl (by kernel_rfl)) rfl ?_;exact ⟨_,rfl,Kd.S_nil _ _ _ _ _,below_set (below_set HB hge) hge⟩);case true => obtain ⟨lt1,p10,p11,z10,z11⟩:=B1.all;obtain ⟨lt2,p20,p21,z20,z21⟩:=B2.all;have ha:=below_alloc HB (.cells #[.int .i64 c,.slice A ys.length cap,.int .i64 c2,.slice A2 ys2.length cap2] 24);(go_wp2_with (first | (go_at_call 25;(refine (ask_normal_at.calls k 1 (some ⟨wc.heap.size,0,none⟩) 2 [⟨c,ys⟩,⟨c2,ys2⟩] r1 r2 r3 _ (row_form2 (by exact blk_new _ _) hc hc2 (Kd.C_alloc hr _) (Kd.C_alloc hr2 _)) (Nat.le_refl _) (hn rfl _ ha)).mono ?_);rintro e w5 ⟨v_,rfl,hs,hb⟩;obtain ⟨Av,cv,ev⟩:=Kd.S_slice hs;subst ev;replace hs:=Kd.S_lower hs (below_size ha);replace BR:=(BR.step ((Below.refl _ _).alloc (Nat.le_refl _) _)).step hb;have HW:=below_step ha hb;obtain ⟨ltR,pR0,pR1,zR0,zR1⟩:=BR.all) | go_in));refine bodyPost_ret (results_ct rfl _ _ gr 24 #[.int .i64 r1,.slice Av r2.length cv] (0,0) _ rfl (blk_put (blk_put (cs:=#[.int .i64 0,.slice none 0 0]) BR 0 (.int .i64 r1) rfl) 1 _ rfl) Tryz.underlying24 rfl (by kernel_rfl)) rfl ?_;exact ⟨_,rfl,Kd.S_mono (Kd.S_far (p:=⟨gr,1,none⟩) (Kd.S_far (p:=⟨gr,0,none⟩) (Kd.S_types hs BR (by decide)) (fun _ hk => hk.2) (.int .i64 r1)) (fun _ hk => hk.2) (.slice Av r2.length cv)) (fun _ _ => trivial),below_set (below_set HW hge) hge⟩
set_option maxHeartbeats 8000000 in
set_option maxRecDepth 100000 in
theorem askTimes.calls (k:Nat) (n:Int) (c:Int) (A:Option Addr) (cap:Nat) (ys:List S174) (w:World) (hr:Kd.C k174 w A ys.length ys) (hc:ys.length ≤ cap) (b:Bool) (b2:Bool) (r1:Int) (r2:List S20174) (r3:Int) (hf:ask_isForm_at.f k c ys=some b) (hk:ask_isConst.f n=some b2) (hn:(b && b2)=true→∀ W:World,Below w.heap.size w W→ask_normal_at.f W k n [⟨c,ys⟩]=some (r1,r2,r3)) (hz:(b && b2)=false→r1=0∧r2=[]∧r3=1) :
 Calls Tryz.prog 9 #[.agg #[.int .i64 c,.slice A ys.length cap],.int .i64 n] w fun e w' => ∃ v,e=.returned (.tuple #[.agg #[.int .i64 r1,v],.int .i64 r3])∧Kd.S k20174 47 w' w.heap.size (fun _ => True) v r2∧Below w.heap.size w w':=by
 have hu24:=Tryz.underlying24;go_enter Tryz.func9,Tryz.ntmps9
 go_upto_region 0 with fail
 go_cut [2,4,5] from 6 to 6 (fun s2 s4 s5 wc => ∃ g1 gr,s2=pt g1∧s4=pt gr∧s5=.int .i64 0∧CB wc g1 c A ys.length cap∧CB wc gr 0 none 0 0∧w.heap.size ≤ gr∧Below w.heap.size w wc)
 case first =>
  go_wp2_with fail
  go_meet;case rel => exact box1r w _ _ _ _
 case rest =>
  obtain ⟨g1,gr,rfl,rfl,rfl,B1,BR,hge,HB⟩:=hcut;replace hr:=Kd.C_below hr HB;go_upto_region 1 with fail
  go_cut [13] from 6 to 13 (fun s wx => s=.bool (!(b && b2))∧Below wc.heap.size wc wx)
  case first =>
   obtain ⟨lt1,p10,p11,z10,z11⟩:=B1.all;(go_wp2_with (first | (go_at_call 24;(with_reducible refine (ask_isForm_at.calls k c A cap ys b _ hr hc hf).mono ?_);rintro en w2 ⟨rfl,hb⟩) | (go_at_call 26;(with_reducible refine (isConstB.calls n b2 _ hk).mono ?_);rintro en w3 ⟨rfl,hb3⟩;replace hb:=hb.trans (hb3.mono hb.size)) | go_in));all_goals
    go_meet
    case rel => exact ⟨by first | rfl | (simp_all;done),hb⟩
  case rest => obtain ⟨rfl,hb⟩:=hcut;replace hr:=Kd.C_below hr hb;replace B1:=B1.step hb;replace BR:=BR.step hb;replace HB:=HB.trans (hb.mono HB.size);clear hb;generalize hB:(b && b2)=bb at hn hz ⊢;clear hB;cases bb;(case false => obtain ⟨rfl,rfl,rfl⟩:=hz rfl;obtain ⟨ltR,pR0,pR1,zR0,zR1⟩:=BR.all;(go_wp2_with fail);refine bodyPost_ret (results_ct rfl _ _ gr 24 #[.int .i64 0,.slice none 0 0] (0,0) _ rfl (blk_put (cs:=#[.int .i64 0,.slice none 0 0]) (blk_put (cs:=#[.int .i64 0,.slice none 0 0]) BR 0 _ rfl) 1 _ rfl) Tryz.underlying24 rfl (by kernel_rfl)) rfl ?_;exact ⟨_,rfl,Kd.S_nil _ _ _ _ _,below_set (below_set HB hge) hge⟩);case true => obtain ⟨lt1,p10,p11,z10,z11⟩:=B1.all;have ha:=below_alloc HB (.cells #[.int .i64 c,.slice A ys.length cap] 24);(go_wp2_with (first | (go_at_call 25;(refine (ask_normal_at.calls k n (some ⟨wc.heap.size,0,none⟩) 1 [⟨c,ys⟩] r1 r2 r3 _ (row_form (by exact blk_new _ _) hc (Kd.C_alloc hr _)) (Nat.le_refl _) (hn rfl _ ha)).mono ?_);rintro e w5 ⟨v_,rfl,hs,hb⟩;obtain ⟨Av,cv,ev⟩:=Kd.S_slice hs;subst ev;replace hs:=Kd.S_lower hs (below_size ha);replace BR:=(BR.step ((Below.refl _ _).alloc (Nat.le_refl _) _)).step hb;have HW:=below_step ha hb;obtain ⟨ltR,pR0,pR1,zR0,zR1⟩:=BR.all) | go_in));refine bodyPost_ret (results_ct rfl _ _ gr 24 #[.int .i64 r1,.slice Av r2.length cv] (0,0) _ rfl (blk_put (blk_put (cs:=#[.int .i64 0,.slice none 0 0]) BR 0 (.int .i64 r1) rfl) 1 _ rfl) Tryz.underlying24 rfl (by kernel_rfl)) rfl ?_;exact ⟨_,rfl,Kd.S_mono (Kd.S_far (p:=⟨gr,1,none⟩) (Kd.S_far (p:=⟨gr,0,none⟩) (Kd.S_types hs BR (by decide)) (fun _ hk => hk.2) (.int .i64 r1)) (fun _ hk => hk.2) (.slice Av r2.length cv)) (fun _ _ => trivial),below_set (below_set HW hge) hge⟩
end Go.Proofs.YtkemjdedikobfaaGreatDoor.PSx
namespace Go.Proofs.YtkemjdedikobfaaGreatDoor.Sem
open PFx (S95)
def ci (a b:Int):Int:=if a < b then -1 else if a > b then 1 else 0
theorem ci_zero {a b:Int}:ci a b=0 ↔ a=b:=by unfold ci;split <;> (try split) <;> omega
theorem ci_neg {a b:Int}:ci a b < 0 ↔ a < b:=by unfold ci;split <;> (try split) <;> omega
theorem ci_swap (a b:Int):ci b a=- ci a b:=by unfold ci;split <;> split <;> (try split) <;> (try split) <;> omega
def lexI:List Int→List Int→Int
 | a :: xa,b :: xb => if ci a b=0 then lexI xa xb else ci a b
 | [],[] => 0
 | [],_ :: _ => -1
 | _ :: _,[] => 1
theorem lexI_refl:∀ a,lexI a a=0
 | [] => rfl
 | a :: xa => by rw [lexI,if_pos (ci_zero.2 rfl),lexI_refl xa]
theorem lexI_eq:∀ a b,lexI a b=0→a=b
 | [],[],_ => rfl
 | a :: xa,b :: xb,h => by
  rw [lexI] at h;split at h
  ·rename_i h1;rw [ci_zero.1 h1,lexI_eq xa xb h]
  ·rename_i h1;exact absurd h h1
 | [],_ :: _,h => by simp [lexI] at h
 | _ :: _,[],h => by simp [lexI] at h
theorem lexI_swap:∀ a b,lexI b a=- lexI a b
 | [],[] => rfl
 | a :: xa,b :: xb => by
  rw [lexI,lexI,ci_swap a b];by_cases h:ci a b=0
  ·rw [if_pos (by omega),if_pos h,lexI_swap xa xb]
  ·rw [if_neg (by omega),if_neg h]
 | [],_ :: _ => rfl
 | _ :: _,[] => rfl
theorem lexI_trans:∀ a b c,lexI a b < 0→lexI b c < 0→lexI a c < 0
 | [],b,c,h1,h2 => by
  cases c with
  | nil =>
   cases b with
   | nil => simp [lexI] at h1
   | cons => simp [lexI] at h2
  | cons => simp [lexI]
 | a :: xa,[],c,h1,h2 => by simp [lexI] at h1
 | a :: xa,b :: xb,[],h1,h2 => by simp [lexI] at h2
 | a :: xa,b :: xb,c :: xc,h1,h2 => by
  rw [lexI] at h1 h2 ⊢;by_cases e1:ci a b=0
  ·rw [if_pos e1] at h1;have:=ci_zero.1 e1;subst this;by_cases e2:ci a c=0
   ·rw [if_pos e2] at h2 ⊢;exact lexI_trans xa xb xc h1 h2
   ·rw [if_neg e2] at h2 ⊢;exact h2
  ·rw [if_neg e1] at h1;by_cases e2:ci b c=0
   ·have:=ci_zero.1 e2;subst this;rw [if_neg e1];exact h1
   ·rw [if_neg e2] at h2;have l1:=ci_neg.1 h1;have l2:=ci_neg.1 h2;have l3:ci a c < 0:=ci_neg.2 (by omega);rw [if_neg (by omega)];exact l3
structure Fig where
 k:Int
 s:Int
 ar:List S95
 lo:Int
 hi:Int
def pts (l:List S95):List Int:=l.flatMap fun p => [p.f0,p.f1]
def Fig.key (F:Fig):List Int:=F.k :: F.s :: F.lo :: F.hi :: (F.ar.length:Int) :: pts F.ar
theorem pts_inj:∀ a b:List S95,pts a=pts b→a=b
 | [],[],_ => rfl
 | p :: a,q :: b,h => by simp only [pts,List.flatMap_cons,List.cons_append,List.nil_append,List.cons.injEq] at h;obtain ⟨h1,h2,h3⟩:=h;have:=pts_inj a b h3;cases p;cases q;simp_all
 | [],_ :: _,h => by simp [pts] at h
 | _ :: _,[],h => by simp [pts] at h
theorem key_inj {F G:Fig} (h:F.key=G.key):F=G:=by cases F;cases G;simp only [Fig.key,List.cons.injEq] at h;obtain ⟨h1,h2,h3,h4,h5,h6⟩:=h;have:=pts_inj _ _ h6;simp_all
def cmpF (F G:Fig):Int:=lexI F.key G.key
theorem cmpF_refl (F:Fig):cmpF F F=0:=lexI_refl _
theorem cmpF_eq {F G:Fig} (h:cmpF F G=0):F=G:=key_inj (lexI_eq _ _ h)
theorem cmpF_swap (F G:Fig):cmpF G F=- cmpF F G:=lexI_swap _ _
theorem cmpF_trans {F G H:Fig} (h1:cmpF F G < 0) (h2:cmpF G H < 0):cmpF F H < 0:=lexI_trans _ _ _ h1 h2
def leF (F G:Fig):Prop:=cmpF F G ≤ 0
theorem leF_trans {F G H:Fig} (h1:leF F G) (h2:leF G H):leF F H:=by
 unfold leF at *;by_cases e1:cmpF F G=0
 ·rw [cmpF_eq e1];exact h2
 ·by_cases e2:cmpF G H=0
  ·rw [← cmpF_eq e2];exact h1
  ·have:=cmpF_trans (F:=F) (G:=G) (H:=H) (by omega) (by omega);omega
theorem leF_refl (F:Fig):leF F F:=by unfold leF;rw [cmpF_refl];omega
structure Trm where
 c:Int
 F:Fig
def co:List Trm→Fig→Int
 | [],_ => 0
 | t :: l,F => (if cmpF t.F F=0 then t.c else 0) + co l F
theorem co_append:∀ (a b:List Trm) (F:Fig),co (a ++ b) F=co a F + co b F
 | [],b,F => by simp [co]
 | t :: a,b,F => by rw [List.cons_append,co,co,co_append a b F];omega
theorem co_perm {a b:List Trm} (h:a.Perm b) (F:Fig):co a F=co b F:=by
 induction h with
 | nil => rfl
 | cons t _ ih => rw [co,co,ih]
 | swap s t l => simp only [co];omega
 | trans _ _ ih1 ih2 => rw [ih1,ih2]
def srt (l:List Trm):Prop:=l.Pairwise fun a b => cmpF a.F b.F < 0
def nz (l:List Trm):Prop:=∀ t ∈ l,t.c ≠ 0
theorem co_none {l:List Trm} {F:Fig} (h:∀ t ∈ l,cmpF t.F F ≠ 0):co l F=0:=by
 induction l with
 | nil => rfl
 | cons t l ih => rw [co,if_neg (h t List.mem_cons_self),ih (fun s hs => h s (List.mem_cons_of_mem _ hs))];rfl
theorem co_head {t:Trm} {l:List Trm} (h:srt (t :: l)):co (t :: l) t.F=t.c:=by rw [co,if_pos (cmpF_refl _),co_none (fun s hs => by have:=(List.pairwise_cons.1 h).1 s hs;rw [cmpF_swap];omega)];omega
theorem co_less {t:Trm} {l:List Trm} {F:Fig} (h:srt (t :: l)) (hF:cmpF F t.F < 0):co (t :: l) F=0:=by
 apply co_none;intro s hs;rcases List.mem_cons.1 hs with rfl | hs
 ·rw [cmpF_swap];omega
 ·have:=cmpF_trans hF ((List.pairwise_cons.1 h).1 s hs);rw [cmpF_swap];omega
theorem uniq:∀ (a b:List Trm),srt a→srt b→nz a→nz b→(∀ F,co a F=co b F)→a=b
 | [],[],_,_,_,_,_ => rfl
 | [],t :: b,_,hb,_,nb,h => by have:=h t.F;rw [co_head hb] at this;exact absurd this.symm (nb t List.mem_cons_self)
 | t :: a,[],ha,_,na,_,h => by have:=h t.F;rw [co_head ha] at this;exact absurd this (na t List.mem_cons_self)
 | t :: a,u :: b,ha,hb,na,nb,h => by
  have e:cmpF t.F u.F=0:=by
   by_cases e1:cmpF t.F u.F < 0
   ·have:=h t.F;rw [co_head ha,co_less hb e1] at this;exact absurd this (na t List.mem_cons_self)
   ·by_cases e2:cmpF t.F u.F=0
    ·exact e2
    ·(have e3:cmpF u.F t.F < 0:=by rw [cmpF_swap];omega);have:=h u.F;rw [co_head hb,co_less ha e3] at this;exact absurd this.symm (nb u List.mem_cons_self)
  have eF:=cmpF_eq e;have ec:t.c=u.c:=by have:=h t.F;rw [co_head ha,eF,co_head hb] at this;exact this
  have et:t=u:=by cases t;cases u;simp_all
  subst et;have:=uniq a b (List.pairwise_cons.1 ha).2 (List.pairwise_cons.1 hb).2 (fun s hs => na s (List.mem_cons_of_mem _ hs)) (fun s hs => nb s (List.mem_cons_of_mem _ hs)) (fun F => by have:=h F;rw [co,co] at this;omega);rw [this]
def mul (n:Int) (l:List Trm):List Trm:=l.map fun t => ⟨t.c * n,t.F⟩
theorem co_mul (n:Int):∀ (l:List Trm) (F:Fig),co (mul n l) F=co l F * n
 | [],F => by simp [mul,co]
 | t :: l,F => by have:=co_mul n l F;unfold mul at this ⊢;rw [List.map_cons,co,co,this,Int.add_mul];congr 1;simp only;split <;> simp
theorem srt_mul {n:Int} {l:List Trm} (h:srt l):srt (mul n l):=by unfold mul srt;rw [List.pairwise_map];exact h
theorem nz_mul {n:Int} {l:List Trm} (hn:n ≠ 0) (h:nz l):nz (mul n l):=by intro t ht;unfold mul at ht;obtain ⟨s,hs,rfl⟩:=List.mem_map.1 ht;exact Int.mul_ne_zero (h s hs) hn
theorem srt_filter {l:List Trm} (p:Trm→Bool) (h:srt l):srt (l.filter p):=h.filter p
theorem co_filter_nz:∀ (l:List Trm) (F:Fig),co (l.filter fun t => !decide (t.c=0)) F=co l F
 | [],_ => rfl
 | t :: l,F => by
  by_cases h:t.c=0
  ·rw [List.filter_cons_of_neg (by simp [h]),co_filter_nz l F,co,h];split <;> omega
  ·rw [List.filter_cons_of_pos (by simp [h]),co,co,co_filter_nz l F]
end Go.Proofs.YtkemjdedikobfaaGreatDoor.Sem
namespace Go.Proofs.YtkemjdedikobfaaGreatDoor.Sem
open PFx Go.RowKit Go.Proofs.YtkemjdedikobfaaGreatDoorW.PrintWords
theorem wr {i:Int} (h0:-1000000 ≤ i) (h1:i ≤ 1000000):wrap64 i=i:=by unfold wrap64;omega
def fnz:List Int→Int
 | [] => 0
 | a :: l => if a=0 then fnz l else a
theorem cmpI (a b:Int):cmp_Compare_int.f a b=some (ci a b):=by
 simp only [cmp_Compare_int.f,cmp_isNaN_int.f,Option.bind_some,bne_self_eq_false,Bool.false_eq_true,if_false,ci];split
 ·rfl
 ·split <;> rfl
theorem rd_at (l:List Int) (i:Nat) (h:i < l.length):rd l (i:Int)=l[i]:=by simp [rd,List.getD_eq_getElem?_getD,List.getElem?_eq_getElem h]
theorem orL (l:List Int) (hl:l.length ≤ 100):∀ (k i:Nat),i ≤ l.length→l.length - i < k→cmp_Or_int.l0 k 0 l (l.length:Int) (i:Int)=some (fnz (l.drop i))
 | 0,i,_,h => by omega
 | k + 1,i,hi,hk => by
  rw [cmp_Or_int.l0];by_cases h:i < l.length
  ·(have hd:l.drop i=l[i] :: l.drop (i + 1):=by rw [List.drop_eq_getElem_cons h]);(have hw:wrap64 ((i:Int) + 1)=((i + 1:Nat):Int):=by rw [wr (by omega) (by omega)];rfl);rw [if_pos (by omega),if_pos (by omega),if_pos (by omega),hd,rd_at l i h,hw,fnz];by_cases hz:l[i]=0
   ·rw [if_pos hz,if_pos hz];exact orL l hl k (i + 1) (by omega) (by omega)
   ·rw [if_neg hz,if_neg hz]
  ·rw [if_neg (by omega),List.drop_eq_nil_of_le (by omega)];rfl
theorem orF (l:List Int) (k:Nat) (hl:l.length ≤ 100) (hk:l.length < k):cmp_Or_int.f k l=some (fnz l):=by have:=orL l hl k 0 (by omega) (by omega);simpa [cmp_Or_int.f] using this
theorem fnz_cons (a:Int) (l:List Int):fnz (a :: l)=if a=0 then fnz l else a:=rfl
theorem pt_at (xs:List S95) (i:Nat) (h:i < xs.length):rd_T95 xs (i:Int)=xs[i]:=by simp [rd_T95,List.getD_eq_getElem?_getD,List.getElem?_eq_getElem h]
theorem lex_cons (a b:Int) (l m:List Int):lexI (a :: l) (b :: m)=if ci a b=0 then lexI l m else ci a b:=rfl
theorem ptsL (A B:List S95) (hl:A.length=B.length) (hA:A.length ≤ 1000) (p q r s p' q' r' s':Int):∀ (k i:Nat) (x:Int),i ≤ A.length→2 * (A.length - i) + 10 < k →
 ask_byFigure.l0 k x (i:Int) p q A r s p' q' B r' s'=some (if x=0 then lexI (pts (A.drop i)) (pts (B.drop i)) else x)
 | 0,i,_,_,h => by omega
 | 1,i,_,_,h => by omega
 | k + 2,i,x,hi,hk => by
  rw [ask_byFigure.l0];by_cases hx:x=0
  ·rw [if_pos hx,if_pos hx,ask_byFigure.j1];by_cases h:i < A.length
   ·(have hw:wrap64 ((i:Int) + 1)=((i + 1:Nat):Int):=by rw [wr (by omega) (by omega)];rfl);(have dA:A.drop i=A[i] :: A.drop (i + 1):=by rw [List.drop_eq_getElem_cons h]);(have dB:B.drop i=B[i] :: B.drop (i + 1):=by rw [List.drop_eq_getElem_cons (by omega)]);rw [if_pos (by simpa using h),if_pos (by omega),if_pos (by omega),if_pos (by omega)];simp only [cmpI,Option.bind_some,pt_at A i h,pt_at B i (by omega),hw];rw [orF _ k (by simp) (by simp;omega)];simp only [Option.bind_some];rw [ptsL A B hl hA p q r s p' q' r' s' k (i + 1) _ (by omega) (by omega),dA,dB];simp only [pts,List.flatMap_cons,List.cons_append,List.nil_append,lex_cons,fnz];congr 1;by_cases h1:ci A[i].f0 B[i].f0=0
    ·by_cases h2:ci A[i].f1 B[i].f1=0
     ·simp [h1,h2]
     ·simp [h1,h2]
    ·simp [h1]
   ·rw [if_neg (by simp;omega),List.drop_eq_nil_of_le (by omega),List.drop_eq_nil_of_le (by omega),hx];rfl
  ·rw [if_neg hx,if_neg hx,ask_byFigure.j1,if_neg (by decide)]
theorem stop_ (k:Nat) (x:Int) (hk:2 ≤ k) (hx:¬ x=0) (i p q:Int) (A:List S95) (r s p' q':Int) (B:List S95) (r' s':Int):ask_byFigure.l0 k x i p q A r s p' q' B r' s'=some x:=by obtain ⟨k,rfl⟩:∃ j,k=j + 2:=⟨k - 2,by omega⟩;rw [ask_byFigure.l0,if_neg hx,ask_byFigure.j1,if_neg (by decide)]
theorem byF (F G:Fig) (hF:F.ar.length ≤ 1000):ask_byFigure.f 5000 F.k F.s F.ar F.lo F.hi G.k G.s G.ar G.lo G.hi=some (cmpF F G):=by
 unfold ask_byFigure.f;simp only [cmpI,Option.bind_some];rw [orF _ 5000 (by simp) (by simp)];simp only [Option.bind_some];unfold cmpF Fig.key;simp only [lex_cons,fnz];by_cases h1:ci F.k G.k=0
 ·by_cases h2:ci F.s G.s=0
  ·by_cases h3:ci F.lo G.lo=0
   ·by_cases h4:ci F.hi G.hi=0
    ·by_cases h5:ci (F.ar.length:Int) (G.ar.length:Int)=0
     ·(have hl:F.ar.length=G.ar.length:=by have:=ci_zero.1 h5;omega);simp only [h1,h2,h3,h4,h5,if_true];have:=ptsL F.ar G.ar hl hF F.k F.s F.lo F.hi G.k G.s G.lo G.hi 5000 0 0 (by omega) (by omega);simpa using this
     ·simp only [h1,h2,h3,h4,h5,if_true,if_false];exact stop_ 5000 _ (by omega) h5 ..
    ·simp only [h1,h2,h3,h4,if_true,if_false];exact stop_ 5000 _ (by omega) h4 ..
   ·simp only [h1,h2,h3,if_true,if_false];exact stop_ 5000 _ (by omega) h3 ..
  ·simp only [h1,h2,if_true,if_false];exact stop_ 5000 _ (by omega) h2 ..
 ·simp only [h1,if_false];exact stop_ 5000 _ (by omega) h1 ..
end Go.Proofs.YtkemjdedikobfaaGreatDoor.Sem
namespace Go.Proofs.YtkemjdedikobfaaGreatDoor.Sem
open PFx (S95)
open PSx Go.RowKit Go.Proofs.YtkemjdedikobfaaGreatDoorW.PrintWords
def figS (y:S174):Fig:=⟨y.f1.f0,y.f1.f1,y.f1.f2.xs,y.f1.f3.f0,y.f1.f3.f1⟩
def Ok (W0:World) (y:S174):Prop:=y.f1.f2.Good W0∧y.f1.f2.xs.length ≤ 1000
theorem cmpS {W0:World} {a b:S174} (ha:Ok W0 a) (hb:Ok W0 b):cmpT.f W0 a.f0 a.f1.f0 a.f1.f1 a.f1.f2 a.f1.f3.f0 a.f1.f3.f1 b.f0 b.f1.f0 b.f1.f1 b.f1.f2 b.f1.f3.f0 b.f1.f3.f1=some (cmpF (figS a) (figS b)):=by unfold cmpT.f PFx.ask_normal_1.f;rw [if_pos ⟨ha.1,hb.1⟩];have:=byF (figS a) (figS b) ha.2;unfold figS at this ⊢;simp only at this ⊢;rw [this];rfl
def leS (a b:S174):Prop:=leF (figS a) (figS b)
theorem rdS (l:List S174) (i:Nat) (x:S174) (h:l[i]?=some x):rd_T174 l (i:Int)=x:=by simp [rd_T174,List.getD_eq_getElem?_getD,h]
def sor (l:List S174):Prop:=l.Pairwise leS
theorem inner {W0:World} (n:Nat) (hn:n ≤ 1000) (R:List S174):∀ (L:List S174) (b:S174) (M:List S174) (k:Nat),L.length + 1 < k→(L ++ b :: M ++ R).length=n→(∀ y ∈ L ++ b :: M,Ok W0 y)→sor (L ++ M)→(∀ m ∈ M,leS b m) →
 ∃ (S:List S174) (k':Nat),slices_insertion_at.l1 W0 k (L ++ b :: M ++ R) 0 (n:Int) ((L.length + M.length:Nat):Int) (L.length:Int)=slices_insertion_at.l0 W0 k' (S ++ R) 0 (n:Int) ((L.length + M.length + 1:Nat):Int)∧k ≤ k' + L.length + 1∧S.Perm (L ++ b :: M)∧sor S:=by
 intro L;induction hL:L.length generalizing L with
 | zero =>
  intro b M k hk hlen hok hs hm;obtain rfl:=List.eq_nil_of_length_eq_zero hL;obtain ⟨k,rfl⟩:∃ j,k=j + 1:=⟨k - 1,by omega⟩;refine ⟨b :: M,k,?_,by omega,List.Perm.refl _,List.pairwise_cons.2 ⟨hm,hs⟩⟩;rw [slices_insertion_at.l1,if_neg (by simp)];have hM:M.length < n:=by simp at hlen;omega
  rw [show wrap64 (((0 + M.length:Nat):Int) + 1)=((0 + M.length + 1:Nat):Int) by rw [wr (by omega) (by omega)];rfl];rfl
 | succ m ih =>
  intro b M k hk hlen hok hs hm;obtain ⟨L',a,rfl⟩:∃ L' a,L=L' ++ [a]:=⟨L.dropLast,L.getLast (by intro h;simp [h] at hL),(List.dropLast_concat_getLast _).symm⟩;have hm':L'.length=m:=by simpa using hL
  obtain ⟨k,rfl⟩:∃ j,k=j + 1:=⟨k - 1,by omega⟩;have hlist:L' ++ [a] ++ b :: M ++ R=L' ++ (a :: b :: (M ++ R)):=by simp
  have hlen':(L' ++ (a :: b :: (M ++ R))).length=n:=by rw [← hlist];exact hlen
  have hln:m + 1 < n:=by simp at hlen';omega
  have hw:wrap64 (((m + 1:Nat):Int) - 1)=(m:Int):=by rw [wr (by omega) (by omega)];omega
  have r1:rd_T174 (L' ++ (a :: b :: (M ++ R))) ((m + 1:Nat):Int)=b:=rdS _ _ _ (by rw [List.getElem?_append_right (by omega),show m + 1 - L'.length=1 by omega];rfl);have r2:rd_T174 (L' ++ (a :: b :: (M ++ R))) (m:Int)=a:=rdS _ _ _ (by rw [List.getElem?_append_right (by omega),show m - L'.length=0 by omega];rfl);have oa:Ok W0 a:=hok a (by simp);have ob:Ok W0 b:=hok b (by simp);rw [hlist,slices_insertion_at.l1,if_pos (by omega),if_pos (by omega),if_pos (by rw [hlen'];omega),hw,if_pos (by omega),if_pos (by rw [hlen'];omega),r1,r2,cmpS ob oa,Option.bind_some];have hs':=List.pairwise_append.1 hs;have hs1:=List.pairwise_append.1 hs'.1;by_cases hc:cmpF (figS b) (figS a) < 0
  ·rw [if_pos hc];(have hset:((L' ++ (a :: b :: (M ++ R))).set ((m + 1:Nat):Int).toNat a).set (m:Int).toNat b=L' ++ b :: (a :: M) ++ R:=by rw [Int.toNat_natCast,Int.toNat_natCast,List.set_append_right _ _ (by omega),show m + 1 - L'.length=1 by omega,List.set_append_right _ _ (by omega),show m - L'.length=0 by omega];simp);(have hba:leS b a:=by unfold leS leF;omega);obtain ⟨S,k',e1,e2,e3,e4⟩:=ih L' hm' b (a :: M) k (by omega) (by rw [← hlen'];simp) (fun y hy => hok y (by simp at hy ⊢;rcases hy with h | h | h | h <;> simp [h])) (by
    (have:L' ++ a :: M=L' ++ [a] ++ M:=by simp);unfold sor at hs ⊢;rw [this];exact hs) (fun y hy => by
    rcases List.mem_cons.1 hy with rfl | hy
    ·exact hba
    ·exact hm y hy)
   refine ⟨S,k',?_,by omega,e3.trans (by simpa using List.Perm.append_left L' (List.Perm.swap a b M)),e4⟩;(have e5:m + (a :: M).length=m + 1 + M.length:=by simp;omega);rw [e5] at e1;rw [← e1];exact congrArg (fun l => slices_insertion_at.l1 W0 k l 0 (n:Int) ((m + 1 + M.length:Nat):Int) (m:Int)) hset
  ·rw [if_neg hc];refine ⟨L' ++ [a] ++ b :: M,k,?_,by omega,List.Perm.refl _,?_⟩
   ·(have hM:m + 1 + M.length < n:=by simp at hlen';omega);rw [show wrap64 (((m + 1 + M.length:Nat):Int) + 1)=((m + 1 + M.length + 1:Nat):Int) by rw [wr (by omega) (by omega)];rfl,hlist]
   ·(have hab:leS a b:=by unfold leS leF;rw [cmpF_swap];omega);refine List.pairwise_append.2 ⟨hs'.1,List.pairwise_cons.2 ⟨hm,hs'.2.1⟩,fun x hx y hy => ?_⟩;rcases List.mem_cons.1 hy with rfl | hy
    ·rcases List.mem_append.1 hx with hx | hx
     ·exact leF_trans (hs1.2.2 x hx a (by simp)) hab
     ·(obtain rfl:x=a:=by simpa using hx);exact hab
    ·exact hs'.2.2 x hx y hy
theorem outer {W0:World} (n:Nat) (hn:n ≤ 1000):∀ (R S:List S174) (k:Nat),(R.length + 1) * (n + 3) < k→(S ++ R).length=n→0 < S.length→(∀ y ∈ S ++ R,Ok W0 y)→sor S →
 ∃ T:List S174,slices_insertion_at.l0 W0 k (S ++ R) 0 (n:Int) (S.length:Int)=some T∧T.Perm (S ++ R)∧sor T
 | [],S,k,hk,hlen,_,hok,hs => by obtain ⟨k,rfl⟩:∃ j,k=j + 1:=⟨k - 1,by omega⟩;refine ⟨S,?_,by simp,hs⟩;rw [slices_insertion_at.l0,if_neg (by simp at hlen;omega),List.append_nil]
 | b :: R,S,k,hk,hlen,hpos,hok,hs => by
  obtain ⟨k,rfl⟩:∃ j,k=j + 1:=⟨k - 1,by omega⟩;have hSn:S.length < n:=by simp at hlen;omega
  rw [slices_insertion_at.l0,if_pos (by omega)];have hb:((b :: R).length + 1) * (n + 3)=(R.length + 1) * (n + 3) + (n + 3):=by simp [Nat.add_mul]
  have hp:S ++ [b] ++ R=S ++ b :: R:=by simp
  obtain ⟨S',k',e1,e2,e3,e4⟩:=inner (W0:=W0) n hn R S b [] k (by omega) (by rw [hp];exact hlen) (fun y hy => hok y (by simp at hy ⊢;rcases hy with h | h <;> simp [h])) (by simpa using hs) (fun _ h => by simp at h);simp only [List.length_nil,Nat.add_zero] at e1;rw [hp] at e1;rw [e1];have hl:S'.length=S.length + 1:=by rw [e3.length_eq];simp
  obtain ⟨T,f1,f2,f3⟩:=outer n hn R S' k' (by omega) (by rw [List.length_append,hl];simp at hlen;omega) (by omega) (fun y hy => by
   rcases List.mem_append.1 hy with h | h
   ·have:=e3.mem_iff.1 h;exact hok y (by simp at this ⊢;rcases this with h | h <;> simp [h])
   ·exact hok y (by simp [h])) e4
  rw [hl] at f1;exact ⟨T,f1,f2.trans (by rw [← hp];exact e3.append_right R),f3⟩
theorem sorted {W0:World} (l:List S174) (hl:l.length < 20) (hok:∀ y ∈ l,Ok W0 y) (q:Nat):∃ T:List S174,slices_SortStable_at.f W0 5000 l q=some T∧T.Perm l∧sor T:=by
 unfold slices_SortStable_at.f slices_stable_at.f;have key:∃ T:List S174,slices_insertion_at.f W0 4999 l 0 (l.length:Int) q=some T∧T.Perm l∧sor T:=by
  unfold slices_insertion_at.f;cases l with
  | nil => refine ⟨[],?_,List.Perm.refl _,List.Pairwise.nil⟩;rw [slices_insertion_at.l0,if_neg (by rw [wr (by omega) (by omega)];simp)]
  | cons a l => have:=outer (W0:=W0) (a :: l).length (by omega) l [a] 4999 (by (have h1:l.length + 1 ≤ 20:=by simp at hl;omega);(have h2:(a :: l).length + 3 ≤ 23:=by simp at hl ⊢;omega);have:=Nat.mul_le_mul h1 h2;omega) (by simp) (by simp) hok (by simp [sor]);rw [show wrap64 (0 + 1)=(([a]:List S174).length:Int) by rw [wr (by omega) (by omega)];rfl];exact this
 obtain ⟨T,h1,h2,h3⟩:=key;refine ⟨T,?_,h2,h3⟩;rw [slices_stable_at.l0,if_neg (by omega),h1,Option.bind_some,slices_stable_at.l1,if_neg (by omega)];rfl
end Go.Proofs.YtkemjdedikobfaaGreatDoor.Sem
namespace Go.Proofs.YtkemjdedikobfaaGreatDoor.Sem
open PFx (S95)
open PSx Go.RowKit Go.Proofs.YtkemjdedikobfaaGreatDoorW.PrintWords
theorem wrapN {x:Int} (h0:-9000000000000000 ≤ x) (h1:x ≤ 9000000000000000):wrap64 x=x:=by unfold wrap64;omega
def sm (x:Int):Prop:=-1099511627776 ≤ x∧x ≤ 1099511627776
theorem quo_iff (a b:Int) (ha:a ≠ 0):(b ≤ quoI a∧-(quoI a) ≤ b) ↔ sm (a * b):=by
 unfold quoI sm;by_cases h:0 < a
 ·rw [if_pos h,Int.le_ediv_iff_mul_le h];have h2:-(1099511627776 / a) ≤ b ↔ -b * a ≤ 1099511627776:=by rw [← Int.le_ediv_iff_mul_le h];constructor <;> intro h3 <;> omega
  rw [h2,Int.mul_comm b a,Int.neg_mul,Int.mul_comm b a];constructor <;> intro h3 <;> omega
 ·have hn:0 < -a:=by omega
  have e:-(1099511627776 / a)=1099511627776 / (-a):=by rw [Int.ediv_neg]
  rw [if_neg h,e,Int.le_ediv_iff_mul_le hn];have h2:-(1099511627776 / -a) ≤ b ↔ -b * -a ≤ 1099511627776:=by rw [← Int.le_ediv_iff_mul_le hn];constructor <;> intro h3 <;> omega
  rw [h2,Int.mul_neg,Int.neg_mul_neg,Int.mul_comm b a];constructor <;> intro h3 <;> omega
theorem prodT {a b:Int} (h0:-2199023255552 ≤ a) (h1:a ≤ 2199023255552):(sm (a * b)→productT.f a b=some (a * b,true))∧(¬ sm (a * b)→productT.f a b=some (0,false)):=by
 unfold productT.f;rw [if_pos ⟨h0,h1⟩];by_cases ha:a=0
 ·subst ha;refine ⟨fun _ => by simp,fun h => absurd (by simp [sm]) h⟩
 ·rw [if_neg ha];have hq:=quo_iff a b ha;refine ⟨fun h => ?_,fun h => ?_⟩
  ·have h3:=hq.2 h;rw [if_neg (by omega)];unfold sm at h;rw [wrapN (by omega) (by omega)]
  ·rw [if_pos];have:¬ (b ≤ quoI a∧-(quoI a) ≤ b):=fun h3 => h (hq.1 h3);omega
def cf (x:Int):Prop:=-50 ≤ x∧x ≤ 50
instance (x:Int):Decidable (cf x):=inferInstanceAs (Decidable (_∧_))
instance (x:Int):Decidable (sm x):=inferInstanceAs (Decidable (_∧_))
theorem isCoefE (x:Int):ask_isCoef.f x=some (decide (cf x)):=by
 unfold ask_isCoef.f cf;split
 ·rename_i h;exact congrArg some (decide_eq_decide.2 ⟨fun h2 => ⟨h,h2⟩,fun h2 => h2.2⟩)
 ·rename_i h;exact congrArg some (decide_eq_false (fun h2 => h h2.1)).symm
theorem isConstE (x:Int):ask_isConst.f x=some (decide (sm x)):=by
 unfold ask_isConst.f sm;split
 ·rename_i h;exact congrArg some (decide_eq_decide.2 ⟨fun h2 => ⟨h,h2⟩,fun h2 => h2.2⟩)
 ·rename_i h;exact congrArg some (decide_eq_false (fun h2 => h h2.1)).symm
def figN (x:S20174):Fig:=⟨x.f1.f0,x.f1.f1,x.f1.f2,x.f1.f3.f0,x.f1.f3.f1⟩
def trmN (x:S20174):Trm:=⟨x.f0,figN x⟩
def trmS (y:S174):Trm:=⟨y.f0,figS y⟩
theorem trmN_inj {a b:S20174} (h:trmN a=trmN b):a=b:=by obtain ⟨a0,a1,a2,a3,a4,a5⟩:=a;obtain ⟨b0,b1,b2,b3,b4,b5⟩:=b;simp only [trmN,figN,Trm.mk.injEq,Fig.mk.injEq] at h;simp_all
theorem trmNs_inj:∀ {a b:List S20174},a.map trmN=b.map trmN→a=b
 | [],[],_ => rfl
 | x :: a,y :: b,h => by simp only [List.map_cons,List.cons.injEq] at h;rw [trmN_inj h.1,trmNs_inj h.2]
 | [],_ :: _,h => by simp at h
 | _ :: _,[],h => by simp at h
theorem rdN (l:List S20174) (i:Nat) (x:S20174) (h:l[i]?=some x):rd_T20174 l (i:Int)=x:=by simp [rd_T20174,List.getD_eq_getElem?_getD,h]
theorem byFM {W0:World} {x:S20174} {y:S174} (hx:x.f1.f2.length ≤ 1000) (hy:Ok W0 y):byFigM.f W0 x.f1.f0 x.f1.f1 x.f1.f2 x.f1.f3.f0 x.f1.f3.f1 y.f1.f0 y.f1.f1 y.f1.f2 y.f1.f3.f0 y.f1.f3.f1=some (cmpF (figN x) (figS y)):=by unfold byFigM.f;rw [if_pos hy.1];exact byF (figN x) (figS y) hx
theorem cloneE {W0:World} {y:S174} (hy:Ok W0 y):cloneP.f W0 y.f1.f2=some y.f1.f2.xs:=by unfold cloneP.f;rw [if_pos ⟨hy.1,by have:=hy.1.1;have:=hy.2;omega⟩]
def mkN (y:S174):S20174:=⟨y.f0,⟨y.f1.f0,y.f1.f1,y.f1.f2.xs,y.f1.f3⟩⟩
theorem trm_mkN (y:S174):trmN (mkN y)=trmS y:=rfl
theorem mono_to {α:Type} {f:Nat→Option α} (hm:∀ k,LeO (f k) (f (k + 1))) {r:α}:∀ (j d:Nat),f j=some r→f (j + d)=some r
 | j,0,h => h
 | j,d + 1,h => hm (j + d) r (mono_to hm j d h)
noncomputable def done_ (W0:World) (k:Nat) (x7 a0:Int) (M:List S20174):Option (Int × List S20174 × Int) :=
 (delT.f M a0).bind fun t138 => (if (t138.length:Int) > 5 then (some (0,([]:List (S20174)),2)) else (if (t138.length:Int)=0 then (ask_normal_at.j2 W0 k x7 a0 0 ([]:List (S20174))) else (ask_normal_at.j2 W0 k x7 a0 0 t138)))
theorem merge {W0:World} (x7 a0:Int) (T:List S174) (hT:T.length ≤ 100) (hok:∀ y ∈ T,Ok W0 y) (hcf:∀ y ∈ T,cf y.f0):∀ (Rm P:List S174) (M:List S20174) (k:Nat),T=P ++ Rm→Rm.length < k→sor Rm→srt (M.map trmN)→(∀ m ∈ M,∀ t ∈ Rm,leF (figN m) (figS t))→(∀ m ∈ M,m.f1.f2.length ≤ 1000)→M.length ≤ P.length →
 (∀ m ∈ M,-50 * (P.length:Int) ≤ m.f0∧m.f0 ≤ 50 * (P.length:Int)) →
 ∃ (M':List S20174) (k':Nat),ask_normal_at.l1 W0 k x7 T (T.length:Int) (P.length:Int) a0 0 M=done_ W0 k' x7 a0 M'∧k ≤ k' + Rm.length + 1∧srt (M'.map trmN)∧(∀ F,co (M'.map trmN) F=co (M.map trmN) F + co (Rm.map trmS) F)∧(∀ m ∈ M',m.f1.f2.length ≤ 1000)∧M'.length ≤ T.length∧(∀ m ∈ M',-5000 ≤ m.f0∧m.f0 ≤ 5000)
 | [],P,M,k,hTP,hk,_,hs,_,har,hMl,hb => by obtain ⟨k,rfl⟩:∃ j,k=j + 1:=⟨k - 1,by omega⟩;refine ⟨M,k,?_,by omega,hs,fun F => by simp [co],har,by rw [hTP];simpa using hMl,fun m hm => by have:=hb m hm;(have:P.length ≤ 100:=by rw [hTP] at hT;simpa using hT);omega⟩;rw [ask_normal_at.l1,if_neg (by rw [hTP];simp)];rfl
 | y :: Rm,P,M,k,hTP,hk,hsr,hs,hle,har,hMl,hb => by
  obtain ⟨k,rfl⟩:∃ j,k=j + 1:=⟨k - 1,by omega⟩;have hPl:P.length < T.length:=by rw [hTP];simp
  have hyT:y ∈ T:=by rw [hTP];simp
  have oy:=hok y hyT;have cy:=hcf y hyT;have hr:rd_T174 T (P.length:Int)=y:=rdS _ _ _ (by rw [hTP,List.getElem?_append_right (by omega),Nat.sub_self];rfl);have hw:wrap64 ((P.length:Int) + 1)=((P ++ [y]).length:Int):=by rw [wr (by omega) (by omega)];simp
  have hsr':=List.pairwise_cons.1 hsr;have hTP':T=(P ++ [y]) ++ Rm:=by rw [hTP];simp
  have app:(∀ m ∈ M,cmpF (figN m) (figS y) < 0) →
   ∃ (M':List S20174) (k':Nat),ask_normal_at.l1 W0 k x7 T (T.length:Int) (wrap64 ((P.length:Int) + 1)) a0 0 (M ++ [mkN y])=done_ W0 k' x7 a0 M'∧k + 1 ≤ k' + (y :: Rm).length + 1∧srt (M'.map trmN)∧(∀ F,co (M'.map trmN) F=co (M.map trmN) F + co ((y :: Rm).map trmS) F)∧(∀ m ∈ M',m.f1.f2.length ≤ 1000)∧M'.length ≤ T.length∧(∀ m ∈ M',-5000 ≤ m.f0∧m.f0 ≤ 5000):=by
   intro hlt;rw [hw];obtain ⟨M',k',e1,e2,e3,e4,e5,e6,e7⟩:=merge x7 a0 T hT hok hcf Rm (P ++ [y]) (M ++ [mkN y]) k hTP' (by simp at hk;omega) hsr'.2 (by
    rw [List.map_append];refine List.pairwise_append.2 ⟨hs,by simp,fun a ha b hb' => ?_⟩;obtain ⟨m,hm,rfl⟩:=List.mem_map.1 ha;(obtain rfl:b=trmN (mkN y):=by simpa using hb');exact hlt m hm) (fun m hm t ht => by
    rcases List.mem_append.1 hm with hm | hm
    ·exact hle m hm t (List.mem_cons_of_mem _ ht)
    ·(obtain rfl:m=mkN y:=by simpa using hm);exact hsr'.1 t ht) (fun m hm => by
    rcases List.mem_append.1 hm with hm | hm
    ·exact har m hm
    ·(obtain rfl:m=mkN y:=by simpa using hm);exact oy.2) (by simp;omega) (fun m hm => by
    (have hl:((P ++ [y]).length:Int)=(P.length:Int) + 1:=by simp);rw [hl];rcases List.mem_append.1 hm with hm | hm
    ·have:=hb m hm;omega
    ·(obtain rfl:m=mkN y:=by simpa using hm);have:(mkN y).f0=y.f0:=rfl;unfold cf at cy;omega)
   refine ⟨M',k',e1,by simp;omega,e3,fun F => ?_,e5,e6,e7⟩;rw [e4,List.map_append,co_append,List.map_cons,List.map_nil,co,co,List.map_cons,co,trm_mkN];omega
  rw [ask_normal_at.l1,if_pos (by omega),if_pos (by omega),if_pos (by omega),hr];rcases List.eq_nil_or_concat M with rfl | ⟨M0,x,rfl⟩
  ·rw [if_neg (by simp),cloneE oy,Option.bind_some,if_pos (by simp)];exact app (fun m hm => by simp at hm)
  ·(have hxl:((M0 ++ [x]:List S20174).length:Int) - 1=(M0.length:Int):=by simp);(have hMb:M0.length + 1 ≤ 100:=by simp at hMl;omega);(have hwl:wrap64 (((M0 ++ [x]:List S20174).length:Int) - 1)=(M0.length:Int):=by rw [hxl,wr (by omega) (by omega)]);have hrx:rd_T20174 (M0 ++ [x]) (M0.length:Int)=x:=rdN _ _ _ (by rw [List.getElem?_append_right (by omega),Nat.sub_self];rfl);have hax:=har x (by simp);have hbx:=hb x (by simp);simp only [List.concat_eq_append] at *;rw [if_pos (by simp <;> omega),hwl,if_pos (by omega),if_pos (by simp;omega),hrx,byFM hax oy,Option.bind_some];by_cases hc:cmpF (figN x) (figS y)=0
   ·rw [if_pos hc,hw];(have hPb:P.length ≤ 100:=by omega);(have hsum:wrap64 (x.f0 + y.f0)=x.f0 + y.f0:=by unfold cf at cy;exact wrapN (by omega) (by omega));(have hset:((M0 ++ [x]).set (M0.length:Int).toNat (⟨wrap64 (x.f0 + y.f0),(⟨x.f1.f0,x.f1.f1,x.f1.f2,(⟨x.f1.f3.f0,x.f1.f3.f1⟩:S58)⟩:S20172)⟩:S20174))=M0 ++ [(⟨x.f0 + y.f0,x.f1⟩:S20174)]:=by rw [Int.toNat_natCast,List.set_append_right _ _ (by omega),Nat.sub_self,hsum];rfl);rw [hset];have hF:=cmpF_eq hc;have hs0:=List.pairwise_append.1 (by rw [List.map_append] at hs;exact hs);obtain ⟨M',k',e1,e2,e3,e4,e5,e6,e7⟩:=merge x7 a0 T hT hok hcf Rm (P ++ [y]) (M0 ++ [(⟨x.f0 + y.f0,x.f1⟩:S20174)]) k hTP' (by simp at hk;omega) hsr'.2 (by
     rw [List.map_append];refine List.pairwise_append.2 ⟨hs0.1,by simp,fun a ha b hb' => ?_⟩;(obtain rfl:b=trmN (⟨x.f0 + y.f0,x.f1⟩:S20174):=by simpa using hb');exact hs0.2.2 a ha (trmN x) (by simp)) (fun m hm t ht => by
     rcases List.mem_append.1 hm with hm | hm
     ·exact hle m (by simp [hm]) t (List.mem_cons_of_mem _ ht)
     ·(obtain rfl:m=(⟨x.f0 + y.f0,x.f1⟩:S20174):=by simpa using hm);exact hle x (by simp) t (List.mem_cons_of_mem _ ht)) (fun m hm => by
     rcases List.mem_append.1 hm with hm | hm
     ·exact har m (by simp [hm])
     ·(obtain rfl:m=(⟨x.f0 + y.f0,x.f1⟩:S20174):=by simpa using hm);exact hax) (by simp at hMl ⊢;omega) (fun m hm => by
     (have hl:((P ++ [y]).length:Int)=(P.length:Int) + 1:=by simp);rw [hl];rcases List.mem_append.1 hm with hm | hm
     ·have:=hb m (by simp [hm]);omega
     ·(obtain rfl:m=(⟨x.f0 + y.f0,x.f1⟩:S20174):=by simpa using hm);simp only;unfold cf at cy;omega)
    refine ⟨M',k',e1,by simp;omega,e3,fun F => ?_,e5,e6,e7⟩;rw [e4,List.map_append,co_append,List.map_append,co_append,List.map_cons,List.map_nil,co,co,List.map_cons,List.map_nil,co,co,List.map_cons,co];have g1:(trmN (⟨x.f0 + y.f0,x.f1⟩:S20174)).F=(trmN x).F:=rfl;have g2:(trmS y).F=(trmN x).F:=hF.symm;have g3:(trmN (⟨x.f0 + y.f0,x.f1⟩:S20174)).c=x.f0 + y.f0:=rfl;have g4:(trmS y).c=y.f0:=rfl;have g5:(trmN x).c=x.f0:=rfl;rw [g1,g2,g3,g4,g5];split <;> omega
   ·rw [if_neg hc,cloneE oy,Option.bind_some,if_pos (by simp;omega)];have hlt:∀ m ∈ M0 ++ [x],cmpF (figN m) (figS y) < 0:=by
     (have hxy:cmpF (figN x) (figS y) < 0:=by have:=hle x (by simp) y (by simp);unfold leF at this;omega);intro m hm;rcases List.mem_append.1 hm with hm | hm
     ·have hs0:=List.pairwise_append.1 (by rw [List.map_append] at hs;exact hs);exact cmpF_trans (hs0.2.2 (trmN m) (List.mem_map_of_mem hm) (trmN x) (by simp)) hxy
     ·(obtain rfl:m=x:=by simpa using hm);exact hxy
    exact app hlt
end Go.Proofs.YtkemjdedikobfaaGreatDoor.Sem
namespace Go.Proofs.YtkemjdedikobfaaGreatDoor.Sem
open PFx (S95)
open PSx Go.RowKit Go.Proofs.YtkemjdedikobfaaGreatDoorW.PrintWords
noncomputable def fin_ (W0:World) (k:Nat) (x7 a0:Int) (L:List S20174):Option (Int × List S20174 × Int) :=
 if a0=0 then (some (0,L,0)) else (if x7 > 2199023255552 then (ask_normal_at.j4 W0 k x7 true a0 0 L) else (ask_normal_at.j4 W0 k x7 (decide (x7 < (-2199023255552))) a0 0 L))
def mulX (n:Int) (x:S20174):S20174:=⟨x.f0 * n,x.f1⟩
theorem prods {W0:World} (x7 a0:Int) (xd:List S20174) (n:Nat) (hn:n ≤ 1000):∀ (Rm P:List S20174) (k:Nat),(P ++ Rm).length=n→Rm.length < k→(∀ m ∈ Rm,-5000 ≤ m.f0∧m.f0 ≤ 5000) →
 ∃ k',ask_normal_at.l2 W0 k x7 xd (n:Int) (P.length:Int) a0 0 (P ++ Rm)=(if (Rm.all fun x => decide (cf (x.f0 * a0)))=true then fin_ W0 k' x7 a0 (P ++ Rm.map (mulX a0)) else some (0,[],3))∧k ≤ k' + Rm.length + 1
 | [],P,k,hl,hk,_ => by obtain ⟨k,rfl⟩:∃ j,k=j + 1:=⟨k - 1,by omega⟩;refine ⟨k,?_,by omega⟩;rw [ask_normal_at.l2,if_neg (by simp at hl;omega)];simp [fin_]
 | x :: Rm,P,k,hl,hk,hb => by
  obtain ⟨k,rfl⟩:∃ j,k=j + 1:=⟨k - 1,by omega⟩;have hP:P.length < n:=by simp at hl;omega
  have hr:rd_T20174 (P ++ x :: Rm) (P.length:Int)=x:=rdN _ _ _ (by rw [List.getElem?_append_right (by omega),Nat.sub_self];rfl);have hx:=hb x (by simp);have hw:wrap64 ((P.length:Int) + 1)=((P ++ [mulX a0 x]).length:Int):=by rw [wr (by omega) (by omega)];simp
  have hp:=prodT (a:=x.f0) (b:=a0) (by omega) (by omega);rw [ask_normal_at.l2,if_pos (by omega),if_pos (by omega),if_pos (by rw [hl];omega),hr];by_cases hs:sm (x.f0 * a0)
  ·rw [hp.1 hs,Option.bind_some];simp only [if_true,isCoefE,Option.bind_some];by_cases hc:cf (x.f0 * a0)
   ·rw [if_pos (decide_eq_true hc),if_pos (by rw [hl];omega)];(have hset:((P ++ x :: Rm).set (P.length:Int).toNat (⟨x.f0 * a0,(⟨x.f1.f0,x.f1.f1,x.f1.f2,(⟨x.f1.f3.f0,x.f1.f3.f1⟩:S58)⟩:S20172)⟩:S20174))=(P ++ [mulX a0 x]) ++ Rm:=by rw [Int.toNat_natCast,List.set_append_right _ _ (by omega),Nat.sub_self];simp [mulX]);rw [hset,hw];obtain ⟨k',e1,e2⟩:=prods (W0:=W0) x7 a0 xd n hn Rm (P ++ [mulX a0 x]) k (by rw [← hl];simp) (by simp at hk;omega) (fun m hm => hb m (by simp [hm]));refine ⟨k',?_,by simp;omega⟩;rw [e1];simp [hc]
   ·rw [if_neg (by simp [hc])];exact ⟨k,by rw [if_neg (by simp [hc])],by simp <;> omega⟩
  ·rw [hp.2 hs,Option.bind_some];have hc:¬ cf (x.f0 * a0):=fun h => hs (by unfold cf at h;unfold sm;omega);exact ⟨k,by simp [hc],by simp <;> omega⟩
theorem finE {W0:World} (k:Nat) (x7 a0:Int) (L:List S20174) (hk:0 < k) (h7:-2199023255552 ≤ x7∧x7 ≤ 2199023255552) (ha:sm a0) :
 fin_ W0 k x7 a0 L=if a0=0 then some (0,L,0) else if sm (a0 * x7) then some (a0 * x7,L,0) else some (0,[],3):=by
 unfold fin_;split
 ·rfl
 ·obtain ⟨k,rfl⟩:∃ j,k=j + 1:=⟨k - 1,by omega⟩;have hp:=prodT (a:=a0) (b:=x7) (by unfold sm at ha;omega) (by unfold sm at ha;omega);rw [if_neg (by omega),decide_eq_false (by omega),ask_normal_at.j4,if_neg (by decide)];by_cases hs:sm (a0 * x7)
  ·rw [hp.1 hs,if_pos hs,Option.bind_some];simp [isConstE,hs]
  ·rw [hp.2 hs,if_neg hs,Option.bind_some];simp
def outN (n c:Int) (D:List Trm):Int × List Trm × Int :=
 if D.length > 5 then (0,[],2) else if (D.all fun t => decide (cf (t.c * n)))=true then (if n=0 then (0,mul n D,0) else if sm (n * c) then (n * c,mul n D,0) else (0,[],3)) else (0,[],3)
theorem doneE {W0:World} (k:Nat) (x7 a0:Int) (M:List S20174) (hk:300 < k) (hM:M.length ≤ 100) (hb:∀ m ∈ M,-5000 ≤ m.f0∧m.f0 ≤ 5000) (h7:-2199023255552 ≤ x7∧x7 ≤ 2199023255552) (ha:sm a0) (har:∀ m ∈ M,m.f1.f2.length ≤ 1000) :
 ∃ (r1:Int) (r2:List S20174) (r3:Int),done_ W0 k x7 a0 M=some (r1,r2,r3)∧(r1,r2.map trmN,r3)=outN a0 x7 ((M.filter fun t => !(decide (t.f0=0) || decide (a0=0))).map trmN)∧(∀ m ∈ r2,m.f1.f2.length ≤ 1000):=by
 unfold done_ delT.f;rw [if_pos (by omega),Option.bind_some];obtain ⟨D,hD⟩:∃ D,D=M.filter fun t => !(decide (t.f0=0) || decide (a0=0)):=⟨_,rfl⟩;have hDs:∀ m ∈ D,m ∈ M:=fun m hm => by rw [hD] at hm;exact (List.mem_filter.1 hm).1
 rw [← hD];unfold outN;by_cases h5:D.length > 5
 ·rw [if_pos (by omega),if_pos (by rw [List.length_map];exact h5)];exact ⟨0,[],2,rfl,rfl,fun m hm => by simp at hm⟩
 ·have hj:(if (D.length:Int)=0 then (ask_normal_at.j2 W0 k x7 a0 0 ([]:List (S20174))) else (ask_normal_at.j2 W0 k x7 a0 0 D))=ask_normal_at.j2 W0 k x7 a0 0 D:=by
   split
   ·rename_i h0;have:D=[]:=List.eq_nil_of_length_eq_zero (by omega);rw [this]
   ·rfl
  rw [if_neg (by omega),hj,if_neg (by rw [List.length_map];exact h5)];obtain ⟨k,rfl⟩:∃ j,k=j + 1:=⟨k - 1,by omega⟩;obtain ⟨k',e1,e2⟩:=prods (W0:=W0) x7 a0 D D.length (by omega) D [] k rfl (by omega) (fun m hm => hb m (hDs m hm));simp only [List.nil_append,List.length_nil] at e1;rw [show ((0:Nat):Int)=(0:Int) from rfl] at e1;rw [ask_normal_at.j2,e1];have hall:((D.map trmN).all fun t => decide (cf (t.c * a0)))=(D.all fun x => decide (cf (x.f0 * a0))):=by rw [List.all_map];rfl
  have hmul:(D.map (mulX a0)).map trmN=mul a0 (D.map trmN):=by unfold mul;rw [List.map_map,List.map_map];rfl
  have hmar:∀ m ∈ D.map (mulX a0),m.f1.f2.length ≤ 1000:=by intro m hm;obtain ⟨x,hx,rfl⟩:=List.mem_map.1 hm;exact har x (hDs x hx)
  rw [hall];by_cases ha':(D.all fun x => decide (cf (x.f0 * a0)))=true
  ·rw [if_pos ha',if_pos ha',finE k' x7 a0 _ (by omega) h7 ha];by_cases hz:a0=0
   ·rw [if_pos hz,if_pos hz];exact ⟨_,_,_,rfl,by rw [hmul],hmar⟩
   ·rw [if_neg hz,if_neg hz];by_cases hs:sm (a0 * x7)
    ·rw [if_pos hs,if_pos hs];exact ⟨_,_,_,rfl,by rw [hmul],hmar⟩
    ·rw [if_neg hs,if_neg hs];exact ⟨_,_,_,rfl,rfl,fun m hm => by simp at hm⟩
  ·rw [if_neg ha',if_neg ha'];exact ⟨_,_,_,rfl,rfl,fun m hm => by simp at hm⟩
def flat:List S45→List S174
 | [] => []
 | f :: l => f.f1 ++ flat l
def sumc:List S45→Int
 | [] => 0
 | f :: l => f.f0 + sumc l
theorem rd45 (l:List S45) (i:Nat) (x:S45) (h:l[i]?=some x):rd_T45 l (i:Int)=x:=by simp [rd_T45,List.getD_eq_getElem?_getD,h]
theorem gather {W0:World} (a0:Int) (l1:List S45) (hl:l1.length ≤ 2) (hc:∀ f ∈ l1,sm f.f0) (ht:(flat l1).length ≤ 1000):∀ (Rm P:List S45) (acc:List S174) (s:Int) (k:Nat),l1=P ++ Rm→Rm.length < k→acc.length + (flat Rm).length ≤ 1000→(-1099511627776 * (P.length:Int) ≤ s∧s ≤ 1099511627776 * (P.length:Int)) →
 ∃ k',ask_normal_at.l0 W0 k acc s l1 (l1.length:Int) (P.length:Int) a0=((slices_SortStable_at.f W0 k' (acc ++ flat Rm) 46).bind fun t118 => (ask_normal_at.l1 W0 k' (s + sumc Rm) t118 ((acc ++ flat Rm).length:Int) 0 a0 0 ([]:List (S20174))))∧k ≤ k' + Rm.length + 1
 | [],P,acc,s,k,hP,hk,_,_ => by obtain ⟨k,rfl⟩:∃ j,k=j + 1:=⟨k - 1,by omega⟩;refine ⟨k,?_,by omega⟩;rw [ask_normal_at.l0,if_neg (by rw [hP];simp)];simp [flat,sumc]
 | f :: Rm,P,acc,s,k,hP,hk,hacc,hs => by
  obtain ⟨k,rfl⟩:∃ j,k=j + 1:=⟨k - 1,by omega⟩;have hPl:P.length < l1.length:=by rw [hP];simp
  have hr:rd_T45 l1 (P.length:Int)=f:=rd45 _ _ _ (by rw [hP,List.getElem?_append_right (by omega),Nat.sub_self];rfl);have hf:=hc f (by rw [hP];simp);unfold sm at hf;have hw:wrap64 ((P.length:Int) + 1)=((P ++ [f]).length:Int):=by rw [wr (by omega) (by omega)];simp
  have hw2:wrap64 (s + f.f0)=s + f.f0:=wrapN (by omega) (by omega);have hfl:f.f1.length + (flat Rm).length=(flat (f :: Rm)).length:=by simp [flat]
  rw [ask_normal_at.l0,if_pos (by omega),if_pos (by omega),if_pos (by omega),hr,if_pos (by omega),hw,hw2];obtain ⟨k',e1,e2⟩:=gather (W0:=W0) a0 l1 hl hc ht Rm (P ++ [f]) (acc ++ f.f1) (s + f.f0) k (by rw [hP];simp) (by simp at hk;omega) (by rw [List.length_append];omega) (by (have:((P ++ [f]).length:Int)=(P.length:Int) + 1:=by simp);rw [this];omega);refine ⟨k',?_,by simp;omega⟩;rw [e1,List.append_assoc,show s + f.f0 + sumc Rm=s + sumc (f :: Rm) by simp [sumc];omega];rfl
theorem normal_spec {W0:World} (n:Int) (l1:List S45) (hn:sm n) (hl:l1.length ≤ 2) (hc:∀ f ∈ l1,sm f.f0) (ht:(flat l1).length < 20) (hok:∀ y ∈ flat l1,Ok W0 y) (hcf:∀ y ∈ flat l1,cf y.f0) :
 ∃ (D:List Trm) (r1:Int) (r2:List S20174) (r3:Int),ask_normal_at.f W0 9000 n l1=some (r1,r2,r3)∧srt D∧nz D∧(∀ F,co D F=if n=0 then 0 else co ((flat l1).map trmS) F)∧(r1,r2.map trmN,r3)=outN n (sumc l1) D∧(∀ m ∈ r2,m.f1.f2.length ≤ 1000):=by
 unfold ask_normal_at.f;obtain ⟨k',e1,e2⟩:=gather (W0:=W0) n l1 hl hc (by omega) l1 [] [] 0 9000 rfl (by omega) (by simp;omega) (by simp);simp only [List.nil_append,List.length_nil,Int.zero_add] at e1;rw [show ((0:Nat):Int)=(0:Int) from rfl] at e1;rw [e1];obtain ⟨T,s1,s2,s3⟩:=sorted (W0:=W0) (flat l1) ht hok 46;have s1':slices_SortStable_at.f W0 k' (flat l1) 46=some T:=by have:=mono_to (f:=fun k => slices_SortStable_at.f W0 k (flat l1) 46) (slices_SortStable_at.mono W0 _ _) 5000 (k' - 5000) s1;rw [show 5000 + (k' - 5000)=k' by omega] at this;exact this
 have hTl:T.length=(flat l1).length:=s2.length_eq;have hsum:-2199023255552 ≤ sumc l1∧sumc l1 ≤ 2199023255552:=by
  match l1,hl,hc with
  | [],_,_ => simp [sumc]
  | [f],_,hc => have:=hc f (by simp);unfold sm at this;simp [sumc];omega
  | [f,g],_,hc => have h1:=hc f (by simp);have h2:=hc g (by simp);unfold sm at h1 h2;simp [sumc];omega
  | _ :: _ :: _ :: _,hl,_ => simp at hl <;> omega
 rw [s1',Option.bind_some];obtain ⟨M,k2,m1,m2,m3,m4,m5,m6,m7⟩:=merge (W0:=W0) (sumc l1) n T (by omega) (fun y hy => hok y (s2.mem_iff.1 hy)) (fun y hy => hcf y (s2.mem_iff.1 hy)) T [] [] k' rfl (by omega) s3 List.Pairwise.nil (fun m hm => by simp at hm) (fun m hm => by simp at hm) (by simp) (fun m hm => by simp at hm);rw [← hTl];simp only [List.length_nil] at m1;rw [show ((0:Nat):Int)=(0:Int) from rfl] at m1;rw [m1];obtain ⟨r1,r2,r3,d1,d2,d3⟩:=doneE (W0:=W0) k2 (sumc l1) n M (by omega) (by omega) m7 hsum hn m5;refine ⟨_,r1,r2,r3,d1,?_,?_,?_,d2,d3⟩
 ·rw [show (M.filter fun t => !(decide (t.f0=0) || decide (n=0))).map trmN=(M.map trmN).filter fun t => !(decide (t.c=0) || decide (n=0)) by rw [List.filter_map];rfl];exact m3.filter _
 ·intro t htm;obtain ⟨x,hx,rfl⟩:=List.mem_map.1 htm;have:=(List.mem_filter.1 hx).2;simp only [Bool.not_or,Bool.and_eq_true,Bool.not_eq_true',decide_eq_false_iff_not] at this;exact this.1
 ·intro F;rw [show (M.filter fun t => !(decide (t.f0=0) || decide (n=0))).map trmN=(M.map trmN).filter fun t => !(decide (t.c=0) || decide (n=0)) by rw [List.filter_map];rfl];by_cases hz:n=0
  ·rw [if_pos hz,show ((M.map trmN).filter fun t => !(decide (t.c=0) || decide (n=0)))=[] by simp [hz]];rfl
  ·rw [if_neg hz,show ((M.map trmN).filter fun t => !(decide (t.c=0) || decide (n=0)))=(M.map trmN).filter fun t => !decide (t.c=0) by simp [hz],co_filter_nz,m4];simp only [List.map_nil,co,Int.zero_add];exact co_perm (s2.map trmS) F
end Go.Proofs.YtkemjdedikobfaaGreatDoor.Sem
namespace Go.Proofs.YtkemjdedikobfaaGreatDoor.Sem
open PFx (S95 k95)
open PSx Go.RowKit Go.Proofs.YtkemjdedikobfaaGreatDoorW.PrintWords
structure Frm where
 c:Int
 T:List Trm
theorem good_below {w w':World} {s:SV} (h:s.Good w) (hb:Below w.heap.size w w'):s.Good w':=⟨h.1,h.2.1,Kd.C_below h.2.2 hb⟩
theorem ok_below {w w':World} {y:S174} (h:Ok w y) (hb:Below w.heap.size w w'):Ok w' y:=⟨good_below h.1 hb,h.2⟩
def FormV (w:World) (v:Value) (f:Frm):Prop :=
 ∃ (A:Option Addr) (cap:Nat) (ys:List S174),v=.agg #[.int .i64 f.c,.slice A ys.length cap]∧ys.length ≤ cap∧Kd.C k174 w A ys.length ys∧(∀ y ∈ ys,Ok w y)∧ys.map trmS=f.T
theorem FormV.below {w w':World} {v:Value} {f:Frm} (h:FormV w v f) (hb:Below w.heap.size w w'):FormV w' v f:=by obtain ⟨A,cap,ys,e,h1,h2,h3,h4⟩:=h;exact ⟨A,cap,ys,e,h1,Kd.C_below h2 hb,fun y hy => ok_below (h3 y hy) hb,h4⟩
def fillS (y:S174) (x:S20174):S174:=⟨y.f0,⟨y.f1.f0,y.f1.f1,⟨y.f1.f2.A,y.f1.f2.n,y.f1.f2.c,x.f1.f2⟩,y.f1.f3⟩⟩
theorem formV_of_S {w:World} {base:Nat} {ok:Nat→Prop} {v:Value} {xs:List S20174} {c:Int} (h:Kd.S k20174 47 w base ok v xs) (har:∀ x ∈ xs,x.f1.f2.length ≤ 1000):FormV w (.agg #[.int .i64 c,v]) ⟨c,xs.map trmN⟩:=by
 obtain ⟨f,ys,hl,hR,hM⟩:=S_flat h;obtain ⟨A,cap,rfl⟩:=Kd.R_slice hR;obtain ⟨_,hc,hC⟩:=Kd.R_reads' hR;have hz:(List.zipWith fillS ys xs).length=ys.length:=by rw [List.length_zipWith];omega
 have hg:∀ (j:Nat) y',(List.zipWith fillS ys xs)[j]?=some y'→∃ y x,ys[j]?=some y∧xs[j]?=some x∧y'=fillS y x:=by
  intro j y' hj;rw [List.getElem?_zipWith] at hj;split at hj
  ·rename_i y x hy hx;exact ⟨y,x,hy,hx,(Option.some.inj hj).symm⟩
  ·cases hj
 refine ⟨A,cap,List.zipWith fillS ys xs,by rw [hz],by rw [hz];exact hc,?_,?_,?_⟩
 ·rw [hz];obtain ⟨h1,h2,h3⟩:=hC;refine ⟨hz,h2,fun hp => ?_⟩;obtain ⟨ad,e,hcell⟩:=h3 hp;refine ⟨ad,e,fun j y' hj => ?_⟩;obtain ⟨y,x,hy,_,rfl⟩:=hg j y' hj;obtain ⟨cc,c1,c2,c3⟩:=hcell j y hy;refine ⟨cc,c1,?_,c3⟩;have:=k174_open c2;rw [this];exact k174_mk w (fillS y x)
 ·intro y' hy';obtain ⟨j,hj,rfl⟩:=List.getElem_of_mem hy';obtain ⟨y,x,hy,hx,e⟩:=hg j _ (List.getElem?_eq_getElem hj);rw [e];obtain ⟨_,_,_,_,m5⟩:=hM j x y hx hy;obtain ⟨r1,r2,r3⟩:=Kd.R_reads' m5;refine ⟨⟨r1.symm,r2,?_⟩,har x (List.mem_of_getElem? hx)⟩;show Kd.C k95 w y.f1.f2.A y.f1.f2.n x.f1.f2;rw [r1];exact r3
 ·apply List.ext_getElem?;intro j;rw [List.getElem?_map,List.getElem?_map];rcases hj:(List.zipWith fillS ys xs)[j]? with _ | y'
  ·(have:xs[j]?=none:=by rw [List.getElem?_eq_none_iff] at hj ⊢;omega);rw [this];rfl
  ·obtain ⟨y,x,hy,hx,rfl⟩:=hg j y' hj;rw [hx];obtain ⟨m1,m2,m3,m4,_⟩:=hM j x y hx hy;show some (trmS (fillS y x))=some (trmN x);simp only [trmS,trmN,figS,figN,fillS,m1,m2,m3,m4]
def validF (f:Frm):Prop:=sm f.c∧f.T.length ≤ 5∧∀ t ∈ f.T,cf t.c
instance (f:Frm):Decidable (validF f):=inferInstanceAs (Decidable (_∧_∧_))
theorem idxE (ys:List S174) (hl:ys.length ≤ 1000):∀ (k i:Nat),i ≤ ys.length→ys.length - i < k→(∀ j (hj:j < ys.length),j < i→cf ys[j].f0)→∃ t,slices_IndexFunc_at.l0 k ys (ys.length:Int) (i:Int)=some t∧((t=-1∧∀ y ∈ ys,cf y.f0) ∨ (0 ≤ t∧¬ ∀ y ∈ ys,cf y.f0))
 | 0,i,_,h,_ => by omega
 | k + 1,i,hi,hk,hp => by
  rw [slices_IndexFunc_at.l0];by_cases h:i < ys.length
  ·rw [if_pos (by omega),if_pos (by omega),if_pos (by omega),rdS ys i ys[i] (List.getElem?_eq_getElem h)];unfold ask_isForm_1.f;rw [isCoefE,Option.bind_some,Option.bind_some];by_cases hc:cf ys[i].f0
   ·rw [if_neg (by simp [hc]),show wrap64 ((i:Int) + 1)=((i + 1:Nat):Int) by rw [wr (by omega) (by omega)];rfl];refine idxE ys hl k (i + 1) (by omega) (by omega) (fun j hj hji => ?_);rcases Nat.lt_or_ge j i with h' | h'
    ·exact hp j hj h'
    ·(obtain rfl:j=i:=by omega);exact hc
   ·rw [if_pos (by simp [hc])];exact ⟨_,rfl,.inr ⟨by omega,fun hall => hc (hall _ (List.getElem_mem h))⟩⟩
  ·rw [if_neg (by omega)];refine ⟨_,rfl,.inl ⟨rfl,fun y hy => ?_⟩⟩;obtain ⟨j,hj,rfl⟩:=List.getElem_of_mem hy;exact hp j hj (by omega)
theorem isFormE (c:Int) (ys:List S174):ask_isForm_at.f 9000 c ys=some (decide (validF ⟨c,ys.map trmS⟩)):=by
 unfold ask_isForm_at.f;rw [isConstE,Option.bind_some];have hv:validF ⟨c,ys.map trmS⟩ ↔ sm c∧ys.length ≤ 5∧∀ y ∈ ys,cf y.f0:=by unfold validF;simp only [List.length_map,List.mem_map,forall_exists_index,and_imp,forall_apply_eq_imp_iff₂];rfl
 by_cases h1:sm c
 ·rw [if_pos (by simp [h1])];by_cases h2:ys.length ≤ 5
  ·rw [if_pos (by omega)];unfold slices_ContainsFunc_at.f slices_IndexFunc_at.f;obtain ⟨t,e1,e2⟩:=idxE ys (by omega) 9000 0 (by omega) (by omega) (fun j hj h => by omega);rw [show ((0:Nat):Int)=(0:Int) from rfl] at e1;rw [e1,Option.bind_some,Option.bind_some];congr 1;rcases e2 with ⟨rfl,hall⟩ | ⟨h0,hall⟩
   ·symm;simpa using hv.2 ⟨h1,h2,hall⟩
   ·have:¬ validF ⟨c,ys.map trmS⟩:=fun h => hall (hv.1 h).2.2;simp [this,h0]
  ·rw [if_neg (by omega)];have:¬ validF ⟨c,ys.map trmS⟩:=fun h => h2 (hv.1 h).2.1;simp [this]
 ·have:¬ validF ⟨c,ys.map trmS⟩:=fun h => h1 (hv.1 h).1;rw [if_neg (by simp [h1])];simp [this]
def NormR (n c:Int) (T:List Trm) (F:Frm) (e:Int):Prop:=∃ D,srt D∧nz D∧(∀ G,co D G=if n=0 then 0 else co T G)∧(F.c,F.T,e)=outN n c D
theorem norm_run {w:World} (n:Int) (l1:List S45) (hn:sm n) (hl:l1.length ≤ 2) (hc:∀ f ∈ l1,sm f.f0) (ht:(flat l1).length < 20) (hok:∀ y ∈ flat l1,Ok w y) (hcf:∀ y ∈ flat l1,cf y.f0) :
 ∃ (r1:Int) (r2:List S20174) (r3:Int),(∀ W:World,Below w.heap.size w W→ask_normal_at.f W 9000 n l1=some (r1,r2,r3))∧NormR n (sumc l1) ((flat l1).map trmS) ⟨r1,r2.map trmN⟩ r3∧(∀ m ∈ r2,m.f1.f2.length ≤ 1000):=by
 obtain ⟨D,r1,r2,r3,e1,e2,e3,e4,e5,e6⟩:=normal_spec (W0:=w) n l1 hn hl hc ht hok hcf;refine ⟨r1,r2,r3,fun W hW => ?_,⟨D,e2,e3,e4,e5⟩,e6⟩;obtain ⟨D',s1,s2,s3,g1,g2,g3,g4,g5,g6⟩:=normal_spec (W0:=W) n l1 hn hl hc ht (fun y hy => ok_below (hok y hy) hW) hcf;have hD:D'=D:=uniq _ _ g2 e2 g3 e3 (fun F => by rw [g4,e4]);subst hD;rw [← e5] at g5;simp only [Prod.mk.injEq] at g5;obtain ⟨rfl,h2,rfl⟩:=g5;rw [g1,trmNs_inj h2]
def SumR (a b F:Frm) (e:Int):Prop:=if validF a∧validF b then NormR 1 (a.c + b.c) (a.T ++ b.T) F e else F=⟨0,[]⟩∧e=1
def TimesR (a:Frm) (n:Int) (F:Frm) (e:Int):Prop:=if validF a∧sm n then NormR n a.c a.T F e else F=⟨0,[]⟩∧e=1
def NormalR (a F:Frm) (e:Int):Prop:=if validF a then NormR 1 a.c a.T F e else F=⟨0,[]⟩∧e=1
theorem valid_cf {c:Int} {ys:List S174} (h:validF ⟨c,ys.map trmS⟩):sm c∧ys.length ≤ 5∧∀ y ∈ ys,cf y.f0 :=
 ⟨h.1,by have:=h.2.1;simpa using this,fun y hy => h.2.2 (trmS y) (List.mem_map_of_mem hy)⟩
theorem sumV {w:World} {va vb:Value} {a b:Frm} (ha:FormV w va a) (hb:FormV w vb b):∃ F e,SumR a b F e ∧
 Calls Tryz.prog 8 #[va,vb] w fun en w' => ∃ vf,en=.returned (.tuple #[vf,.int .i64 e])∧FormV w' vf F∧Below w.heap.size w w':=by
 obtain ⟨A,cap,ys,rfl,a1,a2,a3,a4⟩:=ha;obtain ⟨A2,cap2,ys2,rfl,b1,b2,b3,b4⟩:=hb;obtain ⟨c,T⟩:=a;obtain ⟨c2,T2⟩:=b;simp only at a4 b4;subst a4;subst b4;unfold SumR;by_cases hv:validF ⟨c,ys.map trmS⟩∧validF ⟨c2,ys2.map trmS⟩
 ·simp only [if_pos hv];obtain ⟨p1,p2,p3⟩:=valid_cf hv.1;obtain ⟨q1,q2,q3⟩:=valid_cf hv.2;obtain ⟨r1,r2,r3,h1,h2,h3⟩:=norm_run (w:=w) 1 [⟨c,ys⟩,⟨c2,ys2⟩] (by unfold sm;omega) (by simp) (fun f hf => by
   simp only [List.mem_cons,List.not_mem_nil,or_false] at hf;rcases hf with rfl | rfl
   ·exact p1
   ·exact q1) (by simp [flat];omega) (fun y hy => by
   simp only [flat,List.append_nil] at hy;rcases List.mem_append.1 hy with hy | hy
   ·exact a3 y hy
   ·exact b3 y hy) (fun y hy => by
   simp only [flat,List.append_nil] at hy;rcases List.mem_append.1 hy with hy | hy
   ·exact p3 y hy
   ·exact q3 y hy)
  refine ⟨⟨r1,r2.map trmN⟩,r3,by simpa [sumc,flat] using h2,?_⟩;refine (askSum.calls 9000 c A cap ys c2 A2 cap2 ys2 w a2 a1 b2 b1 _ _ r1 r2 r3 (isFormE c ys) (isFormE c2 ys2) (fun _ => h1) (fun h => by simp [hv.1,hv.2] at h)).mono ?_;rintro en w' ⟨v,rfl,hs,hb⟩;exact ⟨_,rfl,formV_of_S hs h3,hb⟩
 ·simp only [if_neg hv];refine ⟨⟨0,[]⟩,1,⟨rfl,rfl⟩,?_⟩;refine (askSum.calls 9000 c A cap ys c2 A2 cap2 ys2 w a2 a1 b2 b1 _ _ 0 [] 1 (isFormE c ys) (isFormE c2 ys2) (fun h => absurd (by simpa using h) hv) (fun _ => ⟨rfl,rfl,rfl⟩)).mono ?_;rintro en w' ⟨v,rfl,hs,hb⟩;exact ⟨_,rfl,formV_of_S hs (fun x hx => by simp at hx),hb⟩
theorem timesV {w:World} {va:Value} {a:Frm} (n:Int) (ha:FormV w va a):∃ F e,TimesR a n F e ∧
 Calls Tryz.prog 9 #[va,.int .i64 n] w fun en w' => ∃ vf,en=.returned (.tuple #[vf,.int .i64 e])∧FormV w' vf F∧Below w.heap.size w w':=by
 obtain ⟨A,cap,ys,rfl,a1,a2,a3,a4⟩:=ha;obtain ⟨c,T⟩:=a;simp only at a4;subst a4;unfold TimesR;by_cases hv:validF ⟨c,ys.map trmS⟩∧sm n
 ·simp only [if_pos hv];obtain ⟨p1,p2,p3⟩:=valid_cf hv.1;obtain ⟨r1,r2,r3,h1,h2,h3⟩:=norm_run (w:=w) n [⟨c,ys⟩] hv.2 (by simp) (fun f hf => by
   simp only [List.mem_cons,List.not_mem_nil,or_false] at hf;subst hf;exact p1) (by simp [flat];omega) (fun y hy => by
   simp only [flat,List.append_nil] at hy;exact a3 y hy) (fun y hy => by
   simp only [flat,List.append_nil] at hy;exact p3 y hy)
  refine ⟨⟨r1,r2.map trmN⟩,r3,by simpa [sumc,flat] using h2,?_⟩;refine (askTimes.calls 9000 n c A cap ys w a2 a1 _ _ r1 r2 r3 (isFormE c ys) (isConstE n) (fun _ => h1) (fun h => by simp [hv.1,hv.2] at h)).mono ?_;rintro en w' ⟨v,rfl,hs,hb⟩;exact ⟨_,rfl,formV_of_S hs h3,hb⟩
 ·simp only [if_neg hv];refine ⟨⟨0,[]⟩,1,⟨rfl,rfl⟩,?_⟩;refine (askTimes.calls 9000 n c A cap ys w a2 a1 _ _ 0 [] 1 (isFormE c ys) (isConstE n) (fun h => absurd (by simpa using h) hv) (fun _ => ⟨rfl,rfl,rfl⟩)).mono ?_;rintro en w' ⟨v,rfl,hs,hb⟩;exact ⟨_,rfl,formV_of_S hs (fun x hx => by simp at hx),hb⟩
theorem normalV {w:World} {va:Value} {a:Frm} (ha:FormV w va a):∃ F e,NormalR a F e ∧
 Calls Tryz.prog 7 #[va] w fun en w' => ∃ vf,en=.returned (.tuple #[vf,.int .i64 e])∧FormV w' vf F∧Below w.heap.size w w':=by
 obtain ⟨A,cap,ys,rfl,a1,a2,a3,a4⟩:=ha;obtain ⟨c,T⟩:=a;simp only at a4;subst a4;unfold NormalR;by_cases hv:validF ⟨c,ys.map trmS⟩
 ·simp only [if_pos hv];obtain ⟨p1,p2,p3⟩:=valid_cf hv;obtain ⟨r1,r2,r3,h1,h2,h3⟩:=norm_run (w:=w) 1 [⟨c,ys⟩] (by unfold sm;omega) (by simp) (fun f hf => by
   simp only [List.mem_cons,List.not_mem_nil,or_false] at hf;subst hf;exact p1) (by simp [flat];omega) (fun y hy => by
   simp only [flat,List.append_nil] at hy;exact a3 y hy) (fun y hy => by
   simp only [flat,List.append_nil] at hy;exact p3 y hy)
  refine ⟨⟨r1,r2.map trmN⟩,r3,by simpa [sumc,flat] using h2,?_⟩;refine (askNormal.calls 9000 c A cap ys w a2 a1 _ r1 r2 r3 (isFormE c ys) (fun _ => h1) (fun h => by simp [hv] at h)).mono ?_;rintro en w' ⟨v,rfl,hs,hb⟩;exact ⟨_,rfl,formV_of_S hs h3,hb⟩
 ·simp only [if_neg hv];refine ⟨⟨0,[]⟩,1,⟨rfl,rfl⟩,?_⟩;refine (askNormal.calls 9000 c A cap ys w a2 a1 _ 0 [] 1 (isFormE c ys) (fun h => absurd (by simpa using h) hv) (fun _ => ⟨rfl,rfl,rfl⟩)).mono ?_;rintro en w' ⟨v,rfl,hs,hb⟩;exact ⟨_,rfl,formV_of_S hs (fun x hx => by simp at hx),hb⟩
end Go.Proofs.YtkemjdedikobfaaGreatDoor.Sem
namespace Go.Proofs.YtkemjdedikobfaaGreatDoor.Sem
open PSx Go.RowKit Go.Proofs.YtkemjdedikobfaaGreatDoorW.PrintWords Go.Proofs.YtkemjdedikobfaaGreatDoorW.PrintLast Go.Proofs.YtkemjdedikobfaaGreatDoorW.PrintMore
open Go.Proofs.YtkemjdedikobfaaGreatDoor.Sh
open PFx (S95 z95 k95 k95_open k95_openM k95_mk k95_mkM rd_T95 at_T95)
set_option linter.unusedVariables false
set_option linter.unusedSimpArgs false
theorem eqA43 (d:Nat) (w:World) (x0 y0:Int) (x1 y1:Int) :
 (Op.equalIn (d + 2) 43 (.agg #[.int .i64 x0,.int .i64 x1]) (.agg #[.int .i64 y0,.int .i64 y1])).run Tryz.prog w=.ok (x0 == y0 && (x1 == y1)) w:=by
 refine eqA_of Tryz.underlying43 (by kernel_rfl) ?_;refine eqf_cons (by rfl) (by go_simp;rfl) (by go_simp;rfl) (by go_simp) ?_;exact eqf_last (by rfl) (by go_simp;rfl) (by go_simp;rfl) (by go_simp)
theorem eqA103 (d:Nat) (w:World) (x0 y0:Int) (x1 y1:Int) :
 (Op.equalIn (d + 2) 103 (.agg #[.int .i64 x0,.int .i64 x1]) (.agg #[.int .i64 y0,.int .i64 y1])).run Tryz.prog w=.ok (x0 == y0 && (x1 == y1)) w:=by
 refine eqA_of Tryz.underlying103 (by kernel_rfl) ?_;refine eqf_cons (by rfl) (by go_simp;rfl) (by go_simp;rfl) (by go_simp) ?_;exact eqf_last (by rfl) (by go_simp;rfl) (by go_simp;rfl) (by go_simp)
attribute [local go_sem high] eqA43 eqA103
theorem wr1 {i:Nat} (h:i ≤ 100000):wrap64 ((i:Int) + 1)=((i + 1:Nat):Int):=by rw [wr (by omega) (by omega)];rfl
set_option maxHeartbeats 4000000 in
set_option maxRecDepth 100000 in
theorem samePts (w:World) (A A':Option Addr) (c c':Nat) (xs:List S95) (h:Kd.C k95 w A xs.length xs) (h':Kd.C k95 w A' xs.length xs) (hl:xs.length ≤ 1000) :
 Calls Tryz.prog 53 #[.slice A xs.length c,.slice A' xs.length c'] w fun e w' => e=.returned (.bool true)∧Drawn0 w w':=by
 have hu103:=Tryz.underlying103;go_enter Tryz.func53,Tryz.ntmps53
 go_wp2;repeat (go_quiet (fail);try go_wp2)
 go_loopg [5] xs.length (fun kq v5 w' => ∃ (x:Int) (i:Nat),v5=.int .i64 x∧Aside0 (x=i∧i + kq=xs.length)∧Drawn0 w w')
 case atStart => exact ⟨0,0,rfl,⟨rfl,by omega⟩,by repeat (first | exact Drawn0.refl _ | apply Drawn0.step)⟩
 case round =>
  obtain ⟨x,i,rfl,⟨hx,hi⟩,⟨m,rfl⟩⟩:=hrel;cases gk with
  | zero => have c4:decide (x < (xs.length:Int))=false:=decide_eq_false (by omega);clear hi hx;go_wp2;(repeat (go_quiet (fail);try go_wp2));go_ret;exact ⟨by first | rfl | (simp;done),by repeat (first | exact Drawn0.refl _ | apply Drawn0.step)⟩
  | succ k1 => have HX:=Aside0.mk hx;have HI:=Aside0.mk hi;have c4:decide (x < (xs.length:Int))=true:=decide_eq_true (by omega);have c5:decide (0 ≤ x)=true:=decide_eq_true (by omega);obtain ⟨ad,e,hx0,hx1⟩:=at_T95 h x (by omega) (by omega);obtain ⟨ad',e',hy0,hy1⟩:=at_T95 h' x (by omega) (by omega);cases e;cases e';have p:(0 ≤ x)=True:=eq_true (by omega);have q:(x < (xs.length:Int))=True:=eq_true (by omega);clear hx hi;go_wp2;(repeat (go_quiet (fail);try go_wp2));(go_roundg k1);(case measure => omega);case rel => exact ⟨_,i + 1,rfl,⟨by rw [HX.out];exact wr1 (by have:=HI.out;omega),by have:=HI.out;omega⟩,by repeat (first | exact Drawn0.refl _ | apply Drawn0.step)⟩
set_option maxHeartbeats 4000000 in
set_option maxRecDepth 100000 in
theorem sameFig (k s lo hi:Int) (A A':Option Addr) (c c':Nat) (xs:List S95) (w:World) (h:Kd.C k95 w A xs.length xs) (h':Kd.C k95 w A' xs.length xs) (hl:xs.length ≤ 1000) :
 Calls Tryz.prog 31 #[.agg #[.int .i64 k,.int .i64 s,.slice A xs.length c,.int .i64 lo,.int .i64 hi],.agg #[.int .i64 k,.int .i64 s,.slice A' xs.length c',.int .i64 lo,.int .i64 hi]] w fun e w' => e=.returned (.bool true)∧Below w.heap.size w w':=by
 have hb2:∀ (o o':Obj),Below w.heap.size w ((w.alloc o).alloc o'):=fun o o' => (bl_new w o).trans ((bl_new (w.alloc o) o').mono (bl_new w o).size);go_enter Tryz.func31,Tryz.ntmps31
 go_wp2_with (first | (go_at_call 53;(with_reducible refine (samePts _ A A' c c' xs (Kd.C_below h (hb2 _ _)) (Kd.C_below h' (hb2 _ _)) hl).mono ?_);rintro e w1 ⟨rfl,⟨nd,rfl⟩⟩) | go_in)
 go_ret;exact ⟨by first | rfl | (simp;done),pw_below_drewN (hb2 _ _) nd⟩
def T6:Bool × List (List Nat × List Nat):=(true,[([],[]),([0],[0]),([],[]),([1,2],[1,2]),([3],[3]),([4],[4]),([],[]),([6],[6]),([],[]),([7,8],[7,8]),([9],[9]),([10],[10]),([5,11],[5,11]),([12],[12]),([13],[13]),([14,13],[13,14]),([13],[13]),([15,16,13],[13,15,16]),([17,13],[13,17]),([18,13],[13,18]),([13],[13]),([20,13],[13,20]),([13],[13]),([21,22,13],[13,21,22]),([23,13],[13,23]),([24,13],[13,24]),([19,25,13,13],[13,19,25]),([26,13],[13,26]),([13,27],[13,27])])
def B6:List Nat:=[0,1,0,7,15,31,0,64,0,448,960,1984,4095,8191,16383,32767,16383,131071,262143,524287,16383,1064959,16383,7356415,15745023,32522239,67108863,134217727,268435455]
theorem tab6:rtab .any (opsOf Tryz.f14 6)=T6:=by kernel_rfl
theorem bits6:waitsOk T6.2 B6=true:=by kernel_rfl
theorem trm_eq {a b:S174} (h:trmS a=trmS b):a.f0=b.f0∧a.f1.f0=b.f1.f0∧a.f1.f1=b.f1.f1∧a.f1.f2.xs=b.f1.f2.xs∧a.f1.f3.f0=b.f1.f3.f0∧a.f1.f3.f1=b.f1.f3.f1:=by unfold trmS figS at h;simpa using h
set_option maxHeartbeats 8000000 in
set_option maxRecDepth 100000 in
theorem sameV {w:World} {va vb:Value} {f:Frm} (hf:f.T.length ≤ 1000) (ha:FormV w va f) (hb:FormV w vb f):Calls Tryz.prog 14 #[va,vb] w fun en w' => en=.returned (.bool true)∧Below w.heap.size w w':=by
 obtain ⟨A,cap,ys,rfl,a1,a2,a3,a4⟩:=ha;obtain ⟨A2,cap2,zs,rfl,b1,b2,b3,b4⟩:=hb;have hl:ys.length ≤ 1000:=by rw [← a4] at hf;simpa using hf
 have hlen:zs.length=ys.length:=by have:=congrArg List.length (a4.trans b4.symm);simpa using this.symm
 rw [hlen] at b1 b2 ⊢;have heq:∀ i:Nat,trmS (ys.getD i z174)=trmS (zs.getD i z174):=fun i => by have:=congrArg (fun l => l[i]?) (a4.trans b4.symm);simp only [List.getElem?_map] at this;rw [List.getD_eq_getElem?_getD,List.getD_eq_getElem?_getD];cases h1:ys[i]? <;> cases h2:zs[i]? <;> simp_all
 generalize hc:f.c=c;clear a4 b4 hf hc;go_enter Tryz.func14,Tryz.ntmps14
 go_upto_region 0 with fail
 go_cut [2,3,4] from 6 to 6 (fun s2 s3 s4 wc => ∃ g2 g3,s2=pt g2∧s3=pt g3∧s4=.bool false∧CB wc g2 c A ys.length cap∧CB wc g3 c A2 ys.length cap2∧Below w.heap.size w wc)
 case first =>
  go_wp2_with fail
  go_meet;case rel => exact boxes2 w _ _ _ _ _ _ _ _
 case rest =>
  obtain ⟨g2,g3,rfl,rfl,rfl,B2,B3,HB⟩:=hcut;obtain ⟨lt2,p20,p21,z20,z21⟩:=B2.all;obtain ⟨lt3,p30,p31,z30,z31⟩:=B3.all;have hn:((ys.length:Int) != (ys.length:Int))=false:=by simp
  have hn2:(c != c)=false:=by simp
  go_wp2_with fail
  go_loopg [5] ys.length (fun kq v5 w' => ∃ (x:Int) (i:Nat),v5=.int .i64 x∧Aside0 (x=i∧i + kq=ys.length)∧Aside0 (CB w' g2 c A ys.length cap)∧Aside0 (CB w' g3 c A2 ys.length cap2)∧Aside0 (Below w.heap.size w w'))
  case atStart => exact ⟨0,0,rfl,⟨rfl,by omega⟩,⟨B2⟩,⟨B3⟩,⟨HB⟩⟩
  case round =>
   clear B2 B3 HB lt2 p20 p21 z20 z21 lt3 p30 p31 z30 z31;obtain ⟨x,i,rfl,⟨hx,hi⟩,⟨B2⟩,⟨B3⟩,⟨HB⟩⟩:=hrel;obtain ⟨lt2,p20,p21,z20,z21⟩:=B2.all;obtain ⟨lt3,p30,p31,z30,z31⟩:=B3.all;cases gk with
   | zero => have c4:decide (x < (ys.length:Int))=false:=decide_eq_false (by omega);clear hi hx;(go_wp2_with fail);go_ret;exact ⟨by first | rfl | (simp;done),HB⟩
   | succ k1 =>
    have HX:=Aside0.mk hx;have HI:=Aside0.mk hi;(have hlt:i < ys.length:=by omega);have c4:decide (x < (ys.length:Int))=true:=decide_eq_true (by omega);obtain ⟨ad,e,hx0,hx1,hx2,hx3,hx4,hx5⟩:=at_T174 (Kd.C_below a2 HB) x (by omega) (by omega);obtain ⟨ad',e',hy0,hy1,hy2,hy3,hy4,hy5⟩:=at_T174 (Kd.C_below b2 HB) x (by omega) (by omega);cases e;cases e';have p:(0 ≤ x)=True:=eq_true (by omega);have q:(x < (ys.length:Int))=True:=eq_true (by omega);(have hin:x.toNat=i:=by omega);(have ea:rd_T174 ys x=ys[i]:=by unfold rd_T174;rw [hin,List.getD_eq_getElem?_getD,List.getElem?_eq_getElem hlt];rfl);(have eb:rd_T174 zs x=zs[i]'(by omega):=by unfold rd_T174;rw [hin,List.getD_eq_getElem?_getD,List.getElem?_eq_getElem (by omega)];rfl);have oa:=ok_below (a3 _ (List.getElem_mem hlt)) HB;have ob:=ok_below (b3 _ (List.getElem_mem (l:=zs) (n:=i) (by omega))) HB;rw [← ea] at oa;rw [← eb] at ob;have he:=heq i;rw [show ys.getD i z174=rd_T174 ys x by unfold rd_T174;rw [hin],show zs.getD i z174=rd_T174 zs x by unfold rd_T174;rw [hin]] at he;obtain ⟨e0,e1,e2,e3,e4,e5⟩:=trm_eq he;obtain ⟨⟨o1,o2,o3⟩,o4⟩:=oa;obtain ⟨⟨r1,r2,r3⟩,r4⟩:=ob;rw [← e3] at r1 r3;rw [← e0] at hy0;rw [← e1] at hy1;rw [← e2] at hy2;rw [← e4] at hy4;rw [← e5] at hy5;rw [← o1] at o3;rw [← r1] at r3;have HS:∀ w':World,Below wr.heap.size wr w'→Calls Tryz.prog 31 #[.agg #[.int .i64 (rd_T174 ys x).f1.f0,.int .i64 (rd_T174 ys x).f1.f1,svv (rd_T174 ys x).f1.f2,.int .i64 (rd_T174 ys x).f1.f3.f0,.int .i64 (rd_T174 ys x).f1.f3.f1],.agg #[.int .i64 (rd_T174 ys x).f1.f0,.int .i64 (rd_T174 ys x).f1.f1,svv (rd_T174 zs x).f1.f2,.int .i64 (rd_T174 ys x).f1.f3.f0,.int .i64 (rd_T174 ys x).f1.f3.f1]] w' fun e w2 => e=.returned (.bool true)∧Below w'.heap.size w' w2:=by intro w' hb;have:=sameFig (rd_T174 ys x).f1.f0 (rd_T174 ys x).f1.f1 (rd_T174 ys x).f1.f3.f0 (rd_T174 ys x).f1.f3.f1 _ _ (rd_T174 ys x).f1.f2.c (rd_T174 zs x).f1.f2.c _ _ (Kd.C_below o3 hb) (Kd.C_below r3 hb) o4;rw [o1] at this;rw [show svv (rd_T174 zs x).f1.f2=.slice (rd_T174 zs x).f1.f2.A (rd_T174 ys x).f1.f2.n (rd_T174 zs x).f1.f2.c by rw [← o1,r1]];exact this
    clear hx hi e0 e1 e2 e3 e4 e5 he ea eb hin hlt o1 o2 o3 o4 r1 r2 r3 r4 heq;(go_upto_region 6 with fail);have HT_:=ak tab6;have HW_:=ak bits6;refine start_ (n:=29) (S:=fun w' => w'.cell? ⟨g2,0,none⟩=some (.int .i64 c)∧w'.cell? ⟨g2,1,none⟩=some (.slice (some ad) ys.length cap)∧w'.cell? ⟨g3,0,none⟩=some (.int .i64 c)∧w'.cell? ⟨g3,1,none⟩=some (.slice (some ad') ys.length cap2)∧w'.cell? (ad.add (x.toNat * 6))=some (.int .i64 (rd_T174 ys x).f0)∧w'.cell? ⟨(ad.add (x.toNat * 6)).block,(ad.add (x.toNat * 6)).off + 1,none⟩=some (.int .i64 (rd_T174 ys x).f1.f0)∧w'.cell? ⟨(ad.add (x.toNat * 6)).block,(ad.add (x.toNat * 6)).off + 2,none⟩=some (.int .i64 (rd_T174 ys x).f1.f1)∧w'.cell? ⟨(ad.add (x.toNat * 6)).block,(ad.add (x.toNat * 6)).off + 3,none⟩=some (svv (rd_T174 ys x).f1.f2)∧w'.cell? ⟨(ad.add (x.toNat * 6)).block,(ad.add (x.toNat * 6)).off + 4,none⟩=some (.int .i64 (rd_T174 ys x).f1.f3.f0)∧w'.cell? ⟨(ad.add (x.toNat * 6)).block,(ad.add (x.toNat * 6)).off + 5,none⟩=some (.int .i64 (rd_T174 ys x).f1.f3.f1)∧w'.cell? (ad'.add (x.toNat * 6))=some (.int .i64 (rd_T174 ys x).f0)∧w'.cell? ⟨(ad'.add (x.toNat * 6)).block,(ad'.add (x.toNat * 6)).off + 1,none⟩=some (.int .i64 (rd_T174 ys x).f1.f0)∧w'.cell? ⟨(ad'.add (x.toNat * 6)).block,(ad'.add (x.toNat * 6)).off + 2,none⟩=some (.int .i64 (rd_T174 ys x).f1.f1)∧w'.cell? ⟨(ad'.add (x.toNat * 6)).block,(ad'.add (x.toNat * 6)).off + 3,none⟩=some (svv (rd_T174 zs x).f1.f2)∧w'.cell? ⟨(ad'.add (x.toNat * 6)).block,(ad'.add (x.toNat * 6)).off + 4,none⟩=some (.int .i64 (rd_T174 ys x).f1.f3.f0)∧w'.cell? ⟨(ad'.add (x.toNat * 6)).block,(ad'.add (x.toNat * 6)).off + 5,none⟩=some (.int .i64 (rd_T174 ys x).f1.f3.f1)) (ds:=[]) #[false,false,false,false,false,false,false,false,false,false,false,false,false,false,false,false,false,false,false,false,false,false,false,false,false,false,false,false,false] kr rfl rfl ⟨p20,p21,p30,p31,hx0,hx1,hx2,hx3,hx4,hx5,hy0,hy1,hy2,hy3,hy4,hy5⟩ (fun hHeld => ?_);have HD:Below wr.heap.size wr wr.drew:=(Below.refl _ _).drew;generalize wr.drew=w22 at hHeld HD ⊢;refine pS 0 (some 27) ?_;refine pS 2 (some 29) ?_;refine pS 6 (some 33) ?_;refine pS 8 (some 35) ?_;refine pT 1 (some 28) ?_;refine pS 3 (some 30) ?_;refine pS 4 (some 31) ?_;refine pT 5 (some 32) ?_;refine pT 7 (some 34) ?_;refine pS 9 (some 36) ?_;refine pS 10 (some 37) ?_;refine pT 11 (some 38) ?_;refine pS 12 (some 39) ?_;refine pS 13 (some 40) ?_;refine pS 14 (some 41) ?_;refine pS 16 (some 43) ?_;refine pS 20 (some 47) ?_;refine pS 22 (some 49) ?_;refine pT 15 (some 42) ?_;refine pS 17 (some 44) ?_;refine pS 18 (some 45) ?_;refine pT 19 (some 46) ?_;refine pT 21 (some 48) ?_;refine pS 23 (some 50) ?_;refine pS 24 (some 51) ?_;refine pT 25 (some 52) ?_;refine one_ (i:=26) (N:=some 53) #[true,true,true,true,true,true,true,true,true,true,true,true,true,true,true,true,true,true,true,true,true,true,true,true,true,true,true,false,false] rfl rfl (one_of HT_.out kr) (by decide) (fun K hK => ?_);refine goes_ Tryz.func31 kr rfl #[.agg #[.int .i64 (rd_T174 ys x).f1.f0,.int .i64 (rd_T174 ys x).f1.f1,svv (rd_T174 ys x).f1.f2,.int .i64 (rd_T174 ys x).f1.f3.f0,.int .i64 (rd_T174 ys x).f1.f3.f1],.agg #[.int .i64 (rd_T174 ys x).f1.f0,.int .i64 (rd_T174 ys x).f1.f1,svv (rd_T174 zs x).f1.f2,.int .i64 (rd_T174 ys x).f1.f3.f0,.int .i64 (rd_T174 ys x).f1.f3.f1]] (by rfl) rfl rfl ag ?_;refine (HS w22 HD).mono ?_;rintro e w23 ⟨rfl,hb⟩;refine ⟨_,rfl,?_⟩;replace HD:=HD.trans (hb.mono HD.size);replace B2:=B2.step HD;replace B3:=B3.step HD;replace HB:=HB.trans (HD.mono HB.size);have old:∀ {p:Addr} {v:Value},wr.cell? p=some v→w23.cell? p=some v:=fun h => (HD.cell (World.block_lt_of_cell? _ _ h)).trans h;refine hK.out _ _ ⟨old p20,old p21,old p30,old p31,old hx0,old hx1,old hx2,old hx3,old hx4,old hx5,old hy0,old hy1,old hy2,old hy3,old hy4,old hy5⟩ ?_;clear hK K hHeld;intro hHeld;refine norm_ (a':=?_) ?_ ?_;rotate_left
    ·show Act.put _ (some 53) _=_;simp only [Act.put,List.setIfInBounds_toArray,List.set_cons_zero,List.set_cons_succ,i64_w,i32_w];rfl
    refine pS 27 (some 54) ?_;refine pS 28 (some 55) ?_;refine Go.Proofs.YtkemjdedikobfaaGreatDoorW.PrintLast.done_ (done_of HT_.out kr) ?_;(try go_wp2);(go_roundg k1);(case measure => omega);case rel => exact ⟨_,i + 1,rfl,⟨by rw [HX.out];exact wr1 (by have:=HI.out;omega),by have:=HI.out;omega⟩,⟨B2⟩,⟨B3⟩,⟨HB⟩⟩
end Go.Proofs.YtkemjdedikobfaaGreatDoor.Sem
namespace Go.Proofs.YtkemjdedikobfaaGreatDoor.PSx
open PFx (S95 z95 k95 k95_open k95_openM k95_mk k95_mkM rd_T95 at_T95)
open Go.Proofs.YtkemjdedikobfaaGreatDoor.Sh
open Go.RowKit Go.Proofs.YtkemjdedikobfaaGreatDoorW.PrintWords Go.Proofs.YtkemjdedikobfaaGreatDoorW.PrintLast Go.Proofs.YtkemjdedikobfaaGreatDoorW.PrintMore
attribute [local go_sem] max2_int min2_int max_two min_two max_three min_three max_four min_four
set_option linter.unusedVariables false
set_option linter.unusedSimpArgs false
mutual
def lslim.l0:Nat→Int→Int→List (S20174)→Option (Bool)
 | 0,_,_,_ => none
 | k + 1,x3,x102000,x102001 => if x3 < (x102001.length:Int) then (lslim.j1 k x3 (decide (x3 < 9)) x102000 x102001) else (lslim.j1 k x3 false x102000 x102001)
def lslim.j1:Nat→Int→Bool→Int→List (S20174)→Option (Bool)
 | 0,_,_,_,_ => none
 | k + 1,x3,x12,x102000,x102001 => if x12=true then (if 0 ≤ x3 then (if x3 < (x102001.length:Int) then (if (((rd_T20174 x102001 x3).f1.f2).length:Int) > 20 then (some false) else (lslim.l0 k (wrap64 (x3 + 1)) x102000 x102001)) else (none)) else (none)) else (some (decide ((x102001.length:Int) ≤ 8)))
end
def lslim.f (k:Nat) (a0_0:Int) (l0_1:List (S20174)):Option (Bool):=lslim.l0 k 0 a0_0 l0_1
set_option maxHeartbeats 8000000 in
set_option maxRecDepth 100000 in
theorem lslim.calls (k:Nat) (a0_0:Int) (A0_1:Option Addr) (c0_1:Nat) (l0_1:List (S20174)) (r:Bool) (w:World) (hr0_1:Kd.C k20174 w A0_1 l0_1.length l0_1) (hc0_1:l0_1.length ≤ c0_1) (h:lslim.f k a0_0 l0_1=some r) :
 Calls Tryz.prog 5 #[.agg #[.int .i64 a0_0,.slice A0_1 l0_1.length c0_1]] w fun e w' => e=.returned (.bool r)∧Below w.heap.size w w':=by
 have hu24:=Tryz.underlying24;have HR0_1:=ak hr0_1;have HC0_1:=ak hc0_1;clear hr0_1 hc0_1;have HB:=ak (Below.refl w.heap.size w);have H:(lslim.l0 k 0 a0_0 l0_1)=some r:=h;clear h;have H':=ak H;clear H;go_enter Tryz.func5,Tryz.ntmps5
 go_wp2_with (first | ((with_reducible refine gate_dst (N:=1) rfl ?_);refine box_event ?hg (N:=1) ?hd (cs:=#[.int .i64 a0_0,.slice A0_1 l0_1.length c0_1]) (t:=24) ?hr ?_;(case hd => rfl);(case hg => rfl);(case hr => first | (go_simp;done) | (go_simp;rfl));intro gb101 hg w2 hbox hb;have n0_:=ak (below_step bx hb);have n1_:=ak (hbox);have n2_:=ak ((by rw [hg];exact (below_size bx):w.heap.size ≤ gb101));have n3_:=ak ((by rw [hg];exact (below_size bx):w.heap.size ≤ gb101));clear HB;have HB:=n0_;have BK101:=n1_;have GW101:=n2_;have GE101:=n3_;clear n0_ n1_ n2_ n3_;clear hb hbox hg))
 go_loopg [3] k (fun kq v3 w' => ∃ (x3_1:Int),v3=.int .i64 x3_1∧Aside0 (lslim.l0 kq x3_1 a0_0 l0_1=some r)∧Aside0 (kq ≤ k)∧Aside0 (w'.heap[gb101]?=some (.cells #[.int .i64 a0_0,(.slice A0_1 l0_1.length c0_1)] 24 (0,0)))∧Aside0 (Below w.heap.size w w'))
 case atStart => exact ⟨(0),rf,H',⟨Nat.le_refl _⟩,⟨bk BK101⟩,⟨bx⟩⟩
 case round =>
  clear H';try clear p2
  obtain ⟨x3_1,rfl,HA,HK1,BK101,HB⟩:=hrel;cases gk with
  | zero => exact absurd HA.out (by simp [lslim.l0])
  | succ k1 =>
   have H:=HA.out;clear HA;simp only [lslim.l0] at H;have HC3:=ak H;clear H;(go_upto_region 2 with (fail));(go_cut [12] (fun v12 wc => ∃ (kq:Nat) (x12_2:Bool),v12=.bool x12_2∧Aside0 (lslim.j1 kq x3_1 x12_2 a0_0 l0_1=some r)∧Aside0 (kq ≤ k1)∧Aside0 (wc.heap[gb101]?=some (.cells #[.int .i64 a0_0,(.slice A0_1 l0_1.length c0_1)] 24 (0,0)))∧Aside0 (Below w.heap.size w wc)));case first =>
    have H:=HC3.out;clear HC3;by_cases c4:x3_1 < (l0_1.length:Int)
    ·rw [if_pos c4] at H;have c4b0:decide (x3_1 < (l0_1.length:Int))=true:=decide_eq_true c4;clear c4;(first | rw [c4b0] | (simp only [i64_w,i32_w];rw [c4b0]) | skip);have H':=ak H;clear H;obtain ⟨hcz5_0,hcz5_1,hfz5_0,hfz5_1⟩:=cb2 BK101.out;go_wp2;go_meet;case rel => exact ⟨_,(decide (x3_1 < 9)),rf,H',⟨by have:=HK1.out;first | omega | exact Nat.le_refl _⟩,⟨bk BK101⟩,⟨bx⟩⟩
    ·rw [if_neg c4] at H;have c4b0:decide (x3_1 < (l0_1.length:Int))=false:=decide_eq_false c4;clear c4;(first | rw [c4b0] | (simp only [i64_w,i32_w];rw [c4b0]) | skip);have H':=ak H;clear H;obtain ⟨hcz6_0,hcz6_1,hfz6_0,hfz6_1⟩:=cb2 BK101.out;go_wp2;go_meet;case rel => exact ⟨_,(false),rf,H',⟨by have:=HK1.out;first | omega | exact Nat.le_refl _⟩,⟨bk BK101⟩,⟨bx⟩⟩
   case rest =>
    clear HC3;(try clear p2 p2);(try clear c4);(try clear c4b0);(try clear c5);(try clear hcz5_0 hcz5_1 hfz5_0 hfz5_1);(try clear hcz6_0 hcz6_1 hfz6_0 hfz6_1);obtain ⟨kq,x12_2,rfl,HA,HJ2,BK101,HB⟩:=hcut;cases kq with
    | zero => exact absurd HA.out (by simp [lslim.j1])
    | succ kj2 =>
     have H:=HA.out;clear HA;simp only [lslim.j1] at H;by_cases c7:x12_2=true
     ·subst c7;(have H1:(if 0 ≤ x3_1 then (if x3_1 < (l0_1.length:Int) then (if (((rd_T20174 l0_1 x3_1).f1.f2).length:Int) > 20 then (some false) else (lslim.l0 kj2 (wrap64 (x3_1 + 1)) a0_0 l0_1)) else (none)) else (none))=some r:=by rw [if_pos rfl] at H;exact H);clear H;have H:=H1;clear H1;by_cases c8:0 ≤ x3_1
      ·rw [if_pos c8] at H;have c8b0:decide (0 ≤ x3_1)=true:=decide_eq_true c8;clear c8;by_cases c9:x3_1 < (l0_1.length:Int)
       ·rw [if_pos c9] at H;have c9b0:decide (x3_1 < (l0_1.length:Int))=true:=decide_eq_true c9;clear c9;by_cases c10:(((rd_T20174 l0_1 x3_1).f1.f2).length:Int) > 20
        ·rw [if_pos c10] at H;have c10b0:decide (20 < (((rd_T20174 l0_1 x3_1).f1.f2).length:Int))=true:=decide_eq_true c10;have c10b1:decide (20 < ((rd_T20174 l0_1 x3_1).f1.f2).length)=true:=decide_eq_true (by omega);clear c10;obtain rfl:=Option.some.inj H;obtain ⟨hcz11_0,hcz11_1,hfz11_0,hfz11_1⟩:=cb2 BK101.out;have p102:0 ≤ (x3_1:Int):=of_decide_eq_true asm;have q102:x3_1 < (l0_1.length:Int):=of_decide_eq_true asm;obtain ⟨ad102,A102_3,c102_3,e102,hx102_0,hx102_1,hx102_2,hx102_3,hx102_4,hx102_5,hl102_3,hi102_3⟩:=at_T20174 HR0_1.out x3_1 p102 q102;cases e102;replace hx102_0:=(HB.out.cell (World.block_lt_of_cell? w _ hx102_0)).trans hx102_0;replace hx102_1:=(HB.out.cell (World.block_lt_of_cell? w _ hx102_1)).trans hx102_1;replace hx102_2:=(HB.out.cell (World.block_lt_of_cell? w _ hx102_2)).trans hx102_2;replace hx102_3:=(HB.out.cell (World.block_lt_of_cell? w _ hx102_3)).trans hx102_3;replace hx102_4:=(HB.out.cell (World.block_lt_of_cell? w _ hx102_4)).trans hx102_4;replace hx102_5:=(HB.out.cell (World.block_lt_of_cell? w _ hx102_5)).trans hx102_5;have HR102_3:=ak hi102_3;have HC102_3:=ak hl102_3;clear hi102_3 hl102_3;replace p102:=eq_true p102;replace q102:=eq_true q102;go_wp2;go_ret;exact ⟨by first | rfl | (simp [errW_none,errW_some] <;> rfl) | (simp [*,errW_none,errW_some] <;> rfl),bx⟩
        ·rw [if_neg c10] at H;have c10b0:decide (20 < (((rd_T20174 l0_1 x3_1).f1.f2).length:Int))=false:=decide_eq_false c10;have c10b1:decide (20 < ((rd_T20174 l0_1 x3_1).f1.f2).length)=false:=decide_eq_false (by omega);clear c10;have H':=ak H;clear H;obtain ⟨hcz12_0,hcz12_1,hfz12_0,hfz12_1⟩:=cb2 BK101.out;have p102:0 ≤ (x3_1:Int):=of_decide_eq_true asm;have q102:x3_1 < (l0_1.length:Int):=of_decide_eq_true asm;obtain ⟨ad102,A102_3,c102_3,e102,hx102_0,hx102_1,hx102_2,hx102_3,hx102_4,hx102_5,hl102_3,hi102_3⟩:=at_T20174 HR0_1.out x3_1 p102 q102;cases e102;replace hx102_0:=(HB.out.cell (World.block_lt_of_cell? w _ hx102_0)).trans hx102_0;replace hx102_1:=(HB.out.cell (World.block_lt_of_cell? w _ hx102_1)).trans hx102_1;replace hx102_2:=(HB.out.cell (World.block_lt_of_cell? w _ hx102_2)).trans hx102_2;replace hx102_3:=(HB.out.cell (World.block_lt_of_cell? w _ hx102_3)).trans hx102_3;replace hx102_4:=(HB.out.cell (World.block_lt_of_cell? w _ hx102_4)).trans hx102_4;replace hx102_5:=(HB.out.cell (World.block_lt_of_cell? w _ hx102_5)).trans hx102_5;have HR102_3:=ak hi102_3;have HC102_3:=ak hl102_3;clear hi102_3 hl102_3;replace p102:=eq_true p102;replace q102:=eq_true q102;go_wp2;(go_roundg kj2);(case measure => have:=HK1.out;have:=HJ2.out;omega);case rel => exact ⟨(wrap64 (x3_1 + 1)),rf,H',⟨by have:=HK1.out;have:=HJ2.out;omega⟩,⟨bk BK101⟩,⟨bx⟩⟩
       ·rw [if_neg c9] at H;exact absurd H (by simp)
      ·rw [if_neg c8] at H;exact absurd H (by simp)
     ·replace c7:=Bool.eq_false_iff.mpr c7;subst c7;(have H1:(some (decide ((l0_1.length:Int) ≤ 8)))=some r:=by rw [if_neg (show ¬ (false=true) by decide)] at H;exact H);clear H;have H:=H1;clear H1;obtain rfl:=Option.some.inj H;obtain ⟨hcz13_0,hcz13_1,hfz13_0,hfz13_1⟩:=cb2 BK101.out;go_wp2;go_ret;exact ⟨by first | rfl | (simp [errW_none,errW_some] <;> rfl) | (simp [*,errW_none,errW_some] <;> rfl),bx⟩
end Go.Proofs.YtkemjdedikobfaaGreatDoor.PSx
namespace Go.Proofs.YtkemjdedikobfaaGreatDoor.Sem
open PFx (S95 k95 rd_T95)
open PSx Go.RowKit Go.Proofs.YtkemjdedikobfaaGreatDoorW.PrintWords
def FormV0 (w:World) (v:Value):Prop :=
 ∃ (c:Int) (A:Option Addr) (cap:Nat) (ys:List S174),v=.agg #[.int .i64 c,.slice A ys.length cap]∧ys.length ≤ cap∧Kd.C k174 w A ys.length ys∧(∀ y ∈ ys,y.f1.f2.Good w)
theorem FormV0.below {w w':World} {v:Value} (h:FormV0 w v) (hb:Below w.heap.size w w'):FormV0 w' v:=by obtain ⟨c,A,cap,ys,e,h1,h2,h3⟩:=h;exact ⟨c,A,cap,ys,e,h1,Kd.C_below h2 hb,fun y hy => good_below (h3 y hy) hb⟩
theorem C_nat {w:World} {A:Option Addr} {ys:List S174} (h:Kd.C k174 w A ys.length ys) (hg:∀ y ∈ ys,y.f1.f2.Good w):Kd.C k20174 w A (ys.map mkN).length (ys.map mkN):=by obtain ⟨h1,h2,h3⟩:=h;refine ⟨rfl,by simpa using h2,fun hp => ?_⟩;obtain ⟨ad,e,hc⟩:=h3 (by simpa using hp);refine ⟨ad,e,fun j x hj => ?_⟩;rw [List.getElem?_map] at hj;obtain ⟨y,hy,rfl⟩:=Option.map_eq_some_iff.mp hj;obtain ⟨cc,c1,c2,c3⟩:=hc j y hy;refine ⟨cc,c1,?_,c3⟩;rw [k174_open c2];obtain ⟨g1,g2,g3⟩:=hg y (List.mem_of_getElem? hy);have:=k20174_mk w (mkN y) (A3:=y.f1.f2.A) (c3:=y.f1.f2.c) (by show y.f1.f2.xs.length ≤ _;omega) (by show Kd.C k95 w _ y.f1.f2.xs.length y.f1.f2.xs;rw [g1];exact g3);have e2:(mkN y).f1.f2.length=y.f1.f2.n:=g1;rw [e2] at this;exact this
theorem slimE (c:Int) (l:List S20174):∀ (k i:Nat),i ≤ l.length→i ≤ 9→2 * (9 - i) + 4 < k→(∀ j (hj:j < l.length),j < i→l[j].f1.f2.length ≤ 20)→∃ b,lslim.l0 k (i:Int) c l=some b∧(b=true→l.length ≤ 8∧∀ x ∈ l,x.f1.f2.length ≤ 20)
 | 0,i,_,_,h,_ => by omega
 | 1,i,_,_,h,_ => by omega
 | k + 2,i,hi,h9,hk,hp => by
  have fin:(∀ j (hj:j < l.length),j < i→l[j].f1.f2.length ≤ 20)→¬ (i < l.length∧i < 9)→∃ b,lslim.j1 (k + 1) (i:Int) false c l=some b∧(b=true→l.length ≤ 8∧∀ x ∈ l,x.f1.f2.length ≤ 20):=by intro hp hno;rw [lslim.j1,if_neg (by decide)];refine ⟨_,rfl,fun hb => ?_⟩;(have h8:l.length ≤ 8:=by have:=of_decide_eq_true hb;omega);refine ⟨h8,fun x hx => ?_⟩;obtain ⟨j,hj,rfl⟩:=List.getElem_of_mem hx;exact hp j hj (by omega)
  rw [lslim.l0];by_cases h:i < l.length
  ·rw [if_pos (by omega)];by_cases h2:i < 9
   ·rw [decide_eq_true (by omega:(i:Int) < 9),lslim.j1,if_pos rfl,if_pos (by omega),if_pos (by omega),rdN l i _ (List.getElem?_eq_getElem h)];by_cases h3:l[i].f1.f2.length > 20
    ·rw [if_pos (by omega)];exact ⟨false,rfl,fun h => by cases h⟩
    ·rw [if_neg (by omega),show wrap64 ((i:Int) + 1)=((i + 1:Nat):Int) by rw [wr (by omega) (by omega)];rfl];refine slimE c l k (i + 1) (by omega) (by omega) (by omega) (fun j hj hji => ?_);rcases Nat.lt_or_ge j i with h' | h'
     ·exact hp j hj h'
     ·(obtain rfl:j=i:=by omega);omega
   ·rw [decide_eq_false (by omega:¬ (i:Int) < 9)];exact fin hp (by omega)
  ·rw [if_neg (by omega)];exact fin hp (by omega)
theorem slimV {w:World} {v:Value} (h:FormV0 w v):∃ b,(Calls Tryz.prog 5 #[v] w fun en w' => en=.returned (.bool b)∧Below w.heap.size w w')∧(b=true→∃ f,FormV w v f):=by
 obtain ⟨c,A,cap,ys,rfl,h1,h2,h3⟩:=h;obtain ⟨b,e1,e2⟩:=slimE c (ys.map mkN) 100 0 (by omega) (by omega) (by omega) (fun j hj h => by omega);refine ⟨b,?_,fun hb => ⟨⟨c,ys.map trmS⟩,A,cap,ys,rfl,h1,h2,fun y hy => ⟨h3 y hy,?_⟩,rfl⟩⟩
 ·have:=lslim.calls 100 c A cap (ys.map mkN) b w (C_nat h2 h3) (by simpa using h1) e1;simpa using this
 ·have:=(e2 hb).2 (mkN y) (List.mem_map_of_mem hy);have e:(mkN y).f1.f2=y.f1.f2.xs:=rfl;rw [e] at this;omega
end Go.Proofs.YtkemjdedikobfaaGreatDoor.Sem
namespace Go.Proofs.YtkemjdedikobfaaGreatDoor.Sem
open PSx Go.RowKit Go.Proofs.YtkemjdedikobfaaGreatDoorW.PrintWords
structure Fine (F:Frm) (c:Int) (g:Fig→Int):Prop where
 c:F.c=c
 s:srt F.T
 z:nz F.T
 g:∀ G,co F.T G=g G
 v:validF F
theorem Fine.eq {F F':Frm} {c c':Int} {g g':Fig→Int} (h:Fine F c g) (h':Fine F' c' g') (hc:c=c') (hg:∀ G,g G=g' G):F=F':=by
 have h1:=uniq _ _ h.s h'.s h.z h'.z (fun G => by rw [h.g,h'.g,hg]);have h2:F.c=F'.c:=by rw [h.c,h'.c,hc]
 cases F;cases F';simp_all
theorem mul_zero_nil {D:List Trm} (h:D=[]) (n:Int):mul n D=[]:=by rw [h];rfl
theorem norm_fine {n c:Int} {T:List Trm} {F:Frm} {e:Int} (h:NormR n c T F e) (he:e=0):Fine F (n * c) (fun G => co T G * n):=by
 subst he;obtain ⟨D,s,z,g,o⟩:=h;unfold outN at o;by_cases h5:D.length > 5
 ·rw [if_pos h5] at o;simp at o
 ·rw [if_neg h5] at o;by_cases ha:(D.all fun t => decide (cf (t.c * n)))=true
  ·rw [if_pos ha] at o;(have hall:∀ t ∈ mul n D,cf t.c:=by intro t ht;obtain ⟨u,hu,rfl⟩:=List.mem_map.1 ht;exact of_decide_eq_true (List.all_eq_true.1 ha u hu));by_cases hn:n=0
   ·rw [if_pos hn] at o;simp only [Prod.mk.injEq,and_true] at o;have hD:D=[]:=uniq _ _ s List.Pairwise.nil z (fun t ht => by simp at ht) (fun G => by rw [g,if_pos hn];rfl);subst hn;(have hT:F.T=[]:=by rw [o.2,hD];rfl);exact ⟨by rw [o.1];simp,by rw [hT];exact List.Pairwise.nil,by rw [hT];intro t ht;simp at ht,fun G => by rw [hT];simp [co],⟨by rw [o.1];unfold sm;omega,by rw [hT];simp,by rw [hT];intro t ht;simp at ht⟩⟩
   ·rw [if_neg hn] at o;by_cases hs:sm (n * c)
    ·rw [if_pos hs] at o;simp only [Prod.mk.injEq,and_true] at o;refine ⟨o.1,by rw [o.2];exact srt_mul s,by rw [o.2];exact nz_mul hn z,fun G => by rw [o.2,co_mul,g,if_neg hn],⟨by rw [o.1];exact hs,?_,by rw [o.2];exact hall⟩⟩;rw [o.2];unfold mul;rw [List.length_map];omega
    ·rw [if_neg hs] at o;simp at o
  ·rw [if_neg ha] at o;simp at o
theorem norm_det {n c c':Int} {T T':List Trm} {F F':Frm} {e e':Int} (h:NormR n c T F e) (h':NormR n c' T' F' e') (hc:c=c') (hg:∀ G,co T G=co T' G):F=F'∧e=e':=by obtain ⟨D,s,z,g,o⟩:=h;obtain ⟨D',s',z',g',o'⟩:=h';have hD:D=D':=uniq _ _ s s' z z' (fun G => by rw [g,g',hg]);subst hD;subst hc;have:=o.trans o'.symm;simp only [Prod.mk.injEq] at this;obtain ⟨h1,h2,h3⟩:=this;cases F;cases F';simp_all
theorem sum_comm {a b F F':Frm} {e e':Int} (h:SumR a b F e) (h':SumR b a F' e'):F=F'∧e=e':=by
 unfold SumR at h h';by_cases hv:validF a∧validF b
 ·rw [if_pos hv] at h;rw [if_pos ⟨hv.2,hv.1⟩] at h';exact norm_det h h' (by omega) (fun G => by rw [co_append,co_append];omega)
 ·rw [if_neg hv] at h;rw [if_neg (fun h => hv ⟨h.2,h.1⟩)] at h';exact ⟨h.1.trans h'.1.symm,h.2.trans h'.2.symm⟩
theorem sum_fine {a b F:Frm} {e:Int} (h:SumR a b F e) (he:e=0):Fine F (a.c + b.c) (fun G => co a.T G + co b.T G):=by
 unfold SumR at h;by_cases hv:validF a∧validF b
 ·rw [if_pos hv] at h;have:=norm_fine h he;exact ⟨by rw [this.c];omega,this.s,this.z,fun G => by rw [this.g,co_append];omega,this.v⟩
 ·rw [if_neg hv] at h;omega
theorem times_fine {a F:Frm} {n e:Int} (h:TimesR a n F e) (he:e=0):Fine F (n * a.c) (fun G => co a.T G * n):=by
 unfold TimesR at h;by_cases hv:validF a∧sm n
 ·rw [if_pos hv] at h;exact norm_fine h he
 ·rw [if_neg hv] at h;omega
theorem normal_fine {a F:Frm} {e:Int} (h:NormalR a F e) (he:e=0):Fine F a.c (fun G => co a.T G):=by
 unfold NormalR at h;by_cases hv:validF a
 ·rw [if_pos hv] at h;have:=norm_fine h he;exact ⟨by rw [this.c];omega,this.s,this.z,fun G => by rw [this.g];omega,this.v⟩
 ·rw [if_neg hv] at h;omega
theorem assoc {a b c ab bc x y:Frm} {e g h i:Int} (hab:SumR a b ab e) (hbc:SumR b c bc g) (hx:SumR ab c x h) (hy:SumR a bc y i) (he:e=0) (hg:g=0) (hh:h=0) (hi:i=0):x=y:=by have f1:=sum_fine hab he;have f2:=sum_fine hbc hg;have f3:=sum_fine hx hh;have f4:=sum_fine hy hi;exact f3.eq f4 (by rw [f1.c,f2.c];omega) (fun G => by rw [f1.g,f2.g];omega)
theorem distr {a b ab na nb x y:Frm} {n e h i j k:Int} (hab:SumR a b ab e) (hna:TimesR a n na h) (hnb:TimesR b n nb i) (hx:SumR na nb x j) (hy:TimesR ab n y k) (he:e=0) (hh:h=0) (hi:i=0) (hj:j=0) (hk:k=0):x=y:=by have f1:=sum_fine hab he;have f2:=times_fine hna hh;have f3:=times_fine hnb hi;have f4:=sum_fine hx hj;have f5:=times_fine hy hk;exact f4.eq f5 (by rw [f1.c,f2.c,f3.c,Int.mul_add]) (fun G => by rw [f1.g,f2.g,f3.g,Int.add_mul])
theorem bound_mul {n m:Int} (h1:-1000 ≤ m) (h2:m ≤ 1000) (h3:-1000000 ≤ n) (h4:n ≤ 1000000):wrap64 (n * m)=n * m:=by
 have a1:n * m ≤ 1000000000:=by
  have:(n * m).natAbs ≤ 1000000 * 1000:=by rw [Int.natAbs_mul];exact Nat.mul_le_mul (by omega) (by omega)
  omega
 have a2:-1000000000 ≤ n * m:=by
  have:(n * m).natAbs ≤ 1000000 * 1000:=by rw [Int.natAbs_mul];exact Nat.mul_le_mul (by omega) (by omega)
  omega
 exact wrapN (by omega) (by omega)
theorem twice {a na x y:Frm} {n m h j k:Int} (hna:TimesR a n na h) (hx:TimesR na m x j) (hy:TimesR a (n * m) y k) (hh:h=0) (hj:j=0) (hk:k=0):x=y:=by have f1:=times_fine hna hh;have f2:=times_fine hx hj;have f3:=times_fine hy hk;exact f2.eq f3 (by rw [f1.c,← Int.mul_assoc,Int.mul_comm m n]) (fun G => by rw [f1.g,Int.mul_assoc])
theorem mul_one (D:List Trm):mul 1 D=D:=by unfold mul;rw [show (fun t:Trm => (⟨t.c * 1,t.F⟩:Trm))=id by funext t;cases t;simp,List.map_id]
theorem again {a x y:Frm} {j k:Int} (hx:NormalR a x j) (hy:NormalR x y k) (hj:j=0):k=0∧x=y:=by have f:=normal_fine hx hj;unfold NormalR at hy;rw [if_pos f.v] at hy;obtain ⟨D,s,z,g,o⟩:=hy;have hD:D=x.T:=uniq _ _ s f.s z f.z (fun G => by rw [g,if_neg (by decide)]);subst hD;obtain ⟨v1,v2,v3⟩:=f.v;unfold outN at o;rw [if_neg (by omega),if_pos (List.all_eq_true.2 fun t ht => decide_eq_true (by rw [Int.mul_one];exact v3 t ht)),if_neg (by decide),if_pos (by rw [Int.one_mul];exact v1),mul_one,Int.one_mul] at o;simp only [Prod.mk.injEq] at o;obtain ⟨o1,o2,o3⟩:=o;refine ⟨o3,?_⟩;cases x;cases y;simp_all
theorem naught {a F:Frm} {z:Int} (h:TimesR a 0 F z) (hz:z=0):F.c=0∧F.T=[]:=by have f:=times_fine h hz;refine ⟨by rw [f.c];simp,uniq _ _ f.s List.Pairwise.nil f.z (fun t ht => by simp at ht) (fun G => by rw [f.g];simp [co])⟩
theorem fine_len {F:Frm} {c:Int} {g:Fig→Int} (h:Fine F c g):F.T.length ≤ 1000:=by have:=h.v.2.1;omega
theorem sum_len {a b F:Frm} {e:Int} (h:SumR a b F e):F.T.length ≤ 1000:=by
 unfold SumR at h;by_cases hv:validF a∧validF b
 ·rw [if_pos hv] at h;obtain ⟨D,_,_,_,o⟩:=h;unfold outN at o;have hm:(mul 1 D).length=D.length:=by simp [mul]
  split at o
  ·simp only [Prod.mk.injEq] at o;rw [o.2.1];simp
  ·split at o
   ·split at o
    ·simp only [Prod.mk.injEq] at o;rw [o.2.1];omega
    ·split at o
     ·simp only [Prod.mk.injEq] at o;rw [o.2.1];omega
     ·simp only [Prod.mk.injEq] at o;rw [o.2.1];simp
   ·simp only [Prod.mk.injEq] at o;rw [o.2.1];simp
 ·rw [if_neg hv] at h;rw [h.1];simp
end Go.Proofs.YtkemjdedikobfaaGreatDoor.Sem
