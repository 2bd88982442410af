/- What is proved: what functions of the program do (walks: printed by a copy of the kit's print that programs of this repository have turned and shortened, or by hand). Conditions stand in each theorem. -/
import Derived.Test.YtkemjdedikobfaaGreatDoorWords
import Derived.Test.YtkemjdedikobfaaGreatDoorProg
import Derived.Below
import Derived.Deep.Draws
import Derived.Deep.AppendLies
import Derived.Maps.AppendAt
import Derived.OwnWalk
import Derived.Laws.BytesArg
import Derived.Laws.MakeOwn
import Derived.Laws.OwnMore
import Derived.Deep.OwnRows
import Derived.Tactics
import Derived.Lib.ConvBytes
import Derived.Laws.Slices
import Derived.WalkKit
import Derived.KernelRfl
import Derived.RowKit3
import Derived.Deep.LoopGhost
import Derived.Deep.QuietTactic
import Derived.BigQuiet
import Derived.WideLaws
import Derived.Deep.DeepCutAuto
import Derived.Deep.CutBlock
import Derived.Deep.RegionHeld3
import Derived.Laws.Rows
import Derived.Lib.AppendStr
import Derived.ArgAppend
import Derived.Laws.IdiomCopy
import Derived.OrdersHeld
import Derived.Laws.BitsLemmas
import Derived.RowKit
import Derived.Lib.SliceRun
set_option linter.unusedVariables false
set_option linter.unusedSimpArgs false
namespace Go.Proofs.YtkemjdedikobfaaGreatDoor.Sh
open Go.RowKit Go.Proofs.YtkemjdedikobfaaGreatDoorW.PrintWords Go.Proofs.YtkemjdedikobfaaGreatDoorW.PrintLast Go.Proofs.YtkemjdedikobfaaGreatDoorW.PrintMore
theorem ak {p:Prop} (h:p):Aside0 p:=⟨h⟩
theorem bx {P:Prop} (h:P:=by repeat (first | (with_reducible first | exact HB.out | apply below_alloc | apply pw_below_drewN | apply below_drew1 | refine below_set ?_ (Aside0.out (by assumption))) | exact HB.out)):P:=h
theorem bk {p q:Prop} (h:Aside0 p) (f:p→q:=by intro h_;(with_reducible repeat (first | refine blk_drewN ?_ _ | refine blk_drew ?_ | refine blk_alloc ?_ _));exact h_):q:=f h.out
theorem bB {w0 w w1:World} {g:Nat} {o:Obj} (h:Aside0 (w0.heap[g]?=some o)) (hb:Below w.heap.size w w1) (f:w0.heap[g]?=some o→w.heap[g]?=some o:=by intro h_;(with_reducible repeat (first | refine blk_drewN ?_ _ | refine blk_drew ?_ | refine blk_alloc ?_ _));exact h_):Aside0 (w1.heap[g]?=some o):=⟨blk_below (f h.out) hb⟩
theorem cx {p q:Prop} (h:Aside0 p) (f:p→q:=by intro h_;repeat (first | (with_reducible exact h_) | (with_reducible refine Kd.C_alloc ?_ _) | (with_reducible refine Kd.C_drewN ?_ _) | (with_reducible refine Kd.C_drew ?_) | exact h_)):q:=f h.out
theorem rx {p q:Prop} (h:Aside0 p) (f:p→q:=by intro h_;(with_reducible repeat (first | apply Kd.R_alloc | apply Kd.R_drewN | apply Kd.R_drew));exact h_):q:=f h.out
theorem sx {p q:Prop} (h:Aside0 p) (f:p→q:=by intro h_;(with_reducible repeat (first | apply Kd.S_alloc | apply Kd.S_drewN | apply Kd.S_drew));exact h_):q:=f h.out
theorem vx {p q:Prop} (h:Aside0 p) (f:p→q:=by intro h_;(with_reducible repeat (first | apply Kd.V_alloc | apply Kd.V_drewN | apply Kd.V_drew));exact h_):q:=f h.out
theorem ag {p:Prop} (h:p:=by (try simp only [List.map_toArray,List.map_cons,List.map_nil]);first | done | rfl | (simp only [List.length_drop,List.length_take];rfl)):p:=h
theorem asm {p:Prop} (h:p:=by first | (with_reducible assumption) | assumption):p:=h
theorem rf {p:Prop} (h:p:=by first | rfl | (simp;done) | (simp [*];done)):p:=h
theorem kr {p:Prop} (h:p:=by kernel_rfl):p:=h
theorem st {p q:Prop} (h:p) (f:p→q:=by intro h_;(with_reducible repeat (first | refine blk_drewN ?_ _ | refine blk_drew ?_ | refine blk_alloc ?_ _));exact h_):q:=f h
theorem cb1 {w:World} {g:Nat} {t:TypeId} {a0:Value} (h:w.heap[g]?=some (.cells #[a0] t (0,0))):w.cell? ⟨g,0,none⟩=some a0∧w.frozen? ⟨g,0,none⟩=false :=
 ⟨(blk_cell h 0).trans rfl,blk_frozen h 0⟩
theorem cb2 {w:World} {g:Nat} {t:TypeId} {a0 a1:Value} (h:w.heap[g]?=some (.cells #[a0,a1] t (0,0))):w.cell? ⟨g,0,none⟩=some a0∧w.cell? ⟨g,1,none⟩=some a1∧w.frozen? ⟨g,0,none⟩=false∧w.frozen? ⟨g,1,none⟩=false :=
 ⟨(blk_cell h 0).trans rfl,(blk_cell h 1).trans rfl,blk_frozen h 0,blk_frozen h 1⟩
theorem cb5 {w:World} {g:Nat} {t:TypeId} {a0 a1 a2 a3 a4:Value} (h:w.heap[g]?=some (.cells #[a0,a1,a2,a3,a4] t (0,0))):w.cell? ⟨g,0,none⟩=some a0∧w.cell? ⟨g,1,none⟩=some a1∧w.cell? ⟨g,2,none⟩=some a2∧w.cell? ⟨g,3,none⟩=some a3∧w.cell? ⟨g,4,none⟩=some a4∧w.frozen? ⟨g,0,none⟩=false∧w.frozen? ⟨g,1,none⟩=false∧w.frozen? ⟨g,2,none⟩=false∧w.frozen? ⟨g,3,none⟩=false∧w.frozen? ⟨g,4,none⟩=false :=
 ⟨(blk_cell h 0).trans rfl,(blk_cell h 1).trans rfl,(blk_cell h 2).trans rfl,(blk_cell h 3).trans rfl,(blk_cell h 4).trans rfl,blk_frozen h 0,blk_frozen h 1,blk_frozen h 2,blk_frozen h 3,blk_frozen h 4⟩
theorem cb6 {w:World} {g:Nat} {t:TypeId} {a0 a1 a2 a3 a4 a5:Value} (h:w.heap[g]?=some (.cells #[a0,a1,a2,a3,a4,a5] t (0,0))):w.cell? ⟨g,0,none⟩=some a0∧w.cell? ⟨g,1,none⟩=some a1∧w.cell? ⟨g,2,none⟩=some a2∧w.cell? ⟨g,3,none⟩=some a3∧w.cell? ⟨g,4,none⟩=some a4∧w.cell? ⟨g,5,none⟩=some a5∧w.frozen? ⟨g,0,none⟩=false∧w.frozen? ⟨g,1,none⟩=false∧w.frozen? ⟨g,2,none⟩=false∧w.frozen? ⟨g,3,none⟩=false∧w.frozen? ⟨g,4,none⟩=false∧w.frozen? ⟨g,5,none⟩=false :=
 ⟨(blk_cell h 0).trans rfl,(blk_cell h 1).trans rfl,(blk_cell h 2).trans rfl,(blk_cell h 3).trans rfl,(blk_cell h 4).trans rfl,(blk_cell h 5).trans rfl,blk_frozen h 0,blk_frozen h 1,blk_frozen h 2,blk_frozen h 3,blk_frozen h 4,blk_frozen h 5⟩
section
variable {P:Program} {ops:Array Oper} {Q:Exit→Act→World→Prop} {md:Region.Mode} {S:World→Prop} {ds:List Nat}
theorem pS (i:Nat) (N:Option Tmp) {oi:Oper} {v:Value} {fuel:Nat} {l l':Array Bool} {a a':Act} {w:World} (h:wpAnyLast P md ops Q S ds fuel l' a' w)
  (_hl:l.setIfInBounds i true=l':=by simp only [List.setIfInBounds_toArray,List.set_cons_zero,List.set_cons_succ];rfl) (hi:ops[i]?=some oi:=by rfl) (hN:oi.dst=N:=by rfl)
  (hc:anyB md ops l l' i=true:=by exact any_of HT_.out (by kernel_rfl)) (hQ:∀ c a w,Q (.panic c) (a.put oi.dst v) w→Q (.panic c) a w:=by exact fun _ _ _ h => h)
  (hy:Yields P ops oi v a:=by refine Or.inl ⟨by rfl,?_⟩;intro w';go_simp;with_reducible rfl) (ha:a.put N v=a':=by simp only [Act.put,List.setIfInBounds_toArray,List.set_cons_zero,List.set_cons_succ,i64_w,i32_w];rfl):wpAnyLast P md ops Q S ds (fuel + 1) l a w:=pure_ l' hi hN hc hQ hy ha h
theorem pU (i:Nat) (N:Option Tmp) {oi:Oper} {fuel:Nat} {l l':Array Bool} {a a':Act} {w:World} (h:wpAnyLast P md ops Q S ds fuel l' a' w)
  (_hl:l.setIfInBounds i true=l':=by simp only [List.setIfInBounds_toArray,List.set_cons_zero,List.set_cons_succ];rfl) (hi:ops[i]?=some oi:=by rfl) (hN:oi.dst=N:=by rfl)
  (hc:anyB md ops l l' i=true:=by exact any_of HT_.out (by kernel_rfl)) (hQ:∀ c a w,Q (.panic c) (a.put oi.dst undef) w→Q (.panic c) a w:=by exact fun _ _ _ h => h)
  (hy:Yields P ops oi undef a:=by exact Or.inr ⟨by rfl,rfl⟩) (ha:a.put N undef=a':=by simp only [Act.put,List.setIfInBounds_toArray,List.set_cons_zero,List.set_cons_succ,i64_w,i32_w];rfl):wpAnyLast P md ops Q S ds (fuel + 1) l a w:=pure_ l' hi hN hc hQ hy ha h
theorem pT (i:Nat) (N:Option Tmp) {oi:Oper} {v:Value} {fuel:Nat} {l l':Array Bool} {a a':Act} {w:World} (h:wpAnyLast P md ops Q S ds fuel l' a' w)
  (_hl:l.setIfInBounds i true=l':=by simp only [List.setIfInBounds_toArray,List.set_cons_zero,List.set_cons_succ];rfl) (hi:ops[i]?=some oi:=by rfl) (hN:oi.dst=N:=by rfl)
  (hc:takeB md ops ds l l' i=true:=by exact take_ofW HT_.out HW_.out (by kernel_rfl)) (hQ:∀ c a w,Q (.panic c) (a.put oi.dst v) w→Q (.panic c) a w:=by exact fun _ _ _ h => h)
  (hy:YieldsIf P ops S oi v a:=by refine Or.inl ⟨by rfl,?_⟩;intro w' hs_;repeat (rcases hs_ with ⟨_,hs_⟩);go_simp;with_reducible rfl) (hS:S w:=by exact hHeld)
  (ha:a.put N v=a':=by simp only [Act.put,List.setIfInBounds_toArray,List.set_cons_zero,List.set_cons_succ,i64_w,i32_w];rfl):wpAnyLast P md ops Q S ds (fuel + 1) l a w:=take_ l' hi hN hc hQ hy hS ha h
end
end Go.Proofs.YtkemjdedikobfaaGreatDoor.Sh
namespace Go.Proofs.YtkemjdedikobfaaGreatDoor.PFx
open Go.RowKit Go.Proofs.YtkemjdedikobfaaGreatDoorW.PrintWords Go.Proofs.YtkemjdedikobfaaGreatDoorW.PrintLast Go.Proofs.YtkemjdedikobfaaGreatDoorW.PrintMore
attribute [local go_sem] max2_int min2_int max_two min_two max_three min_three max_four min_four   -- for this text's walks alone
set_option linter.unusedVariables false
set_option linter.unusedSimpArgs false
def errW:Option Int→Value
 | none => .nilIface
 | some c => .iface 0 (.int .i64 c)
theorem errW_none:errW none=.nilIface:=rfl
theorem errW_some (c:Int):errW (some c)=.iface 0 (.int .i64 c):=rfl
theorem info3:(Tryz.prog.info? 3).map (fun i => (i.zero,i.size,i.bytes))=some (some (.int .i64 0),1,8):=by kernel_rfl
structure S95 where
 f0:Int
 f1:Int
def z95:S95:=⟨(0:Int),(0:Int)⟩
def k95:Kd S95:=Kd.iso (Kd.pair (Kd.int .i64) (Kd.int .i64)) (fun x:S95 => (x.f0,x.f1))
theorem k95_open {w:World} {x:S95} {cs:List Value} (h:k95.K w x cs):cs=[.int .i64 x.f0,.int .i64 x.f1]:=by
 obtain ⟨_,_,rfl,rfl,rfl⟩:=h
 exact rfl
theorem k95_openM {w:World} {base:Nat} {ok:Nat→Prop} {x:S95} {cs:List Value} (h:k95.M w base ok x cs):cs=[.int .i64 x.f0,.int .i64 x.f1]:=by
 obtain ⟨_,_,rfl,rfl,rfl⟩:=h
 exact rfl
theorem k95_mk (w:World) (x:S95) :k95.K w x [.int .i64 x.f0,.int .i64 x.f1]:=⟨[.int .i64 x.f0],[.int .i64 x.f1],rfl,rfl,rfl⟩
theorem k95_mkM (w:World) (base:Nat) (ok:Nat→Prop) (x:S95) :k95.M w base ok x [.int .i64 x.f0,.int .i64 x.f1]:=⟨[.int .i64 x.f0],[.int .i64 x.f1],rfl,rfl,rfl⟩
def rd_T95 (xs:List S95) (i:Int):S95:=xs.getD i.toNat z95
theorem at_T95 {w:World} {A:Option Addr} {n:Nat} {xs:List S95} (h:Kd.C k95 w A n xs) (i:Int) (h0:0 ≤ i) (h1:i < n):∃ ad ,A=some ad∧w.cell? (ad.add (i.toNat * 2))=some (.int .i64 (rd_T95 xs i).f0)∧w.cell? ⟨(ad.add (i.toNat * 2)).block,(ad.add (i.toNat * 2)).off + 1,none⟩=some (.int .i64 (rd_T95 xs i).f1):=by
 obtain ⟨ad,c,e,_,hK,hc0⟩:=Kd.C_get h z95 i h0 h1
 have hc:∀ j u,c[j]?=some u→w.cell? (ad.add (i.toNat * 2 + j))=some u:=hc0
 obtain rfl:=k95_open hK
 exact ⟨ad,e,hc 0 _ rfl,by rw [← add_field _ _ 1 (by omega)];exact hc 1 _ rfl⟩
end Go.Proofs.YtkemjdedikobfaaGreatDoor.PFx
namespace Go.Proofs.YtkemjdedikobfaaGreatDoor.PFx
open Go.Proofs.YtkemjdedikobfaaGreatDoor.Sh
open Go.RowKit Go.Proofs.YtkemjdedikobfaaGreatDoorW.PrintWords Go.Proofs.YtkemjdedikobfaaGreatDoorW.PrintLast Go.Proofs.YtkemjdedikobfaaGreatDoorW.PrintMore
attribute [local go_sem] max2_int min2_int max_two min_two max_three min_three max_four min_four   -- for this text's walks alone
set_option linter.unusedVariables false
set_option linter.unusedSimpArgs false
def cmp_Or_int.l0:Nat→Int→List Int→Int→Int→Option (Int)
 | 0,_,_,_,_ => none
 | k + 1,x3,x6,x7,x8 => if x8 < x7 then (if 0 ≤ x8 then (if x8 < (x6.length:Int) then (if (rd x6 x8)=x3 then (cmp_Or_int.l0 k x3 x6 x7 (wrap64 (x8 + 1))) else (some (rd x6 x8))) else (none)) else (none)) else (some x3)
def cmp_Or_int.f (k:Nat) (l0:List Int):Option (Int):=cmp_Or_int.l0 k 0 l0 (l0.length:Int) 0
set_option maxHeartbeats 8000000 in
set_option maxRecDepth 100000 in
theorem cmp_Or_int.calls (k:Nat) (A0:Option Addr) (c0:Nat) (l0:List Int) (r:Int) (w:World) (hr0:Kd.C (Kd.int .i64) w A0 l0.length l0) (hc0:l0.length ≤ c0) (h:cmp_Or_int.f k l0=some r) :
  Calls Tryz.prog 81 #[.slice A0 l0.length c0] w fun e w' => e=.returned (.int .i64 r)∧Drawn0 w w':=by
 have HR0:=ak hr0
 have HC0:=ak hc0
 clear hr0 hc0
 have H:(cmp_Or_int.l0 k 0 l0 (l0.length:Int) 0)=some r:=h
 clear h
 have H':=ak H
 clear H
 go_enter Tryz.func81,Tryz.ntmps81
 go_wp2
 go_loopg [8] k (fun kq v8 w' => ∃ (x8_1:Int),v8=.int .i64 x8_1∧Aside0 (cmp_Or_int.l0 kq 0 l0 (l0.length:Int) x8_1=some r)∧Aside0 (kq ≤ k)∧Drawn0 w w')
 case atStart => exact ⟨(0),rf,H',⟨Nat.le_refl _⟩,by repeat (first | exact Drawn0.refl _ | apply Drawn0.step)⟩
 case round =>
  clear H'
  obtain ⟨x8_1,rfl,HA,HK1,⟨m1,rfl⟩⟩:=hrel
  cases gk with
  | zero => exact absurd HA.out (by simp [cmp_Or_int.l0])
  | succ k1 =>
   have H:=HA.out
   clear HA
   simp only [cmp_Or_int.l0] at H
   by_cases c2:x8_1 < (l0.length:Int)
   ·
    rw [if_pos c2] at H
    have c2b0:decide (x8_1 < (l0.length:Int))=true:=decide_eq_true c2
    clear c2
    by_cases c3:0 ≤ x8_1
    ·
     rw [if_pos c3] at H
     have c3b0:decide (0 ≤ x8_1)=true:=decide_eq_true c3
     clear c3
     by_cases c4:x8_1 < (l0.length:Int)
     ·
      rw [if_pos c4] at H
      have c4b0:decide (x8_1 < (l0.length:Int))=true:=decide_eq_true c4
      clear c4
      by_cases c5:(rd l0 x8_1)=0
      ·
       rw [if_pos c5] at H
       have c5b0:((rd l0 x8_1) == 0)=true:=beq_iff_eq.mpr c5
       have c5b1:((rd l0 x8_1) != 0)=false:=bne_eq_false_iff_eq.mpr c5
       clear c5
       have H':=ak H
       clear H
       have p101:0 ≤ (x8_1:Int):=of_decide_eq_true asm
       have q101:x8_1 < (l0.length:Int):=of_decide_eq_true asm
       obtain ⟨ad101,e101,hx101_0⟩:=Kd.at_int HR0.out x8_1 p101 q101
       cases e101
       replace p101:=eq_true p101
       replace q101:=eq_true q101
       go_wp2
       go_roundg k1
       case measure => have:=HK1.out;omega
       case rel => exact ⟨(wrap64 (x8_1 + 1)),rf,H',⟨by have:=HK1.out;omega⟩,by repeat (first | exact Drawn0.refl _ | apply Drawn0.step)⟩
      ·
       rw [if_neg c5] at H
       have c5b0:((rd l0 x8_1) == 0)=false:=beq_eq_false_iff_ne.mpr c5
       have c5b1:((rd l0 x8_1) != 0)=true:=bne_iff_ne.mpr c5
       obtain rfl:=Option.some.inj H
       have p101:0 ≤ (x8_1:Int):=of_decide_eq_true asm
       have q101:x8_1 < (l0.length:Int):=of_decide_eq_true asm
       obtain ⟨ad101,e101,hx101_0⟩:=Kd.at_int HR0.out x8_1 p101 q101
       cases e101
       replace p101:=eq_true p101
       replace q101:=eq_true q101
       go_wp2
       go_ret
       exact ⟨by first | rfl | (simp;done) | (simp [*];done),by repeat (first | exact Drawn0.refl _ | apply Drawn0.step)⟩
     ·
      rw [if_neg c4] at H
      exact absurd H (by simp)
    ·
     rw [if_neg c3] at H
     exact absurd H (by simp)
   ·
    rw [if_neg c2] at H
    have c2b0:decide (x8_1 < (l0.length:Int))=false:=decide_eq_false c2
    clear c2
    obtain rfl:=Option.some.inj H
    go_wp2
    go_ret
    exact ⟨by first | rfl | (simp;done) | (simp [*];done),by repeat (first | exact Drawn0.refl _ | apply Drawn0.step)⟩
def cmp_isNaN_int.f (a0:Int):Option (Bool):=some (a0 != a0)
set_option maxHeartbeats 8000000 in
set_option maxRecDepth 100000 in
theorem cmp_isNaN_int.calls (a0:Int) (r:Bool) (w:World) (h:cmp_isNaN_int.f a0=some r) :
  Calls Tryz.prog 123 #[.int .i64 a0] w fun e w' => e=.returned (.bool r)∧Drawn0 w w':=by
 have H:(some (a0 != a0))=some r:=h
 clear h
 obtain rfl:=Option.some.inj H
 go_enter Tryz.func123,Tryz.ntmps123
 go_wp2
 go_ret
 exact ⟨by first | rfl | (simp;done) | (simp [*];done),by repeat (first | exact Drawn0.refl _ | apply Drawn0.step)⟩
def cmp_Compare_int.f (a0:Int) (a1:Int):Option (Int):=(cmp_isNaN_int.f a0).bind fun t102 => ((cmp_isNaN_int.f a1).bind fun t103 => (if t102=true then (if t103=true then (some 0) else (some (-1))) else (if t103=true then (some 1) else (if a0 < a1 then (some (-1)) else (if a0 > a1 then (some 1) else (some 0))))))
set_option maxHeartbeats 8000000 in
set_option maxRecDepth 100000 in
theorem cmp_Compare_int.calls (a0:Int) (a1:Int) (r:Int) (w:World) (h:cmp_Compare_int.f a0 a1=some r) :
  Calls Tryz.prog 82 #[.int .i64 a0,.int .i64 a1] w fun e w' => e=.returned (.int .i64 r)∧Drawn0 w w':=by
 have H:((cmp_isNaN_int.f a0).bind fun t102 => ((cmp_isNaN_int.f a1).bind fun t103 => (if t102=true then (if t103=true then (some 0) else (some (-1))) else (if t103=true then (some 1) else (if a0 < a1 then (some (-1)) else (if a0 > a1 then (some 1) else (some 0)))))))=some r:=h
 clear h
 replace H:=Option.bind_eq_some_iff.mp H
 obtain ⟨t102,A30,H⟩:=H
 replace H:((cmp_isNaN_int.f a1).bind fun t103 => (if t102=true then (if t103=true then (some 0) else (some (-1))) else (if t103=true then (some 1) else (if a0 < a1 then (some (-1)) else (if a0 > a1 then (some 1) else (some 0))))))=some r:=H
 have A3:=ak A30
 clear A30
 replace H:=Option.bind_eq_some_iff.mp H
 obtain ⟨t103,A40,H⟩:=H
 replace H:(if t102=true then (if t103=true then (some 0) else (some (-1))) else (if t103=true then (some 1) else (if a0 < a1 then (some (-1)) else (if a0 > a1 then (some 1) else (some 0)))))=some r:=H
 have A4:=ak A40
 clear A40
 by_cases c5:t102=true
 ·
  subst c5
  have H1:(if t103=true then (some 0) else (some (-1)))=some r:=by rw [if_pos rfl] at H;exact H
  clear H
  have H:=H1
  clear H1
  by_cases c6:t103=true
  ·
   subst c6
   have H1:(some 0)=some r:=by rw [if_pos rfl] at H;exact H
   clear H
   have H:=H1
   clear H1
   obtain rfl:=Option.some.inj H
   go_enter Tryz.func82,Tryz.ntmps82
   go_wp2_with (first | ((with_reducible refine gate_callee (f:=123) rfl ?_);refine goesL_ (some 8) rfl rfl Tryz.func123 kr rfl #[.int .i64 a0] rfl ag ?_;(with_reducible refine (cmp_isNaN_int.calls a0 true _ A3.out).mono ?_);rintro e w' ⟨rfl,⟨nd,rfl⟩⟩;refine ⟨_,rfl,?_⟩) | ((with_reducible refine gate_callee (f:=123) rfl ?_);refine goesL_ (some 10) rfl rfl Tryz.func123 kr rfl #[.int .i64 a1] rfl ag ?_;(with_reducible refine (cmp_isNaN_int.calls a1 true _ A4.out).mono ?_);rintro e w' ⟨rfl,⟨nd,rfl⟩⟩;refine ⟨_,rfl,?_⟩))
   go_ret
   exact ⟨by first | rfl | (simp;done) | (simp [*];done),by repeat (first | exact Drawn0.refl _ | apply Drawn0.step)⟩
  ·
   replace c6:=Bool.eq_false_iff.mpr c6
   subst c6
   have H1:(some (-1))=some r:=by rw [if_neg (show ¬ (false=true) by decide)] at H;exact H
   clear H
   have H:=H1
   clear H1
   obtain rfl:=Option.some.inj H
   go_enter Tryz.func82,Tryz.ntmps82
   go_wp2_with (first | ((with_reducible refine gate_callee (f:=123) rfl ?_);refine goesL_ (some 8) rfl rfl Tryz.func123 kr rfl #[.int .i64 a0] rfl ag ?_;(with_reducible refine (cmp_isNaN_int.calls a0 true _ A3.out).mono ?_);rintro e w' ⟨rfl,⟨nd,rfl⟩⟩;refine ⟨_,rfl,?_⟩) | ((with_reducible refine gate_callee (f:=123) rfl ?_);refine goesL_ (some 10) rfl rfl Tryz.func123 kr rfl #[.int .i64 a1] rfl ag ?_;(with_reducible refine (cmp_isNaN_int.calls a1 false _ A4.out).mono ?_);rintro e w' ⟨rfl,⟨nd,rfl⟩⟩;refine ⟨_,rfl,?_⟩))
   go_ret
   exact ⟨by first | rfl | (simp;done) | (simp [*];done),by repeat (first | exact Drawn0.refl _ | apply Drawn0.step)⟩
 ·
  replace c5:=Bool.eq_false_iff.mpr c5
  subst c5
  have H1:(if t103=true then (some 1) else (if a0 < a1 then (some (-1)) else (if a0 > a1 then (some 1) else (some 0))))=some r:=by rw [if_neg (show ¬ (false=true) by decide)] at H;exact H
  clear H
  have H:=H1
  clear H1
  by_cases c7:t103=true
  ·
   subst c7
   have H1:(some 1)=some r:=by rw [if_pos rfl] at H;exact H
   clear H
   have H:=H1
   clear H1
   obtain rfl:=Option.some.inj H
   go_enter Tryz.func82,Tryz.ntmps82
   go_wp2_with (first | ((with_reducible refine gate_callee (f:=123) rfl ?_);refine goesL_ (some 8) rfl rfl Tryz.func123 kr rfl #[.int .i64 a0] rfl ag ?_;(with_reducible refine (cmp_isNaN_int.calls a0 false _ A3.out).mono ?_);rintro e w' ⟨rfl,⟨nd,rfl⟩⟩;refine ⟨_,rfl,?_⟩) | ((with_reducible refine gate_callee (f:=123) rfl ?_);refine goesL_ (some 10) rfl rfl Tryz.func123 kr rfl #[.int .i64 a1] rfl ag ?_;(with_reducible refine (cmp_isNaN_int.calls a1 true _ A4.out).mono ?_);rintro e w' ⟨rfl,⟨nd,rfl⟩⟩;refine ⟨_,rfl,?_⟩))
   go_ret
   exact ⟨by first | rfl | (simp;done) | (simp [*];done),by repeat (first | exact Drawn0.refl _ | apply Drawn0.step)⟩
  ·
   replace c7:=Bool.eq_false_iff.mpr c7
   subst c7
   have H1:(if a0 < a1 then (some (-1)) else (if a0 > a1 then (some 1) else (some 0)))=some r:=by rw [if_neg (show ¬ (false=true) by decide)] at H;exact H
   clear H
   have H:=H1
   clear H1
   by_cases c8:a0 < a1
   ·
    rw [if_pos c8] at H
    have c8b0:decide (a0 < a1)=true:=decide_eq_true c8
    clear c8
    obtain rfl:=Option.some.inj H
    go_enter Tryz.func82,Tryz.ntmps82
    go_wp2_with (first | ((with_reducible refine gate_callee (f:=123) rfl ?_);refine goesL_ (some 8) rfl rfl Tryz.func123 kr rfl #[.int .i64 a0] rfl ag ?_;(with_reducible refine (cmp_isNaN_int.calls a0 false _ A3.out).mono ?_);rintro e w' ⟨rfl,⟨nd,rfl⟩⟩;refine ⟨_,rfl,?_⟩) | ((with_reducible refine gate_callee (f:=123) rfl ?_);refine goesL_ (some 10) rfl rfl Tryz.func123 kr rfl #[.int .i64 a1] rfl ag ?_;(with_reducible refine (cmp_isNaN_int.calls a1 false _ A4.out).mono ?_);rintro e w' ⟨rfl,⟨nd,rfl⟩⟩;refine ⟨_,rfl,?_⟩))
    go_ret
    exact ⟨by first | rfl | (simp;done) | (simp [*];done),by repeat (first | exact Drawn0.refl _ | apply Drawn0.step)⟩
   ·
    rw [if_neg c8] at H
    have c8b0:decide (a0 < a1)=false:=decide_eq_false c8
    clear c8
    by_cases c9:a0 > a1
    ·
     rw [if_pos c9] at H
     have c9b0:decide (a1 < a0)=true:=decide_eq_true c9
     clear c9
     obtain rfl:=Option.some.inj H
     go_enter Tryz.func82,Tryz.ntmps82
     go_wp2_with (first | ((with_reducible refine gate_callee (f:=123) rfl ?_);refine goesL_ (some 8) rfl rfl Tryz.func123 kr rfl #[.int .i64 a0] rfl ag ?_;(with_reducible refine (cmp_isNaN_int.calls a0 false _ A3.out).mono ?_);rintro e w' ⟨rfl,⟨nd,rfl⟩⟩;refine ⟨_,rfl,?_⟩) | ((with_reducible refine gate_callee (f:=123) rfl ?_);refine goesL_ (some 10) rfl rfl Tryz.func123 kr rfl #[.int .i64 a1] rfl ag ?_;(with_reducible refine (cmp_isNaN_int.calls a1 false _ A4.out).mono ?_);rintro e w' ⟨rfl,⟨nd,rfl⟩⟩;refine ⟨_,rfl,?_⟩))
     go_ret
     exact ⟨by first | rfl | (simp;done) | (simp [*];done),by repeat (first | exact Drawn0.refl _ | apply Drawn0.step)⟩
    ·
     rw [if_neg c9] at H
     have c9b0:decide (a1 < a0)=false:=decide_eq_false c9
     clear c9
     obtain rfl:=Option.some.inj H
     go_enter Tryz.func82,Tryz.ntmps82
     go_wp2_with (first | ((with_reducible refine gate_callee (f:=123) rfl ?_);refine goesL_ (some 8) rfl rfl Tryz.func123 kr rfl #[.int .i64 a0] rfl ag ?_;(with_reducible refine (cmp_isNaN_int.calls a0 false _ A3.out).mono ?_);rintro e w' ⟨rfl,⟨nd,rfl⟩⟩;refine ⟨_,rfl,?_⟩) | ((with_reducible refine gate_callee (f:=123) rfl ?_);refine goesL_ (some 10) rfl rfl Tryz.func123 kr rfl #[.int .i64 a1] rfl ag ?_;(with_reducible refine (cmp_isNaN_int.calls a1 false _ A4.out).mono ?_);rintro e w' ⟨rfl,⟨nd,rfl⟩⟩;refine ⟨_,rfl,?_⟩))
     go_ret
     exact ⟨by first | rfl | (simp;done) | (simp [*];done),by repeat (first | exact Drawn0.refl _ | apply Drawn0.step)⟩
end Go.Proofs.YtkemjdedikobfaaGreatDoor.PFx
namespace Go.Proofs.YtkemjdedikobfaaGreatDoor.PFx
open Go.Proofs.YtkemjdedikobfaaGreatDoor.Sh
open Go.RowKit Go.Proofs.YtkemjdedikobfaaGreatDoorW.PrintWords Go.Proofs.YtkemjdedikobfaaGreatDoorW.PrintLast Go.Proofs.YtkemjdedikobfaaGreatDoorW.PrintMore
attribute [local go_sem] max2_int min2_int max_two min_two max_three min_three max_four min_four   -- for this text's walks alone
set_option linter.unusedVariables false
set_option linter.unusedSimpArgs false
mutual
def ask_byFigure.l0:Nat→Int→Int→Int→Int→List (S95)→Int→Int→Int→Int→List (S95)→Int→Int→Option (Int)
 | 0,_,_,_,_,_,_,_,_,_,_,_,_ => none
 | k + 1,x5,x6,x105000,x105001,x105002,x105003,x105004,x106000,x106001,x106002,x106003,x106004 => if x5=0 then (ask_byFigure.j1 k x5 x6 (decide (x6 < (x105002.length:Int))) x105000 x105001 x105002 x105003 x105004 x106000 x106001 x106002 x106003 x106004) else (ask_byFigure.j1 k x5 x6 false x105000 x105001 x105002 x105003 x105004 x106000 x106001 x106002 x106003 x106004)
def ask_byFigure.j1:Nat→Int→Int→Bool→Int→Int→List (S95)→Int→Int→Int→Int→List (S95)→Int→Int→Option (Int)
 | 0,_,_,_,_,_,_,_,_,_,_,_,_,_ => none
 | k + 1,x5,x6,x48,x105000,x105001,x105002,x105003,x105004,x106000,x106001,x106002,x106003,x106004 => if x48=true then (if 0 ≤ x6 then (if x6 < (x105002.length:Int) then (if x6 < (x106002.length:Int) then ((cmp_Compare_int.f ((rd_T95 x105002 x6).f0) ((rd_T95 x106002 x6).f0)).bind fun t117 => ((cmp_Compare_int.f ((rd_T95 x105002 x6).f1) ((rd_T95 x106002 x6).f1)).bind fun t120 => ((cmp_Or_int.f k (([t117,t120]:List Int))).bind fun t124 => (ask_byFigure.l0 k t124 (wrap64 (x6 + 1)) x105000 x105001 x105002 x105003 x105004 x106000 x106001 x106002 x106003 x106004)))) else (none)) else (none)) else (none)) else (some x5)
end
def ask_byFigure.f (k:Nat) (a0_0:Int) (a0_1:Int) (l0_2:List (S95)) (a0_3:Int) (a0_4:Int) (a1_0:Int) (a1_1:Int) (l1_2:List (S95)) (a1_3:Int) (a1_4:Int):Option (Int):=(cmp_Compare_int.f a0_0 a1_0).bind fun t106 => ((cmp_Compare_int.f a0_1 a1_1).bind fun t107 => ((cmp_Compare_int.f a0_3 a1_3).bind fun t108 => ((cmp_Compare_int.f a0_4 a1_4).bind fun t109 => ((cmp_Compare_int.f (l0_2.length:Int) (l1_2.length:Int)).bind fun t110 => ((cmp_Or_int.f k (([t106,t107,t108,t109,t110]:List Int))).bind fun t114 => (ask_byFigure.l0 k t114 0 a0_0 a0_1 l0_2 a0_3 a0_4 a1_0 a1_1 l1_2 a1_3 a1_4))))))
def ask_byFigure.T1:Bool × List (List Nat × List Nat):=(true,[([],[]),([0],[0]),([],[]),([2],[2]),([1,3],[1,3]),([],[]),([5],[5]),([],[]),([7],[7]),([6,8,4],[6,8]),([],[]),([10],[10]),([11],[11]),([],[]),([13],[13]),([14],[14]),([12,15,9],[12,15]),([],[]),([17],[17]),([18],[18]),([],[]),([20],[20]),([21],[21]),([19,22,16],[19,22]),([],[]),([24],[24]),([25],[25]),([],[]),([27],[27]),([28],[28]),([26,29,23],[26,29]),([4,9,16,23,30],[4,9,16,23,30]),([31,30],[31]),([32,32,0,1,2,3,4,5,6,7,8,9,10,11,12,13,14,15,16,17,18,19,20,21,22,23,24,25,26,27,28,29,30,31,32],[32])])
def ask_byFigure.B1:List Nat:=[0,1,0,4,15,0,32,0,128,511,0,1024,3072,0,8192,24576,65535,0,131072,393216,0,1048576,3145728,8388607,0,16777216,50331648,0,134217728,402653184,1073741823,2147483647,4294967295,8589934591]
theorem ask_byFigure.tab1:rtab .any (opsOf Tryz.f47 1)=ask_byFigure.T1:=by kernel_rfl
theorem ask_byFigure.bits1:waitsOk ask_byFigure.T1.2 ask_byFigure.B1=true:=by kernel_rfl
def ask_byFigure.T5:Bool × List (List Nat × List Nat):=(true,[([],[]),([0],[0]),([],[]),([1,2],[1,2]),([3],[3]),([4],[4]),([],[]),([6],[6]),([],[]),([7,8],[7,8]),([9],[9]),([10],[10]),([5,11],[5,11]),([],[]),([13],[13]),([],[]),([14,15],[14,15]),([16],[16]),([17],[17]),([],[]),([19],[19]),([],[]),([20,21],[20,21]),([22],[22]),([23],[23]),([18,24,12],[18,24]),([12,25],[12,25]),([26,25],[26]),([27,27,0,1,2,3,4,5,6,7,8,9,10,11,12,13,14,15,16,17,18,19,20,21,22,23,24,25,26,27],[27])])
def ask_byFigure.B5:List Nat:=[0,1,0,7,15,31,0,64,0,448,960,1984,4095,0,8192,0,57344,122880,253952,0,524288,0,3670016,7864320,16252928,33554431,67108863,134217727,268435455]
theorem ask_byFigure.tab5:rtab .any (opsOf Tryz.f47 5)=ask_byFigure.T5:=by kernel_rfl
theorem ask_byFigure.bits5:waitsOk ask_byFigure.T5.2 ask_byFigure.B5=true:=by kernel_rfl
set_option maxHeartbeats 8000000 in
set_option maxRecDepth 100000 in
theorem ask_byFigure.calls (k:Nat) (a0_0:Int) (a0_1:Int) (A0_2:Option Addr) (c0_2:Nat) (l0_2:List (S95)) (a0_3:Int) (a0_4:Int) (a1_0:Int) (a1_1:Int) (A1_2:Option Addr) (c1_2:Nat) (l1_2:List (S95)) (a1_3:Int) (a1_4:Int) (r:Int) (w:World) (hr0_2:Kd.C k95 w A0_2 l0_2.length l0_2) (hc0_2:l0_2.length ≤ c0_2) (hr1_2:Kd.C k95 w A1_2 l1_2.length l1_2) (hc1_2:l1_2.length ≤ c1_2) (h:ask_byFigure.f k a0_0 a0_1 l0_2 a0_3 a0_4 a1_0 a1_1 l1_2 a1_3 a1_4=some r) :
  Calls Tryz.prog 47 #[.agg #[.int .i64 a0_0,.int .i64 a0_1,.slice A0_2 l0_2.length c0_2,.int .i64 a0_3,.int .i64 a0_4],.agg #[.int .i64 a1_0,.int .i64 a1_1,.slice A1_2 l1_2.length c1_2,.int .i64 a1_3,.int .i64 a1_4]] w fun e w' => e=.returned (.int .i64 r)∧Below w.heap.size w w':=by
 have hu45:=Tryz.underlying45
 have HR0_2:=ak hr0_2
 have HC0_2:=ak hc0_2
 clear hr0_2 hc0_2
 have HR1_2:=ak hr1_2
 have HC1_2:=ak hc1_2
 clear hr1_2 hc1_2
 have HB:=ak (Below.refl w.heap.size w)
 have H:((cmp_Compare_int.f a0_0 a1_0).bind fun t106 => ((cmp_Compare_int.f a0_1 a1_1).bind fun t107 => ((cmp_Compare_int.f a0_3 a1_3).bind fun t108 => ((cmp_Compare_int.f a0_4 a1_4).bind fun t109 => ((cmp_Compare_int.f (l0_2.length:Int) (l1_2.length:Int)).bind fun t110 => ((cmp_Or_int.f k (([t106,t107,t108,t109,t110]:List Int))).bind fun t114 => (ask_byFigure.l0 k t114 0 a0_0 a0_1 l0_2 a0_3 a0_4 a1_0 a1_1 l1_2 a1_3 a1_4)))))))=some r:=h
 clear h
 replace H:=Option.bind_eq_some_iff.mp H
 obtain ⟨t106,A30,H⟩:=H
 replace H:((cmp_Compare_int.f a0_1 a1_1).bind fun t107 => ((cmp_Compare_int.f a0_3 a1_3).bind fun t108 => ((cmp_Compare_int.f a0_4 a1_4).bind fun t109 => ((cmp_Compare_int.f (l0_2.length:Int) (l1_2.length:Int)).bind fun t110 => ((cmp_Or_int.f k (([t106,t107,t108,t109,t110]:List Int))).bind fun t114 => (ask_byFigure.l0 k t114 0 a0_0 a0_1 l0_2 a0_3 a0_4 a1_0 a1_1 l1_2 a1_3 a1_4))))))=some r:=H
 have A3:=ak A30
 clear A30
 replace H:=Option.bind_eq_some_iff.mp H
 obtain ⟨t107,A40,H⟩:=H
 replace H:((cmp_Compare_int.f a0_3 a1_3).bind fun t108 => ((cmp_Compare_int.f a0_4 a1_4).bind fun t109 => ((cmp_Compare_int.f (l0_2.length:Int) (l1_2.length:Int)).bind fun t110 => ((cmp_Or_int.f k (([t106,t107,t108,t109,t110]:List Int))).bind fun t114 => (ask_byFigure.l0 k t114 0 a0_0 a0_1 l0_2 a0_3 a0_4 a1_0 a1_1 l1_2 a1_3 a1_4)))))=some r:=H
 have A4:=ak A40
 clear A40
 replace H:=Option.bind_eq_some_iff.mp H
 obtain ⟨t108,A50,H⟩:=H
 replace H:((cmp_Compare_int.f a0_4 a1_4).bind fun t109 => ((cmp_Compare_int.f (l0_2.length:Int) (l1_2.length:Int)).bind fun t110 => ((cmp_Or_int.f k (([t106,t107,t108,t109,t110]:List Int))).bind fun t114 => (ask_byFigure.l0 k t114 0 a0_0 a0_1 l0_2 a0_3 a0_4 a1_0 a1_1 l1_2 a1_3 a1_4))))=some r:=H
 have A5:=ak A50
 clear A50
 replace H:=Option.bind_eq_some_iff.mp H
 obtain ⟨t109,A60,H⟩:=H
 replace H:((cmp_Compare_int.f (l0_2.length:Int) (l1_2.length:Int)).bind fun t110 => ((cmp_Or_int.f k (([t106,t107,t108,t109,t110]:List Int))).bind fun t114 => (ask_byFigure.l0 k t114 0 a0_0 a0_1 l0_2 a0_3 a0_4 a1_0 a1_1 l1_2 a1_3 a1_4)))=some r:=H
 have A6:=ak A60
 clear A60
 replace H:=Option.bind_eq_some_iff.mp H
 obtain ⟨t110,A70,H⟩:=H
 replace H:((cmp_Or_int.f k (([t106,t107,t108,t109,t110]:List Int))).bind fun t114 => (ask_byFigure.l0 k t114 0 a0_0 a0_1 l0_2 a0_3 a0_4 a1_0 a1_1 l1_2 a1_3 a1_4))=some r:=H
 have A7:=ak A70
 clear A70
 obtain ⟨y111,hy111⟩:∃ y_:List Int,y_=(([t106,t107,t108,t109,t110]:List Int)):=⟨_,rfl⟩
 replace H:((cmp_Or_int.f k y111).bind fun t114 => (ask_byFigure.l0 k t114 0 a0_0 a0_1 l0_2 a0_3 a0_4 a1_0 a1_1 l1_2 a1_3 a1_4))=some r:=by first | (rw [hy111];with_reducible exact H) | (have H2_:=(Option.bind_some _ _).symm.trans H;rw [hy111];with_reducible exact H2_) | (have H2_:=(Option.bind_some _ _).symm.trans H;with_reducible exact H2_) | with_reducible exact H | (rw [hy111];exact H) | exact H
 have Ny111:=ak hy111
 clear hy111
 replace H:=Option.bind_eq_some_iff.mp H
 obtain ⟨t114,A80,H⟩:=H
 replace H:(ask_byFigure.l0 k t114 0 a0_0 a0_1 l0_2 a0_3 a0_4 a1_0 a1_1 l1_2 a1_3 a1_4)=some r:=H
 have A8:=ak A80
 clear A80
 have H':=ak H
 clear H
 go_enter Tryz.func47,Tryz.ntmps47
 try go_wp2_with (first | ((with_reducible refine gate_dst (N:=2) rfl ?_);(try (refine gate_guard (by rfl) ?_;dsimp only));refine box_event ?hg (N:=2) ?hd (cs:=#[.int .i64 a0_0,.int .i64 a0_1,.slice A0_2 l0_2.length c0_2,.int .i64 a0_3,.int .i64 a0_4]) (t:=45) ?hr ?_;(case hd => rfl);(case hg => rfl);(case hr => first | (go_simp;done) | (go_simp;rfl));intro gb104 hg w9 hbox hb;have n0_:=ak (below_step bx hb);have n1_:=ak (hbox);have n2_:=ak ((by rw [hg];exact (below_size bx):w.heap.size ≤ gb104));have n3_:=ak ((by rw [hg];exact (below_size bx):w.heap.size ≤ gb104));clear HB;have HB:=n0_;have BK104:=n1_;have GW104:=n2_;have GE104:=n3_;clear n0_ n1_ n2_ n3_;clear hb hbox hg) | ((with_reducible refine gate_dst (N:=3) rfl ?_);(try (refine gate_guard (by rfl) ?_;dsimp only));refine box_event ?hg (N:=3) ?hd (cs:=#[.int .i64 a1_0,.int .i64 a1_1,.slice A1_2 l1_2.length c1_2,.int .i64 a1_3,.int .i64 a1_4]) (t:=45) ?hr ?_;(case hd => rfl);(case hg => rfl);(case hr => first | (go_simp;done) | (go_simp;rfl));intro gb105 hg w10 hbox hb;have n0_:=bB BK104 hb;have n1_:=ak (below_step bx hb);have n2_:=ak (hbox);have n3_:=ak ((by rw [hg];exact (below_size bx):w.heap.size ≤ gb105));have n4_:=ak ((by rw [hg];exact (below_size bx):w.heap.size ≤ gb105));have n5_:=ak ((by rw [hg];exact Nat.ne_of_lt (blk_lt (g:=gb104) (o:=.cells #[.int .i64 a0_0,.int .i64 a0_1,.slice A0_2 l0_2.length c0_2,.int .i64 a0_3,.int .i64 a0_4] 45 (0,0)) (bk BK104)):gb104 ≠ gb105));have n6_:=ak ((by rw [hg];exact Nat.ne_of_gt (blk_lt (g:=gb104) (o:=.cells #[.int .i64 a0_0,.int .i64 a0_1,.slice A0_2 l0_2.length c0_2,.int .i64 a0_3,.int .i64 a0_4] 45 (0,0)) (bk BK104)):gb105 ≠ gb104));clear BK104 HB;have BK104:=n0_;have HB:=n1_;have BK105:=n2_;have GW105:=n3_;have GE105:=n4_;have NB104_105:=n5_;have NB105_104:=n6_;clear n0_ n1_ n2_ n3_ n4_ n5_ n6_;clear hb hbox hg))
 have n0_:=ak (blk_drew BK104.out)
 have n1_:=ak (blk_drew BK105.out)
 have n2_:=ak (below_drew1 HB.out)
 clear BK104
 clear BK105
 clear HB
 have BK104:=n0_
 have BK105:=n1_
 have HB:=n2_
 clear n0_ n1_ n2_
 refine start_ (n:=34) (S:=fun w' => w'.cell? ⟨gb104,0,none⟩=some (.int .i64 a0_0)∧w'.cell? ⟨gb104,1,none⟩=some (.int .i64 a0_1)∧w'.cell? ⟨gb104,2,none⟩=some (.slice A0_2 l0_2.length c0_2)∧w'.cell? ⟨gb104,3,none⟩=some (.int .i64 a0_3)∧w'.cell? ⟨gb104,4,none⟩=some (.int .i64 a0_4)∧w'.cell? ⟨gb105,0,none⟩=some (.int .i64 a1_0)∧w'.cell? ⟨gb105,1,none⟩=some (.int .i64 a1_1)∧w'.cell? ⟨gb105,2,none⟩=some (.slice A1_2 l1_2.length c1_2)∧w'.cell? ⟨gb105,3,none⟩=some (.int .i64 a1_3)∧w'.cell? ⟨gb105,4,none⟩=some (.int .i64 a1_4)) (ds:=[]) #[false,false,false,false,false,false,false,false,false,false,false,false,false,false,false,false,false,false,false,false,false,false,false,false,false,false,false,false,false,false,false,false,false,false] kr rfl rfl ⟨(blk_cell BK104.out 0).trans rfl,(blk_cell BK104.out 1).trans rfl,(blk_cell BK104.out 2).trans rfl,(blk_cell BK104.out 3).trans rfl,(blk_cell BK104.out 4).trans rfl,(blk_cell BK105.out 0).trans rfl,(blk_cell BK105.out 1).trans rfl,(blk_cell BK105.out 2).trans rfl,(blk_cell BK105.out 3).trans rfl,(blk_cell BK105.out 4).trans rfl⟩ (fun hHeld => ?_);refine with_tabW ask_byFigure.tab1 ask_byFigure.bits1 (fun HT_ HW_ => ?_)
 generalize w10.drew=w11 at BK104 BK105 HB hHeld ⊢
 refine pS 0 (some 7) ?_
 refine pS 2 (some 9) ?_
 refine pS 5 (some 12) ?_
 refine pS 7 (some 14) ?_
 refine pS 10 (some 17) ?_
 refine pS 11 (some 18) ?_
 refine pS 13 (some 20) ?_
 refine pS 14 (some 21) ?_
 refine pS 17 (some 24) ?_
 refine pS 18 (some 25) ?_
 refine pS 20 (some 27) ?_
 refine pS 21 (some 28) ?_
 refine pS 24 (some 31) ?_
 refine pS 27 (some 34) ?_
 refine pT 1 (some 8) ?_
 refine pT 3 (some 10) ?_
 refine pT 6 (some 13) ?_
 refine pT 8 (some 15) ?_
 refine pT 12 (some 19) ?_
 refine pT 15 (some 22) ?_
 refine pT 19 (some 26) ?_
 refine pT 22 (some 29) ?_
 refine pT 25 (some 32) ?_
 refine pS 26 (some 33) ?_
 refine pT 28 (some 35) ?_
 refine pS 29 (some 36) ?_
 refine one_ (i:=4) (N:=some 11) #[true,true,true,true,true,true,true,true,true,false,true,true,true,true,true,true,false,true,true,true,true,true,true,false,true,true,true,true,true,true,false,false,false,false] rfl rfl (one_of HT_.out kr) (by decide) (fun K hK => ?_)
 refine goes_ Tryz.func82 kr rfl #[.int .i64 a0_0,.int .i64 a1_0] (by rfl) rfl rfl ag ?_
 with_reducible refine (cmp_Compare_int.calls a0_0 a1_0 t106 _ A3.out).mono ?_
 rintro e w' ⟨rfl,⟨nd,rfl⟩⟩
 refine ⟨_,rfl,?_⟩
 refine hK.out _ _ ⟨(blk_cell BK104.out 0).trans rfl,(blk_cell BK104.out 1).trans rfl,(blk_cell BK104.out 2).trans rfl,(blk_cell BK104.out 3).trans rfl,(blk_cell BK104.out 4).trans rfl,(blk_cell BK105.out 0).trans rfl,(blk_cell BK105.out 1).trans rfl,(blk_cell BK105.out 2).trans rfl,(blk_cell BK105.out 3).trans rfl,(blk_cell BK105.out 4).trans rfl⟩ (fun hHeld => ?_)
 clear hK K
 refine norm_ (a':=?_) ?_ ?_
 rotate_left
 ·
  show Act.put _ (some 11) _=_
  simp only [Act.put,List.setIfInBounds_toArray,List.set_cons_zero,List.set_cons_succ,i64_w,i32_w]
  rfl
 refine one_ (i:=9) (N:=some 16) #[true,true,true,true,true,true,true,true,true,true,true,true,true,true,true,true,false,true,true,true,true,true,true,false,true,true,true,true,true,true,false,false,false,false] rfl rfl (one_of HT_.out kr) (by decide) (fun K hK => ?_)
 refine goes_ Tryz.func82 kr rfl #[.int .i64 a0_1,.int .i64 a1_1] (by rfl) rfl rfl ag ?_
 with_reducible refine (cmp_Compare_int.calls a0_1 a1_1 t107 _ A4.out).mono ?_
 rintro e w' ⟨rfl,⟨nd,rfl⟩⟩
 refine ⟨_,rfl,?_⟩
 refine hK.out _ _ ⟨(blk_cell BK104.out 0).trans rfl,(blk_cell BK104.out 1).trans rfl,(blk_cell BK104.out 2).trans rfl,(blk_cell BK104.out 3).trans rfl,(blk_cell BK104.out 4).trans rfl,(blk_cell BK105.out 0).trans rfl,(blk_cell BK105.out 1).trans rfl,(blk_cell BK105.out 2).trans rfl,(blk_cell BK105.out 3).trans rfl,(blk_cell BK105.out 4).trans rfl⟩ (fun hHeld => ?_)
 clear hK K
 refine norm_ (a':=?_) ?_ ?_
 rotate_left
 ·
  show Act.put _ (some 16) _=_
  simp only [Act.put,List.setIfInBounds_toArray,List.set_cons_zero,List.set_cons_succ,i64_w,i32_w]
  rfl
 refine one_ (i:=16) (N:=some 23) #[true,true,true,true,true,true,true,true,true,true,true,true,true,true,true,true,true,true,true,true,true,true,true,false,true,true,true,true,true,true,false,false,false,false] rfl rfl (one_of HT_.out kr) (by decide) (fun K hK => ?_)
 refine goes_ Tryz.func82 kr rfl #[.int .i64 a0_3,.int .i64 a1_3] (by rfl) rfl rfl ag ?_
 with_reducible refine (cmp_Compare_int.calls a0_3 a1_3 t108 _ A5.out).mono ?_
 rintro e w' ⟨rfl,⟨nd,rfl⟩⟩
 refine ⟨_,rfl,?_⟩
 refine hK.out _ _ ⟨(blk_cell BK104.out 0).trans rfl,(blk_cell BK104.out 1).trans rfl,(blk_cell BK104.out 2).trans rfl,(blk_cell BK104.out 3).trans rfl,(blk_cell BK104.out 4).trans rfl,(blk_cell BK105.out 0).trans rfl,(blk_cell BK105.out 1).trans rfl,(blk_cell BK105.out 2).trans rfl,(blk_cell BK105.out 3).trans rfl,(blk_cell BK105.out 4).trans rfl⟩ (fun hHeld => ?_)
 clear hK K
 refine norm_ (a':=?_) ?_ ?_
 rotate_left
 ·
  show Act.put _ (some 23) _=_
  simp only [Act.put,List.setIfInBounds_toArray,List.set_cons_zero,List.set_cons_succ,i64_w,i32_w]
  rfl
 refine one_ (i:=23) (N:=some 30) #[true,true,true,true,true,true,true,true,true,true,true,true,true,true,true,true,true,true,true,true,true,true,true,true,true,true,true,true,true,true,false,false,false,false] rfl rfl (one_of HT_.out kr) (by decide) (fun K hK => ?_)
 refine goes_ Tryz.func82 kr rfl #[.int .i64 a0_4,.int .i64 a1_4] (by rfl) rfl rfl ag ?_
 with_reducible refine (cmp_Compare_int.calls a0_4 a1_4 t109 _ A6.out).mono ?_
 rintro e w' ⟨rfl,⟨nd,rfl⟩⟩
 refine ⟨_,rfl,?_⟩
 refine hK.out _ _ ⟨(blk_cell BK104.out 0).trans rfl,(blk_cell BK104.out 1).trans rfl,(blk_cell BK104.out 2).trans rfl,(blk_cell BK104.out 3).trans rfl,(blk_cell BK104.out 4).trans rfl,(blk_cell BK105.out 0).trans rfl,(blk_cell BK105.out 1).trans rfl,(blk_cell BK105.out 2).trans rfl,(blk_cell BK105.out 3).trans rfl,(blk_cell BK105.out 4).trans rfl⟩ (fun hHeld => ?_)
 clear hK K
 refine norm_ (a':=?_) ?_ ?_
 rotate_left
 ·
  show Act.put _ (some 30) _=_
  simp only [Act.put,List.setIfInBounds_toArray,List.set_cons_zero,List.set_cons_succ,i64_w,i32_w]
  rfl
 refine one_ (i:=30) (N:=some 37) #[true,true,true,true,true,true,true,true,true,true,true,true,true,true,true,true,true,true,true,true,true,true,true,true,true,true,true,true,true,true,true,false,false,false] rfl rfl (one_of HT_.out kr) (by decide) (fun K hK => ?_)
 refine goes_ Tryz.func82 kr rfl #[.int .i64 (l0_2.length:Int),.int .i64 (l1_2.length:Int)] (by rfl) rfl rfl ag ?_
 with_reducible refine (cmp_Compare_int.calls (l0_2.length:Int) (l1_2.length:Int) t110 _ A7.out).mono ?_
 rintro e w' ⟨rfl,⟨nd,rfl⟩⟩
 refine ⟨_,rfl,?_⟩
 refine hK.out _ _ ⟨(blk_cell BK104.out 0).trans rfl,(blk_cell BK104.out 1).trans rfl,(blk_cell BK104.out 2).trans rfl,(blk_cell BK104.out 3).trans rfl,(blk_cell BK104.out 4).trans rfl,(blk_cell BK105.out 0).trans rfl,(blk_cell BK105.out 1).trans rfl,(blk_cell BK105.out 2).trans rfl,(blk_cell BK105.out 3).trans rfl,(blk_cell BK105.out 4).trans rfl⟩ (fun hHeld => ?_)
 clear hK K
 refine norm_ (a':=?_) ?_ ?_
 rotate_left
 ·
  show Act.put _ (some 37) _=_
  simp only [Act.put,List.setIfInBounds_toArray,List.set_cons_zero,List.set_cons_succ,i64_w,i32_w]
  rfl
 refine one_ (i:=31) (N:=some 38) #[true,true,true,true,true,true,true,true,true,true,true,true,true,true,true,true,true,true,true,true,true,true,true,true,true,true,true,true,true,true,true,true,false,false] rfl rfl (one_of HT_.out kr) (by decide) (fun K hK => ?_)
 refine Kd.R_lit_step (Kd.int .i64) _ 3 ?hg (N:=38) ?hd (xs:=([t106,t107,t108,t109,t110]:List Int)) (inner:=[.int .i64 t106,.int .i64 t107,.int .i64 t108,.int .i64 t109,.int .i64 t110]) (ok:=fun _ => True) (okp:=fun _ => True) ?hr ?hp (fun _ hk => hk) trivial (Below.refl _ _) (Nat.le_refl _) (by simp) ?_;(case hd => rfl);(case hg => rfl);(case hr => first | (go_simp;done) | (go_simp;rfl));(case hp => exact (Reps.one (show Kd.M (Kd.int .i64) _ _ _ t106 [.int .i64 t106] from rfl) (Reps.one (show Kd.M (Kd.int .i64) _ _ _ t107 [.int .i64 t107] from rfl) (Reps.one (show Kd.M (Kd.int .i64) _ _ _ t108 [.int .i64 t108] from rfl) (Reps.one (show Kd.M (Kd.int .i64) _ _ _ t109 [.int .i64 t109] from rfl) (Reps.one (show Kd.M (Kd.int .i64) _ _ _ t110 [.int .i64 t110] from rfl) (Reps.none _ _)))))))
 intro v112 w12 ho13 hb hg_ hnew_
 clear hg_ hnew_
 (first | rw [← Ny111.out] at ho13 | (simp only [Int.reduceToNat] at ho13;rw [← Ny111.out] at ho13))
 have n0_:=ak (Kd.R_lower ho13 (below_size bx))
 have n1_:=bB BK104 hb
 have n2_:=bB BK105 hb
 have n3_:=ak (below_step bx hb)
 clear BK104
 clear BK105
 clear HB
 have HO113:=n0_
 have BK104:=n1_
 have BK105:=n2_
 have HB:=n3_
 clear n0_ n1_ n2_ n3_
 clear hb ho13
 obtain ⟨Ao14,co14,eo14⟩:=Kd.R_slice HO113.out
 (first | subst eo14 | (injection eo14 with f1_ f2_ f3_;have f4_:=f1_.symm;have f5_:=f3_.symm;clear f1_ f2_ f3_;subst f4_;subst f5_))
 refine hK.out _ _ ⟨(blk_cell BK104.out 0).trans rfl,(blk_cell BK104.out 1).trans rfl,(blk_cell BK104.out 2).trans rfl,(blk_cell BK104.out 3).trans rfl,(blk_cell BK104.out 4).trans rfl,(blk_cell BK105.out 0).trans rfl,(blk_cell BK105.out 1).trans rfl,(blk_cell BK105.out 2).trans rfl,(blk_cell BK105.out 3).trans rfl,(blk_cell BK105.out 4).trans rfl⟩ (fun hHeld => ?_)
 clear hK K
 refine norm_ (a':=?_) ?_ ?_
 rotate_left
 ·
  show Act.put _ (some 38) _=_
  simp only [Act.put,List.setIfInBounds_toArray,List.set_cons_zero,List.set_cons_succ,i64_w,i32_w]
  rfl
 refine one_ (i:=32) (N:=some 39) #[true,true,true,true,true,true,true,true,true,true,true,true,true,true,true,true,true,true,true,true,true,true,true,true,true,true,true,true,true,true,true,true,true,false] rfl rfl (one_of HT_.out kr) (by decide) (fun K hK => ?_)
 refine goes_ Tryz.func81 kr rfl #[.slice Ao14 y111.length co14] (by rfl) rfl rfl ag ?_
 with_reducible refine (cmp_Or_int.calls k _ _ y111 t114 _ ?side1 ?side2 A8.out).mono ?_
 (case side1 => repeat (first | exact (Kd.R_reads' HO113.out).2.2 | (with_reducible refine Kd.C_alloc ?_ _) | (with_reducible refine Kd.C_drewN ?_ _) | (with_reducible refine Kd.C_drew ?_)))
 (case side2 => exact (Kd.R_reads' HO113.out).2.1)
 rintro e w' ⟨rfl,⟨nd,rfl⟩⟩
 refine ⟨_,rfl,?_⟩
 refine hK.out _ _ ⟨(blk_cell BK104.out 0).trans rfl,(blk_cell BK104.out 1).trans rfl,(blk_cell BK104.out 2).trans rfl,(blk_cell BK104.out 3).trans rfl,(blk_cell BK104.out 4).trans rfl,(blk_cell BK105.out 0).trans rfl,(blk_cell BK105.out 1).trans rfl,(blk_cell BK105.out 2).trans rfl,(blk_cell BK105.out 3).trans rfl,(blk_cell BK105.out 4).trans rfl⟩ (fun hHeld => ?_)
 clear hK K
 refine norm_ (a':=?_) ?_ ?_
 rotate_left
 ·
  show Act.put _ (some 39) _=_
  simp only [Act.put,List.setIfInBounds_toArray,List.set_cons_zero,List.set_cons_succ,i64_w,i32_w]
  rfl
 refine pS 33 (some 5) ?_
 refine done_ (done_of HT_.out kr) ?_
 try go_wp2
 go_loopg [5,6] k (fun kq v5 v6 w' => ∃ (x5_1:Int) (x6_1:Int),v5=.int .i64 x5_1∧v6=.int .i64 x6_1∧Aside0 (ask_byFigure.l0 kq x5_1 x6_1 a0_0 a0_1 l0_2 a0_3 a0_4 a1_0 a1_1 l1_2 a1_3 a1_4=some r)∧Aside0 (kq ≤ k)∧Aside0 (w'.heap[gb104]?=some (.cells #[.int .i64 a0_0,.int .i64 a0_1,(.slice A0_2 l0_2.length c0_2),.int .i64 a0_3,.int .i64 a0_4] 45 (0,0)))∧Aside0 (w'.heap[gb105]?=some (.cells #[.int .i64 a1_0,.int .i64 a1_1,(.slice A1_2 l1_2.length c1_2),.int .i64 a1_3,.int .i64 a1_4] 45 (0,0)))∧Aside0 (Below w.heap.size w w'))
 case atStart => exact ⟨(t114),(0),rf,rf,H',⟨Nat.le_refl _⟩,⟨bk BK104⟩,⟨bk BK105⟩,⟨bx⟩⟩
 case round =>
  clear H'
  try clear c1
  try clear p2
  try clear c4
  try clear c8
  obtain ⟨x5_1,x6_1,rfl,rfl,HA,HK1,BK104,BK105,HB⟩:=hrel
  cases gk with
  | zero => exact absurd HA.out (by simp [ask_byFigure.l0])
  | succ k1 =>
   have H:=HA.out
   clear HA
   simp only [ask_byFigure.l0] at H
   have HC15:=ak H
   clear H
   go_upto_region 3 with (fail)
   go_cut [48] (fun v48 wc => ∃ (kq:Nat) (x48_14:Bool),v48=.bool x48_14∧Aside0 (ask_byFigure.j1 kq x5_1 x6_1 x48_14 a0_0 a0_1 l0_2 a0_3 a0_4 a1_0 a1_1 l1_2 a1_3 a1_4=some r)∧Aside0 (kq ≤ k1)∧Aside0 (wc.heap[gb104]?=some (.cells #[.int .i64 a0_0,.int .i64 a0_1,(.slice A0_2 l0_2.length c0_2),.int .i64 a0_3,.int .i64 a0_4] 45 (0,0)))∧Aside0 (wc.heap[gb105]?=some (.cells #[.int .i64 a1_0,.int .i64 a1_1,(.slice A1_2 l1_2.length c1_2),.int .i64 a1_3,.int .i64 a1_4] 45 (0,0)))∧Aside0 (Below w.heap.size w wc))
   case first =>
    have H:=HC15.out
    clear HC15
    by_cases c16:x5_1=0
    ·
     rw [if_pos c16] at H
     have c16b0:(x5_1 == 0)=true:=beq_iff_eq.mpr c16
     have c16b1:(x5_1 != 0)=false:=bne_eq_false_iff_eq.mpr c16
     clear c16
     (first | rw [c16b0] | (simp only [i64_w,i32_w];rw [c16b0]) | skip)
     have H':=ak H
     clear H
     have hnb17:=NB104_105.out
     have hnc17:=NB105_104.out
     obtain ⟨hcz18_0,hcz18_1,hcz18_2,hcz18_3,hcz18_4,hfz18_0,hfz18_1,hfz18_2,hfz18_3,hfz18_4⟩:=cb5 BK104.out
     go_wp2
     go_meet
     case rel => exact ⟨_,(decide (x6_1 < (l0_2.length:Int))),rf,H',⟨by have:=HK1.out;first | omega | exact Nat.le_refl _⟩,⟨bk BK104⟩,⟨bk BK105⟩,⟨bx⟩⟩
    ·
     rw [if_neg c16] at H
     have c16b0:(x5_1 == 0)=false:=beq_eq_false_iff_ne.mpr c16
     have c16b1:(x5_1 != 0)=true:=bne_iff_ne.mpr c16
     (first | rw [c16b0] | (simp only [i64_w,i32_w];rw [c16b0]) | skip)
     have H':=ak H
     clear H
     go_wp2
     go_meet
     case rel => exact ⟨_,(false),rf,H',⟨by have:=HK1.out;first | omega | exact Nat.le_refl _⟩,⟨bk BK104⟩,⟨bk BK105⟩,⟨bx⟩⟩
   case rest =>
    clear HC15
    try clear c1
    try clear p2 p2
    try clear c4
    try clear c8
    try clear c16
    try clear c16b0
    try clear c16b1
    try clear c17
    try clear hcz18_0 hcz18_1 hcz18_2 hcz18_3 hcz18_4 hfz18_0 hfz18_1 hfz18_2 hfz18_3 hfz18_4
    obtain ⟨kq,x48_14,rfl,HA,HJ14,BK104,BK105,HB⟩:=hcut
    cases kq with
    | zero => exact absurd HA.out (by simp [ask_byFigure.j1])
    | succ kj14 =>
     have H:=HA.out
     clear HA
     simp only [ask_byFigure.j1] at H
     by_cases c19:x48_14=true
     ·
      subst c19
      have H1:(if 0 ≤ x6_1 then (if x6_1 < (l0_2.length:Int) then (if x6_1 < (l1_2.length:Int) then ((cmp_Compare_int.f ((rd_T95 l0_2 x6_1).f0) ((rd_T95 l1_2 x6_1).f0)).bind fun t117 => ((cmp_Compare_int.f ((rd_T95 l0_2 x6_1).f1) ((rd_T95 l1_2 x6_1).f1)).bind fun t120 => ((cmp_Or_int.f kj14 (([t117,t120]:List Int))).bind fun t124 => (ask_byFigure.l0 kj14 t124 (wrap64 (x6_1 + 1)) a0_0 a0_1 l0_2 a0_3 a0_4 a1_0 a1_1 l1_2 a1_3 a1_4)))) else (none)) else (none)) else (none))=some r:=by rw [if_pos rfl] at H;exact H
      clear H
      have H:=H1
      clear H1
      by_cases c20:0 ≤ x6_1
      ·
       rw [if_pos c20] at H
       have c20b0:decide (0 ≤ x6_1)=true:=decide_eq_true c20
       clear c20
       by_cases c21:x6_1 < (l0_2.length:Int)
       ·
        rw [if_pos c21] at H
        have c21b0:decide (x6_1 < (l0_2.length:Int))=true:=decide_eq_true c21
        clear c21
        by_cases c22:x6_1 < (l1_2.length:Int)
        ·
         rw [if_pos c22] at H
         have c22b0:decide (x6_1 < (l1_2.length:Int))=true:=decide_eq_true c22
         clear c22
         replace H:=Option.bind_eq_some_iff.mp H
         obtain ⟨t117,A230,H⟩:=H
         replace H:((cmp_Compare_int.f ((rd_T95 l0_2 x6_1).f1) ((rd_T95 l1_2 x6_1).f1)).bind fun t120 => ((cmp_Or_int.f kj14 (([t117,t120]:List Int))).bind fun t124 => (ask_byFigure.l0 kj14 t124 (wrap64 (x6_1 + 1)) a0_0 a0_1 l0_2 a0_3 a0_4 a1_0 a1_1 l1_2 a1_3 a1_4)))=some r:=H
         have A23:=ak A230
         clear A230
         replace H:=Option.bind_eq_some_iff.mp H
         obtain ⟨t120,A240,H⟩:=H
         replace H:((cmp_Or_int.f kj14 (([t117,t120]:List Int))).bind fun t124 => (ask_byFigure.l0 kj14 t124 (wrap64 (x6_1 + 1)) a0_0 a0_1 l0_2 a0_3 a0_4 a1_0 a1_1 l1_2 a1_3 a1_4))=some r:=H
         have A24:=ak A240
         clear A240
         obtain ⟨y121,hy121⟩:∃ y_:List Int,y_=(([t117,t120]:List Int)):=⟨_,rfl⟩
         replace H:((cmp_Or_int.f kj14 y121).bind fun t124 => (ask_byFigure.l0 kj14 t124 (wrap64 (x6_1 + 1)) a0_0 a0_1 l0_2 a0_3 a0_4 a1_0 a1_1 l1_2 a1_3 a1_4))=some r:=by first | (rw [hy121];with_reducible exact H) | (have H2_:=(Option.bind_some _ _).symm.trans H;rw [hy121];with_reducible exact H2_) | (have H2_:=(Option.bind_some _ _).symm.trans H;with_reducible exact H2_) | with_reducible exact H | (rw [hy121];exact H) | exact H
         have Ny121:=ak hy121
         clear hy121
         replace H:=Option.bind_eq_some_iff.mp H
         obtain ⟨t124,A250,H⟩:=H
         replace H:(ask_byFigure.l0 kj14 t124 (wrap64 (x6_1 + 1)) a0_0 a0_1 l0_2 a0_3 a0_4 a1_0 a1_1 l1_2 a1_3 a1_4)=some r:=H
         have A25:=ak A250
         clear A250
         have H':=ak H
         clear H
         try go_wp2
         have n0_:=ak (blk_drew BK104.out)
         have n1_:=ak (blk_drew BK105.out)
         have n2_:=ak (below_drew1 HB.out)
         clear BK104
         clear BK105
         clear HB
         have BK104:=n0_
         have BK105:=n1_
         have HB:=n2_
         clear n0_ n1_ n2_
         have p115:0 ≤ (x6_1:Int):=of_decide_eq_true asm
         have q115:x6_1 < (l0_2.length:Int):=of_decide_eq_true asm
         obtain ⟨ad115,e115,hx115_0,hx115_1⟩:=at_T95 HR0_2.out x6_1 p115 q115
         have hw115_1:=hx115_1
         have hw115_0:=hx115_0
         cases e115
         replace hx115_0:=(HB.out.cell (World.block_lt_of_cell? w _ hx115_0)).trans hx115_0
         replace hx115_1:=(HB.out.cell (World.block_lt_of_cell? w _ hx115_1)).trans hx115_1
         replace p115:=eq_true p115
         replace q115:=eq_true q115
         have p116:0 ≤ (x6_1:Int):=of_decide_eq_true asm
         have q116:x6_1 < (l1_2.length:Int):=of_decide_eq_true asm
         obtain ⟨ad116,e116,hx116_0,hx116_1⟩:=at_T95 HR1_2.out x6_1 p116 q116
         have hw116_1:=hx116_1
         have hw116_0:=hx116_0
         cases e116
         replace hx116_0:=(HB.out.cell (World.block_lt_of_cell? w _ hx116_0)).trans hx116_0
         replace hx116_1:=(HB.out.cell (World.block_lt_of_cell? w _ hx116_1)).trans hx116_1
         replace p116:=eq_true p116
         replace q116:=eq_true q116
         have p118:0 ≤ (x6_1:Int):=of_decide_eq_true asm
         have q118:x6_1 < (l0_2.length:Int):=of_decide_eq_true asm
         obtain ⟨ad118,e118,hx118_0,hx118_1⟩:=at_T95 HR0_2.out x6_1 p118 q118
         have hw118_1:=hx118_1
         have hw118_0:=hx118_0
         obtain rfl:ad115=ad118:=(by injection e118)
         replace hx118_0:=(HB.out.cell (World.block_lt_of_cell? w _ hx118_0)).trans hx118_0
         replace hx118_1:=(HB.out.cell (World.block_lt_of_cell? w _ hx118_1)).trans hx118_1
         replace p118:=eq_true p118
         replace q118:=eq_true q118
         have p119:0 ≤ (x6_1:Int):=of_decide_eq_true asm
         have q119:x6_1 < (l1_2.length:Int):=of_decide_eq_true asm
         obtain ⟨ad119,e119,hx119_0,hx119_1⟩:=at_T95 HR1_2.out x6_1 p119 q119
         have hw119_1:=hx119_1
         have hw119_0:=hx119_0
         obtain rfl:ad116=ad119:=(by injection e119)
         replace hx119_0:=(HB.out.cell (World.block_lt_of_cell? w _ hx119_0)).trans hx119_0
         replace hx119_1:=(HB.out.cell (World.block_lt_of_cell? w _ hx119_1)).trans hx119_1
         replace p119:=eq_true p119
         replace q119:=eq_true q119
         refine start_ (n:=29) (S:=fun w' => w'.cell? ⟨gb104,0,none⟩=some (.int .i64 a0_0)∧w'.cell? ⟨gb104,1,none⟩=some (.int .i64 a0_1)∧w'.cell? ⟨gb104,2,none⟩=some (.slice (some ad115) l0_2.length c0_2)∧w'.cell? ⟨gb104,3,none⟩=some (.int .i64 a0_3)∧w'.cell? ⟨gb104,4,none⟩=some (.int .i64 a0_4)∧w'.cell? ⟨gb105,0,none⟩=some (.int .i64 a1_0)∧w'.cell? ⟨gb105,1,none⟩=some (.int .i64 a1_1)∧w'.cell? ⟨gb105,2,none⟩=some (.slice (some ad116) l1_2.length c1_2)∧w'.cell? ⟨gb105,3,none⟩=some (.int .i64 a1_3)∧w'.cell? ⟨gb105,4,none⟩=some (.int .i64 a1_4)∧w'.cell? (ad115.add ((x6_1).toNat * 2))=some (.int .i64 ((rd_T95 l0_2 x6_1).f0))∧w'.cell? ⟨(ad115.add ((x6_1).toNat * 2)).block,(ad115.add ((x6_1).toNat * 2)).off + 1,none⟩=some (.int .i64 ((rd_T95 l0_2 x6_1).f1))∧w'.cell? (ad116.add ((x6_1).toNat * 2))=some (.int .i64 ((rd_T95 l1_2 x6_1).f0))∧w'.cell? ⟨(ad116.add ((x6_1).toNat * 2)).block,(ad116.add ((x6_1).toNat * 2)).off + 1,none⟩=some (.int .i64 ((rd_T95 l1_2 x6_1).f1))∧w'.cell? (ad115.add ((x6_1).toNat * 2))=some (.int .i64 ((rd_T95 l0_2 x6_1).f0))∧w'.cell? ⟨(ad115.add ((x6_1).toNat * 2)).block,(ad115.add ((x6_1).toNat * 2)).off + 1,none⟩=some (.int .i64 ((rd_T95 l0_2 x6_1).f1))∧w'.cell? (ad116.add ((x6_1).toNat * 2))=some (.int .i64 ((rd_T95 l1_2 x6_1).f0))∧w'.cell? ⟨(ad116.add ((x6_1).toNat * 2)).block,(ad116.add ((x6_1).toNat * 2)).off + 1,none⟩=some (.int .i64 ((rd_T95 l1_2 x6_1).f1))) (ds:=[]) #[false,false,false,false,false,false,false,false,false,false,false,false,false,false,false,false,false,false,false,false,false,false,false,false,false,false,false,false,false] kr rfl rfl ⟨(blk_cell BK104.out 0).trans rfl,(blk_cell BK104.out 1).trans rfl,(blk_cell BK104.out 2).trans rfl,(blk_cell BK104.out 3).trans rfl,(blk_cell BK104.out 4).trans rfl,(blk_cell BK105.out 0).trans rfl,(blk_cell BK105.out 1).trans rfl,(blk_cell BK105.out 2).trans rfl,(blk_cell BK105.out 3).trans rfl,(blk_cell BK105.out 4).trans rfl,((HB.out.cell (World.block_lt_of_cell? w _ hw115_0)).trans hw115_0),((HB.out.cell (World.block_lt_of_cell? w _ hw115_1)).trans hw115_1),((HB.out.cell (World.block_lt_of_cell? w _ hw116_0)).trans hw116_0),((HB.out.cell (World.block_lt_of_cell? w _ hw116_1)).trans hw116_1),((HB.out.cell (World.block_lt_of_cell? w _ hw118_0)).trans hw118_0),((HB.out.cell (World.block_lt_of_cell? w _ hw118_1)).trans hw118_1),((HB.out.cell (World.block_lt_of_cell? w _ hw119_0)).trans hw119_0),((HB.out.cell (World.block_lt_of_cell? w _ hw119_1)).trans hw119_1)⟩ (fun hHeld => ?_);refine with_tabW ask_byFigure.tab5 ask_byFigure.bits5 (fun HT_ HW_ => ?_)
         generalize wc.drew=w26 at BK104 BK105 HB hx115_0 hx115_1 hx116_0 hx116_1 hx118_0 hx118_1 hx119_0 hx119_1 hHeld ⊢
         refine pS 0 (some 51) ?_
         refine pS 2 (some 53) ?_
         refine pS 6 (some 57) ?_
         refine pS 8 (some 59) ?_
         refine pS 13 (some 64) ?_
         refine pS 15 (some 66) ?_
         refine pS 19 (some 70) ?_
         refine pS 21 (some 72) ?_
         refine pT 1 (some 52) ?_
         refine pS 3 (some 54) ?_
         refine pS 4 (some 55) ?_
         refine pT 5 (some 56) ?_
         refine pT 7 (some 58) ?_
         refine pS 9 (some 60) ?_
         refine pS 10 (some 61) ?_
         refine pT 11 (some 62) ?_
         refine pT 14 (some 65) ?_
         refine pS 16 (some 67) ?_
         refine pS 17 (some 68) ?_
         refine pT 18 (some 69) ?_
         refine pT 20 (some 71) ?_
         refine pS 22 (some 73) ?_
         refine pS 23 (some 74) ?_
         refine pT 24 (some 75) ?_
         refine one_ (i:=12) (N:=some 63) #[true,true,true,true,true,true,true,true,true,true,true,true,true,true,true,true,true,true,true,true,true,true,true,true,true,false,false,false,false] rfl rfl (one_of HT_.out kr) (by decide) (fun K hK => ?_)
         refine goes_ Tryz.func82 kr rfl #[.int .i64 ((rd_T95 l0_2 x6_1).f0),.int .i64 ((rd_T95 l1_2 x6_1).f0)] (by rfl) rfl rfl ag ?_
         with_reducible refine (cmp_Compare_int.calls ((rd_T95 l0_2 x6_1).f0) ((rd_T95 l1_2 x6_1).f0) t117 _ A23.out).mono ?_
         rintro e w' ⟨rfl,⟨nd,rfl⟩⟩
         refine ⟨_,rfl,?_⟩
         refine hK.out _ _ ⟨(blk_cell BK104.out 0).trans rfl,(blk_cell BK104.out 1).trans rfl,(blk_cell BK104.out 2).trans rfl,(blk_cell BK104.out 3).trans rfl,(blk_cell BK104.out 4).trans rfl,(blk_cell BK105.out 0).trans rfl,(blk_cell BK105.out 1).trans rfl,(blk_cell BK105.out 2).trans rfl,(blk_cell BK105.out 3).trans rfl,(blk_cell BK105.out 4).trans rfl,((HB.out.cell (World.block_lt_of_cell? w _ hw115_0)).trans hw115_0),((HB.out.cell (World.block_lt_of_cell? w _ hw115_1)).trans hw115_1),((HB.out.cell (World.block_lt_of_cell? w _ hw116_0)).trans hw116_0),((HB.out.cell (World.block_lt_of_cell? w _ hw116_1)).trans hw116_1),((HB.out.cell (World.block_lt_of_cell? w _ hw118_0)).trans hw118_0),((HB.out.cell (World.block_lt_of_cell? w _ hw118_1)).trans hw118_1),((HB.out.cell (World.block_lt_of_cell? w _ hw119_0)).trans hw119_0),((HB.out.cell (World.block_lt_of_cell? w _ hw119_1)).trans hw119_1)⟩ (fun hHeld => ?_)
         clear hK K
         refine norm_ (a':=?_) ?_ ?_
         rotate_left
         ·
          show Act.put _ (some 63) _=_
          simp only [Act.put,List.setIfInBounds_toArray,List.set_cons_zero,List.set_cons_succ,i64_w,i32_w]
          rfl
         refine one_ (i:=25) (N:=some 76) #[true,true,true,true,true,true,true,true,true,true,true,true,true,true,true,true,true,true,true,true,true,true,true,true,true,true,false,false,false] rfl rfl (one_of HT_.out kr) (by decide) (fun K hK => ?_)
         refine goes_ Tryz.func82 kr rfl #[.int .i64 ((rd_T95 l0_2 x6_1).f1),.int .i64 ((rd_T95 l1_2 x6_1).f1)] (by rfl) rfl rfl ag ?_
         with_reducible refine (cmp_Compare_int.calls ((rd_T95 l0_2 x6_1).f1) ((rd_T95 l1_2 x6_1).f1) t120 _ A24.out).mono ?_
         rintro e w' ⟨rfl,⟨nd,rfl⟩⟩
         refine ⟨_,rfl,?_⟩
         refine hK.out _ _ ⟨(blk_cell BK104.out 0).trans rfl,(blk_cell BK104.out 1).trans rfl,(blk_cell BK104.out 2).trans rfl,(blk_cell BK104.out 3).trans rfl,(blk_cell BK104.out 4).trans rfl,(blk_cell BK105.out 0).trans rfl,(blk_cell BK105.out 1).trans rfl,(blk_cell BK105.out 2).trans rfl,(blk_cell BK105.out 3).trans rfl,(blk_cell BK105.out 4).trans rfl,((HB.out.cell (World.block_lt_of_cell? w _ hw115_0)).trans hw115_0),((HB.out.cell (World.block_lt_of_cell? w _ hw115_1)).trans hw115_1),((HB.out.cell (World.block_lt_of_cell? w _ hw116_0)).trans hw116_0),((HB.out.cell (World.block_lt_of_cell? w _ hw116_1)).trans hw116_1),((HB.out.cell (World.block_lt_of_cell? w _ hw118_0)).trans hw118_0),((HB.out.cell (World.block_lt_of_cell? w _ hw118_1)).trans hw118_1),((HB.out.cell (World.block_lt_of_cell? w _ hw119_0)).trans hw119_0),((HB.out.cell (World.block_lt_of_cell? w _ hw119_1)).trans hw119_1)⟩ (fun hHeld => ?_)
         clear hK K
         refine norm_ (a':=?_) ?_ ?_
         rotate_left
         ·
          show Act.put _ (some 76) _=_
          simp only [Act.put,List.setIfInBounds_toArray,List.set_cons_zero,List.set_cons_succ,i64_w,i32_w]
          rfl
         refine one_ (i:=26) (N:=some 77) #[true,true,true,true,true,true,true,true,true,true,true,true,true,true,true,true,true,true,true,true,true,true,true,true,true,true,true,false,false] rfl rfl (one_of HT_.out kr) (by decide) (fun K hK => ?_)
         refine Kd.R_lit_step (Kd.int .i64) _ 3 ?hg (N:=77) ?hd (xs:=([t117,t120]:List Int)) (inner:=[.int .i64 t117,.int .i64 t120]) (ok:=fun _ => True) (okp:=fun _ => True) ?hr ?hp (fun _ hk => hk) trivial (Below.refl _ _) (Nat.le_refl _) (by simp) ?_;(case hd => rfl);(case hg => rfl);(case hr => first | (go_simp;done) | (go_simp;rfl));(case hp => exact (Reps.one (show Kd.M (Kd.int .i64) _ _ _ t117 [.int .i64 t117] from rfl) (Reps.one (show Kd.M (Kd.int .i64) _ _ _ t120 [.int .i64 t120] from rfl) (Reps.none _ _))))
         intro v122 w27 ho28 hb hg_ hnew_
         clear hg_ hnew_
         (first | rw [← Ny121.out] at ho28 | (simp only [Int.reduceToNat] at ho28;rw [← Ny121.out] at ho28))
         have n0_:=ak (Kd.R_lower ho28 (below_size bx))
         have n1_:=bB BK104 hb
         have n2_:=bB BK105 hb
         have n3_:=ak (below_step bx hb)
         clear BK104
         clear BK105
         clear HB
         have HO123:=n0_
         have BK104:=n1_
         have BK105:=n2_
         have HB:=n3_
         clear n0_ n1_ n2_ n3_
         clear hb ho28
         obtain ⟨Ao29,co29,eo29⟩:=Kd.R_slice HO123.out
         (first | subst eo29 | (injection eo29 with f1_ f2_ f3_;have f4_:=f1_.symm;have f5_:=f3_.symm;clear f1_ f2_ f3_;subst f4_;subst f5_))
         refine hK.out _ _ ⟨(blk_cell BK104.out 0).trans rfl,(blk_cell BK104.out 1).trans rfl,(blk_cell BK104.out 2).trans rfl,(blk_cell BK104.out 3).trans rfl,(blk_cell BK104.out 4).trans rfl,(blk_cell BK105.out 0).trans rfl,(blk_cell BK105.out 1).trans rfl,(blk_cell BK105.out 2).trans rfl,(blk_cell BK105.out 3).trans rfl,(blk_cell BK105.out 4).trans rfl,((HB.out.cell (World.block_lt_of_cell? w _ hw115_0)).trans hw115_0),((HB.out.cell (World.block_lt_of_cell? w _ hw115_1)).trans hw115_1),((HB.out.cell (World.block_lt_of_cell? w _ hw116_0)).trans hw116_0),((HB.out.cell (World.block_lt_of_cell? w _ hw116_1)).trans hw116_1),((HB.out.cell (World.block_lt_of_cell? w _ hw118_0)).trans hw118_0),((HB.out.cell (World.block_lt_of_cell? w _ hw118_1)).trans hw118_1),((HB.out.cell (World.block_lt_of_cell? w _ hw119_0)).trans hw119_0),((HB.out.cell (World.block_lt_of_cell? w _ hw119_1)).trans hw119_1)⟩ (fun hHeld => ?_)
         clear hK K
         refine norm_ (a':=?_) ?_ ?_
         rotate_left
         ·
          show Act.put _ (some 77) _=_
          simp only [Act.put,List.setIfInBounds_toArray,List.set_cons_zero,List.set_cons_succ,i64_w,i32_w]
          rfl
         refine one_ (i:=27) (N:=some 78) #[true,true,true,true,true,true,true,true,true,true,true,true,true,true,true,true,true,true,true,true,true,true,true,true,true,true,true,true,false] rfl rfl (one_of HT_.out kr) (by decide) (fun K hK => ?_)
         refine goes_ Tryz.func81 kr rfl #[.slice Ao29 y121.length co29] (by rfl) rfl rfl ag ?_
         with_reducible refine (cmp_Or_int.calls kj14 _ _ y121 t124 _ ?side1 ?side2 A25.out).mono ?_
         (case side1 => repeat (first | exact (Kd.R_reads' HO123.out).2.2 | (with_reducible refine Kd.C_alloc ?_ _) | (with_reducible refine Kd.C_drewN ?_ _) | (with_reducible refine Kd.C_drew ?_)))
         (case side2 => exact (Kd.R_reads' HO123.out).2.1)
         rintro e w' ⟨rfl,⟨nd,rfl⟩⟩
         refine ⟨_,rfl,?_⟩
         refine hK.out _ _ ⟨(blk_cell BK104.out 0).trans rfl,(blk_cell BK104.out 1).trans rfl,(blk_cell BK104.out 2).trans rfl,(blk_cell BK104.out 3).trans rfl,(blk_cell BK104.out 4).trans rfl,(blk_cell BK105.out 0).trans rfl,(blk_cell BK105.out 1).trans rfl,(blk_cell BK105.out 2).trans rfl,(blk_cell BK105.out 3).trans rfl,(blk_cell BK105.out 4).trans rfl,((HB.out.cell (World.block_lt_of_cell? w _ hw115_0)).trans hw115_0),((HB.out.cell (World.block_lt_of_cell? w _ hw115_1)).trans hw115_1),((HB.out.cell (World.block_lt_of_cell? w _ hw116_0)).trans hw116_0),((HB.out.cell (World.block_lt_of_cell? w _ hw116_1)).trans hw116_1),((HB.out.cell (World.block_lt_of_cell? w _ hw118_0)).trans hw118_0),((HB.out.cell (World.block_lt_of_cell? w _ hw118_1)).trans hw118_1),((HB.out.cell (World.block_lt_of_cell? w _ hw119_0)).trans hw119_0),((HB.out.cell (World.block_lt_of_cell? w _ hw119_1)).trans hw119_1)⟩ (fun hHeld => ?_)
         clear hK K
         refine norm_ (a':=?_) ?_ ?_
         rotate_left
         ·
          show Act.put _ (some 78) _=_
          simp only [Act.put,List.setIfInBounds_toArray,List.set_cons_zero,List.set_cons_succ,i64_w,i32_w]
          rfl
         refine pS 28 (some 5) ?_
         refine done_ (done_of HT_.out kr) ?_
         try go_wp2
         go_roundg kj14
         case measure => have:=HK1.out;have:=HJ14.out;omega
         case rel => exact ⟨(t124),(wrap64 (x6_1 + 1)),rf,rf,H',⟨by have:=HK1.out;have:=HJ14.out;omega⟩,⟨bk BK104⟩,⟨bk BK105⟩,⟨bx⟩⟩
        ·
         rw [if_neg c22] at H
         exact absurd H (by simp)
       ·
        rw [if_neg c21] at H
        exact absurd H (by simp)
      ·
       rw [if_neg c20] at H
       exact absurd H (by simp)
     ·
      replace c19:=Bool.eq_false_iff.mpr c19
      subst c19
      have H1:(some x5_1)=some r:=by rw [if_neg (show ¬ (false=true) by decide)] at H;exact H
      clear H
      have H:=H1
      clear H1
      obtain rfl:=Option.some.inj H
      go_wp2
      go_ret
      exact ⟨by first | rfl | (simp [errW_none,errW_some] <;> rfl) | (simp [*,errW_none,errW_some] <;> rfl),bx⟩
end Go.Proofs.YtkemjdedikobfaaGreatDoor.PFx
namespace Go.Proofs.YtkemjdedikobfaaGreatDoor.PFx
open Go.Proofs.YtkemjdedikobfaaGreatDoor.Sh
open Go.RowKit Go.Proofs.YtkemjdedikobfaaGreatDoorW.PrintWords Go.Proofs.YtkemjdedikobfaaGreatDoorW.PrintLast Go.Proofs.YtkemjdedikobfaaGreatDoorW.PrintMore
attribute [local go_sem] max2_int min2_int max_two min_two max_three min_three max_four min_four   -- for this text's walks alone
set_option linter.unusedVariables false
set_option linter.unusedSimpArgs false
def ask_normal_1.f (k:Nat) (a0_0:Int) (a0_1:Int) (a0_2:Int) (l0_3:List (S95)) (a0_4:Int) (a0_5:Int) (a1_0:Int) (a1_1:Int) (a1_2:Int) (l1_3:List (S95)) (a1_4:Int) (a1_5:Int):Option (Int):=(ask_byFigure.f k a0_1 a0_2 l0_3 a0_4 a0_5 a1_1 a1_2 l1_3 a1_4 a1_5).bind fun t127 => (some t127)
set_option maxHeartbeats 8000000 in
set_option maxRecDepth 100000 in
theorem ask_normal_1.calls (k:Nat) (a0_0:Int) (a0_1:Int) (a0_2:Int) (A0_3:Option Addr) (c0_3:Nat) (l0_3:List (S95)) (a0_4:Int) (a0_5:Int) (a1_0:Int) (a1_1:Int) (a1_2:Int) (A1_3:Option Addr) (c1_3:Nat) (l1_3:List (S95)) (a1_4:Int) (a1_5:Int) (r:Int) (w:World) (hr0_3:Kd.C k95 w A0_3 l0_3.length l0_3) (hc0_3:l0_3.length ≤ c0_3) (hr1_3:Kd.C k95 w A1_3 l1_3.length l1_3) (hc1_3:l1_3.length ≤ c1_3) (h:ask_normal_1.f k a0_0 a0_1 a0_2 l0_3 a0_4 a0_5 a1_0 a1_1 a1_2 l1_3 a1_4 a1_5=some r) :
  Calls Tryz.prog 46 #[.agg #[.int .i64 a0_0,.int .i64 a0_1,.int .i64 a0_2,.slice A0_3 l0_3.length c0_3,.int .i64 a0_4,.int .i64 a0_5],.agg #[.int .i64 a1_0,.int .i64 a1_1,.int .i64 a1_2,.slice A1_3 l1_3.length c1_3,.int .i64 a1_4,.int .i64 a1_5]] w fun e w' => e=.returned (.int .i64 r)∧Below w.heap.size w w':=by
 have hu47:=Tryz.underlying47
 have hu45:=Tryz.underlying45
 have HR0_3:=ak hr0_3
 have HC0_3:=ak hc0_3
 clear hr0_3 hc0_3
 have HR1_3:=ak hr1_3
 have HC1_3:=ak hc1_3
 clear hr1_3 hc1_3
 have HB:=ak (Below.refl w.heap.size w)
 have H:((ask_byFigure.f k a0_1 a0_2 l0_3 a0_4 a0_5 a1_1 a1_2 l1_3 a1_4 a1_5).bind fun t127 => (some t127))=some r:=h
 clear h
 replace H:=Option.bind_eq_some_iff.mp H
 obtain ⟨t127,A30,H⟩:=H
 replace H:(some t127)=some r:=H
 have A3:=ak A30
 clear A30
 obtain rfl:=Option.some.inj H
 go_enter Tryz.func46,Tryz.ntmps46
 go_wp2_with (first | ((with_reducible refine gate_dst (N:=2) rfl ?_);refine box_event ?hg (N:=2) ?hd (cs:=#[.int .i64 a0_0,.int .i64 a0_1,.int .i64 a0_2,.slice A0_3 l0_3.length c0_3,.int .i64 a0_4,.int .i64 a0_5]) (t:=47) ?hr ?_;(case hd => rfl);(case hg => rfl);(case hr => first | (go_simp;done) | (go_simp;rfl));intro gb125 hg w4 hbox hb;have n0_:=ak (below_step bx hb);have n1_:=ak (hbox);have n2_:=ak ((by rw [hg];exact (below_size bx):w.heap.size ≤ gb125));have n3_:=ak ((by rw [hg];exact (below_size bx):w.heap.size ≤ gb125));clear HB;have HB:=n0_;have BK125:=n1_;have GW125:=n2_;have GE125:=n3_;clear n0_ n1_ n2_ n3_;clear hb hbox hg) | ((with_reducible refine gate_dst (N:=3) rfl ?_);refine box_event ?hg (N:=3) ?hd (cs:=#[.int .i64 a1_0,.int .i64 a1_1,.int .i64 a1_2,.slice A1_3 l1_3.length c1_3,.int .i64 a1_4,.int .i64 a1_5]) (t:=47) ?hr ?_;(case hd => rfl);(case hg => rfl);(case hr => first | (go_simp;done) | (go_simp;rfl));intro gb126 hg w5 hbox hb;have n0_:=bB BK125 hb;have n1_:=ak (below_step bx hb);have n2_:=ak (hbox);have n3_:=ak ((by rw [hg];exact (below_size bx):w.heap.size ≤ gb126));have n4_:=ak ((by rw [hg];exact (below_size bx):w.heap.size ≤ gb126));have n5_:=ak ((by rw [hg];exact Nat.ne_of_lt (blk_lt (g:=gb125) (o:=.cells #[.int .i64 a0_0,.int .i64 a0_1,.int .i64 a0_2,.slice A0_3 l0_3.length c0_3,.int .i64 a0_4,.int .i64 a0_5] 47 (0,0)) (bk BK125)):gb125 ≠ gb126));have n6_:=ak ((by rw [hg];exact Nat.ne_of_gt (blk_lt (g:=gb125) (o:=.cells #[.int .i64 a0_0,.int .i64 a0_1,.int .i64 a0_2,.slice A0_3 l0_3.length c0_3,.int .i64 a0_4,.int .i64 a0_5] 47 (0,0)) (bk BK125)):gb126 ≠ gb125));clear BK125 HB;have BK125:=n0_;have HB:=n1_;have BK126:=n2_;have GW126:=n3_;have GE126:=n4_;have NB125_126:=n5_;have NB126_125:=n6_;clear n0_ n1_ n2_ n3_ n4_ n5_ n6_;clear hb hbox hg;have hnb6:=NB125_126.out;have hnc6:=NB126_125.out;obtain ⟨hcz7_0,hcz7_1,hcz7_2,hcz7_3,hcz7_4,hcz7_5,hfz7_0,hfz7_1,hfz7_2,hfz7_3,hfz7_4,hfz7_5⟩:=cb6 BK125.out;obtain ⟨hcz8_0,hcz8_1,hcz8_2,hcz8_3,hcz8_4,hcz8_5,hfz8_0,hfz8_1,hfz8_2,hfz8_3,hfz8_4,hfz8_5⟩:=cb6 BK126.out) | ((with_reducible refine gate_callee (f:=47) rfl ?_);refine goesL_ (some 9) rfl rfl Tryz.func47 kr rfl #[.agg #[.int .i64 a0_1,.int .i64 a0_2,.slice A0_3 l0_3.length c0_3,.int .i64 a0_4,.int .i64 a0_5],.agg #[.int .i64 a1_1,.int .i64 a1_2,.slice A1_3 l1_3.length c1_3,.int .i64 a1_4,.int .i64 a1_5]] rfl ag ?_;(with_reducible refine (ask_byFigure.calls k a0_1 a0_2 _ _ l0_3 a0_4 a0_5 a1_1 a1_2 _ _ l1_3 a1_4 a1_5 t127 _ ?side1 ?side2 ?side3 ?side4 A3.out).mono ?_);(case side1 => repeat (first | exact (Kd.C_below HR0_3.out HB.out) | (with_reducible refine Kd.C_alloc ?_ _) | (with_reducible refine Kd.C_drewN ?_ _) | (with_reducible refine Kd.C_drew ?_)));(case side2 => exact HC0_3.out);(case side3 => repeat (first | exact (Kd.C_below HR1_3.out HB.out) | (with_reducible refine Kd.C_alloc ?_ _) | (with_reducible refine Kd.C_drewN ?_ _) | (with_reducible refine Kd.C_drew ?_)));(case side4 => exact HC1_3.out);rintro e w9 ⟨rfl,hb⟩;refine ⟨_,rfl,?_⟩;have n0_:=bB BK125 hb;have n1_:=bB BK126 hb;have n2_:=ak (below_step bx hb);clear BK125 BK126 HB;have BK125:=n0_;have BK126:=n1_;have HB:=n2_;clear n0_ n1_ n2_;(try clear hb);(try clear hb2);(try clear hk);(try clear hi)))
 go_ret
 exact ⟨by first | rfl | (simp [errW_none,errW_some] <;> rfl) | (simp [*,errW_none,errW_some] <;> rfl),bx⟩
end Go.Proofs.YtkemjdedikobfaaGreatDoor.PFx
namespace Go.Proofs.YtkemjdedikobfaaGreatDoor.PSx
open Go.RowKit Go.Proofs.YtkemjdedikobfaaGreatDoorW.PrintWords
structure SV where
 A:Option Addr
 n:Nat
 c:Nat
 xs:List PFx.S95
@[reducible] def svv (s:SV):Value:=.slice s.A s.n s.c
def svz:SV:=⟨none,0,0,[]⟩
def svK:Kd SV:=Kd.scalar svv (fun _ => rfl)
def SV.Good (W0:World) (s:SV):Prop:=s.xs.length=s.n∧s.n ≤ s.c∧Kd.C PFx.k95 W0 s.A s.n s.xs
open Classical in
noncomputable def cmpT.f (W0:World) (a0_0 a0_1 a0_2:Int) (a0_3:SV) (a0_4 a0_5 a1_0 a1_1 a1_2:Int) (a1_3:SV) (a1_4 a1_5:Int):Option Int :=
 if a0_3.Good W0∧a1_3.Good W0 then PFx.ask_normal_1.f 5000 a0_0 a0_1 a0_2 a0_3.xs a0_4 a0_5 a1_0 a1_1 a1_2 a1_3.xs a1_4 a1_5 else none
theorem cmpT.calls (W0:World) (a0_0 a0_1 a0_2:Int) (a0_3:SV) (a0_4 a0_5 a1_0 a1_1 a1_2:Int) (a1_3:SV) (a1_4 a1_5:Int) (r:Int) (w:World) (hW:Below W0.heap.size W0 w) (h:cmpT.f W0 a0_0 a0_1 a0_2 a0_3 a0_4 a0_5 a1_0 a1_1 a1_2 a1_3 a1_4 a1_5=some r) :
  Calls Tryz.prog 46 #[.agg #[.int .i64 a0_0,.int .i64 a0_1,.int .i64 a0_2,(svv a0_3),.int .i64 a0_4,.int .i64 a0_5],.agg #[.int .i64 a1_0,.int .i64 a1_1,.int .i64 a1_2,(svv a1_3),.int .i64 a1_4,.int .i64 a1_5]] w fun e w' => e=.returned (.int .i64 r)∧Below w.heap.size w w':=by
 unfold cmpT.f at h
 split at h
 ·
  rename_i hg
  obtain ⟨⟨x1,x2,x3⟩,⟨y1,y2,y3⟩⟩:=hg
  obtain ⟨A,n,c,xs⟩:=a0_3
  obtain ⟨A',n',c',xs'⟩:=a1_3
  simp only at x1 x2 x3 y1 y2 y3 h
  subst x1;subst y1
  exact PFx.ask_normal_1.calls 5000 a0_0 a0_1 a0_2 A c xs a0_4 a0_5 a1_0 a1_1 a1_2 A' c' xs' a1_4 a1_5 r w (Kd.C_below x3 hW) x2 (Kd.C_below y3 hW) y2 h
 ·
  cases h
section
variable {P:Program} {ops:Array Oper} {Q:Exit→Act→World→Prop}
open Go.Proofs.YtkemjdedikobfaaGreatDoorW.PrintLast
theorem goesT_ {oi:Oper} {N:Option Tmp} {a:Act} {w:World} {K:Act→World→Prop} {f:FuncId} {fn:Func} {t:Tmp} {ags:Array Operand} {ts:Array TypeId} (hf:P.funcs[f]?=some fn) (hname:(fn.name == "runtime.NumGoroutine")=false) (hb:fn.body.isSome=true) (args:Array Value)
  (hw:Region.wanted oi (yielded ops a.tmps)=true) (hN:oi.dst=N) (hop:oi.op=.call { callee:=.value (.tmp t),args:=ags,argTypes:=ts }) (hv:a.eval (.tmp t)=.func (.func f) #[] #[]) (hargs:ags.map a.eval=args)
  (h:Calls P f args w fun e w' => ∃ v,e=.returned v∧K (a.put N v) w'):if Region.wanted oi (yielded ops a.tmps)=true then Oper.wp P oi a w K Q else K (a.put N undef) w:=by
 refine call_ f args hw hN ?_ h
 have he:=enters_ hf hname hb args w
 unfold execOp
 simp [hop,resolve,hv,Deferred.ofValue,invoke,hargs,he]
end
end Go.Proofs.YtkemjdedikobfaaGreatDoor.PSx
namespace Go.Proofs.YtkemjdedikobfaaGreatDoor.PSx
open Go.RowKit Go.Proofs.YtkemjdedikobfaaGreatDoorW.PrintWords Go.Proofs.YtkemjdedikobfaaGreatDoorW.PrintLast Go.Proofs.YtkemjdedikobfaaGreatDoorW.PrintMore
attribute [local go_sem] max2_int min2_int max_two min_two max_three min_three max_four min_four   -- for this text's walks alone
set_option linter.unusedVariables false
set_option linter.unusedSimpArgs false
def errW:Option Int→Value
 | none => .nilIface
 | some c => .iface 0 (.int .i64 c)
theorem errW_none:errW none=.nilIface:=rfl
theorem errW_some (c:Int):errW (some c)=.iface 0 (.int .i64 c):=rfl
theorem info47:(Tryz.prog.info? 47).map (fun i => (i.zero,i.size,i.bytes))=some (some (.agg #[(.int .i64 0),(.int .i64 0),(.int .i64 0),(.slice none 0 0),(.int .i64 0),(.int .i64 0)]),6,64):=by kernel_rfl
open PFx (S95 z95 k95 k95_open k95_openM k95_mk k95_mkM rd_T95 at_T95)
structure S58 where
 f0:Int
 f1:Int
def z58:S58:=⟨(0:Int),(0:Int)⟩
def k58:Kd S58:=Kd.iso (Kd.pair (Kd.int .i64) (Kd.int .i64)) (fun x:S58 => (x.f0,x.f1))
theorem k58_open {w:World} {x:S58} {cs:List Value} (h:k58.K w x cs):cs=[.int .i64 x.f0,.int .i64 x.f1]:=by
 obtain ⟨_,_,rfl,rfl,rfl⟩:=h
 exact rfl
theorem k58_openM {w:World} {base:Nat} {ok:Nat→Prop} {x:S58} {cs:List Value} (h:k58.M w base ok x cs):cs=[.int .i64 x.f0,.int .i64 x.f1]:=by
 obtain ⟨_,_,rfl,rfl,rfl⟩:=h
 exact rfl
theorem k58_mk (w:World) (x:S58) :k58.K w x [.int .i64 x.f0,.int .i64 x.f1]:=⟨[.int .i64 x.f0],[.int .i64 x.f1],rfl,rfl,rfl⟩
theorem k58_mkM (w:World) (base:Nat) (ok:Nat→Prop) (x:S58) :k58.M w base ok x [.int .i64 x.f0,.int .i64 x.f1]:=⟨[.int .i64 x.f0],[.int .i64 x.f1],rfl,rfl,rfl⟩
def rd_T58 (xs:List S58) (i:Int):S58:=xs.getD i.toNat z58
theorem at_T58 {w:World} {A:Option Addr} {n:Nat} {xs:List S58} (h:Kd.C k58 w A n xs) (i:Int) (h0:0 ≤ i) (h1:i < n):∃ ad ,A=some ad∧w.cell? (ad.add (i.toNat * 2))=some (.int .i64 (rd_T58 xs i).f0)∧w.cell? ⟨(ad.add (i.toNat * 2)).block,(ad.add (i.toNat * 2)).off + 1,none⟩=some (.int .i64 (rd_T58 xs i).f1):=by
 obtain ⟨ad,c,e,_,hK,hc0⟩:=Kd.C_get h z58 i h0 h1
 have hc:∀ j u,c[j]?=some u→w.cell? (ad.add (i.toNat * 2 + j))=some u:=hc0
 obtain rfl:=k58_open hK
 exact ⟨ad,e,hc 0 _ rfl,by rw [← add_field _ _ 1 (by omega)];exact hc 1 _ rfl⟩
structure S172 where
 f0:Int
 f1:Int
 f2:SV
 f3:S58
def z172:S172:=⟨(0:Int),(0:Int),svz,z58⟩
def k172:Kd S172:=Kd.iso (Kd.pair (Kd.int .i64) (Kd.pair (Kd.int .i64) (Kd.pair svK k58))) (fun x:S172 => (x.f0,x.f1,x.f2,x.f3))
theorem k172_open {w:World} {x:S172} {cs:List Value} (h:k172.K w x cs):cs=[.int .i64 x.f0,.int .i64 x.f1,(svv x.f2),.int .i64 x.f3.f0,.int .i64 x.f3.f1]:=by
 obtain ⟨_,_,rfl,rfl,⟨_,_,rfl,rfl,⟨_,_,rfl,rfl,s3⟩⟩⟩:=h
 obtain rfl:=k58_open s3
 exact rfl
theorem k172_openM {w:World} {base:Nat} {ok:Nat→Prop} {x:S172} {cs:List Value} (h:k172.M w base ok x cs):cs=[.int .i64 x.f0,.int .i64 x.f1,(svv x.f2),.int .i64 x.f3.f0,.int .i64 x.f3.f1]:=by
 obtain ⟨_,_,rfl,rfl,⟨_,_,rfl,rfl,⟨_,_,rfl,rfl,s3⟩⟩⟩:=h
 obtain rfl:=k58_openM s3
 exact rfl
theorem k172_mk (w:World) (x:S172) :k172.K w x [.int .i64 x.f0,.int .i64 x.f1,(svv x.f2),.int .i64 x.f3.f0,.int .i64 x.f3.f1]:=⟨[.int .i64 x.f0],[.int .i64 x.f1,(svv x.f2),.int .i64 x.f3.f0,.int .i64 x.f3.f1],rfl,rfl,⟨[.int .i64 x.f1],[(svv x.f2),.int .i64 x.f3.f0,.int .i64 x.f3.f1],rfl,rfl,⟨[(svv x.f2)],[.int .i64 x.f3.f0,.int .i64 x.f3.f1],rfl,rfl,(k58_mk w x.f3 )⟩⟩⟩
theorem k172_mkM (w:World) (base:Nat) (ok:Nat→Prop) (x:S172) :k172.M w base ok x [.int .i64 x.f0,.int .i64 x.f1,(svv x.f2),.int .i64 x.f3.f0,.int .i64 x.f3.f1]:=⟨[.int .i64 x.f0],[.int .i64 x.f1,(svv x.f2),.int .i64 x.f3.f0,.int .i64 x.f3.f1],rfl,rfl,⟨[.int .i64 x.f1],[(svv x.f2),.int .i64 x.f3.f0,.int .i64 x.f3.f1],rfl,rfl,⟨[(svv x.f2)],[.int .i64 x.f3.f0,.int .i64 x.f3.f1],rfl,rfl,(k58_mkM w base ok x.f3 )⟩⟩⟩
def rd_T172 (xs:List S172) (i:Int):S172:=xs.getD i.toNat z172
theorem at_T172 {w:World} {A:Option Addr} {n:Nat} {xs:List S172} (h:Kd.C k172 w A n xs) (i:Int) (h0:0 ≤ i) (h1:i < n):∃ ad ,A=some ad∧w.cell? (ad.add (i.toNat * 5))=some (.int .i64 (rd_T172 xs i).f0)∧w.cell? ⟨(ad.add (i.toNat * 5)).block,(ad.add (i.toNat * 5)).off + 1,none⟩=some (.int .i64 (rd_T172 xs i).f1)∧w.cell? ⟨(ad.add (i.toNat * 5)).block,(ad.add (i.toNat * 5)).off + 2,none⟩=some ((svv (rd_T172 xs i).f2))∧w.cell? ⟨(ad.add (i.toNat * 5)).block,(ad.add (i.toNat * 5)).off + 3,none⟩=some (.int .i64 (rd_T172 xs i).f3.f0)∧w.cell? ⟨(ad.add (i.toNat * 5)).block,(ad.add (i.toNat * 5)).off + 4,none⟩=some (.int .i64 (rd_T172 xs i).f3.f1):=by
 obtain ⟨ad,c,e,_,hK,hc0⟩:=Kd.C_get h z172 i h0 h1
 have hc:∀ j u,c[j]?=some u→w.cell? (ad.add (i.toNat * 5 + j))=some u:=hc0
 obtain rfl:=k172_open hK
 exact ⟨ad,e,hc 0 _ rfl,by rw [← add_field _ _ 1 (by omega)];exact hc 1 _ rfl,by rw [← add_field _ _ 2 (by omega)];exact hc 2 _ rfl,by rw [← add_field _ _ 3 (by omega)];exact hc 3 _ rfl,by rw [← add_field _ _ 4 (by omega)];exact hc 4 _ rfl⟩
structure S174 where
 f0:Int
 f1:S172
def z174:S174:=⟨(0:Int),z172⟩
def k174:Kd S174:=Kd.iso (Kd.pair (Kd.int .i64) k172) (fun x:S174 => (x.f0,x.f1))
theorem k174_open {w:World} {x:S174} {cs:List Value} (h:k174.K w x cs):cs=[.int .i64 x.f0,.int .i64 x.f1.f0,.int .i64 x.f1.f1,(svv x.f1.f2),.int .i64 x.f1.f3.f0,.int .i64 x.f1.f3.f1]:=by
 obtain ⟨_,_,rfl,rfl,s1⟩:=h
 obtain rfl:=k172_open s1
 exact rfl
theorem k174_openM {w:World} {base:Nat} {ok:Nat→Prop} {x:S174} {cs:List Value} (h:k174.M w base ok x cs):cs=[.int .i64 x.f0,.int .i64 x.f1.f0,.int .i64 x.f1.f1,(svv x.f1.f2),.int .i64 x.f1.f3.f0,.int .i64 x.f1.f3.f1]:=by
 obtain ⟨_,_,rfl,rfl,s1⟩:=h
 obtain rfl:=k172_openM s1
 exact rfl
theorem k174_mk (w:World) (x:S174) :k174.K w x [.int .i64 x.f0,.int .i64 x.f1.f0,.int .i64 x.f1.f1,(svv x.f1.f2),.int .i64 x.f1.f3.f0,.int .i64 x.f1.f3.f1]:=⟨[.int .i64 x.f0],[.int .i64 x.f1.f0,.int .i64 x.f1.f1,(svv x.f1.f2),.int .i64 x.f1.f3.f0,.int .i64 x.f1.f3.f1],rfl,rfl,(k172_mk w x.f1 )⟩
theorem k174_mkM (w:World) (base:Nat) (ok:Nat→Prop) (x:S174) :k174.M w base ok x [.int .i64 x.f0,.int .i64 x.f1.f0,.int .i64 x.f1.f1,(svv x.f1.f2),.int .i64 x.f1.f3.f0,.int .i64 x.f1.f3.f1]:=⟨[.int .i64 x.f0],[.int .i64 x.f1.f0,.int .i64 x.f1.f1,(svv x.f1.f2),.int .i64 x.f1.f3.f0,.int .i64 x.f1.f3.f1],rfl,rfl,(k172_mkM w base ok x.f1 )⟩
def rd_T174 (xs:List S174) (i:Int):S174:=xs.getD i.toNat z174
theorem at_T174 {w:World} {A:Option Addr} {n:Nat} {xs:List S174} (h:Kd.C k174 w A n xs) (i:Int) (h0:0 ≤ i) (h1:i < n):∃ ad ,A=some ad∧w.cell? (ad.add (i.toNat * 6))=some (.int .i64 (rd_T174 xs i).f0)∧w.cell? ⟨(ad.add (i.toNat * 6)).block,(ad.add (i.toNat * 6)).off + 1,none⟩=some (.int .i64 (rd_T174 xs i).f1.f0)∧w.cell? ⟨(ad.add (i.toNat * 6)).block,(ad.add (i.toNat * 6)).off + 2,none⟩=some (.int .i64 (rd_T174 xs i).f1.f1)∧w.cell? ⟨(ad.add (i.toNat * 6)).block,(ad.add (i.toNat * 6)).off + 3,none⟩=some ((svv (rd_T174 xs i).f1.f2))∧w.cell? ⟨(ad.add (i.toNat * 6)).block,(ad.add (i.toNat * 6)).off + 4,none⟩=some (.int .i64 (rd_T174 xs i).f1.f3.f0)∧w.cell? ⟨(ad.add (i.toNat * 6)).block,(ad.add (i.toNat * 6)).off + 5,none⟩=some (.int .i64 (rd_T174 xs i).f1.f3.f1):=by
 obtain ⟨ad,c,e,_,hK,hc0⟩:=Kd.C_get h z174 i h0 h1
 have hc:∀ j u,c[j]?=some u→w.cell? (ad.add (i.toNat * 6 + j))=some u:=hc0
 obtain rfl:=k174_open hK
 exact ⟨ad,e,hc 0 _ rfl,by rw [← add_field _ _ 1 (by omega)];exact hc 1 _ rfl,by rw [← add_field _ _ 2 (by omega)];exact hc 2 _ rfl,by rw [← add_field _ _ 3 (by omega)];exact hc 3 _ rfl,by rw [← add_field _ _ 4 (by omega)];exact hc 4 _ rfl,by rw [← add_field _ _ 5 (by omega)];exact hc 5 _ rfl⟩
def rd_L5 (xs:List (List S174)) (i:Int):(List S174):=xs.getD i.toNat ([]:List S174)
theorem at_L5 {w:World} {A:Option Addr} {n:Nat} {xs:List (List S174)} (h:Kd.C (Kd.slice 47 k174) w A n xs) (i:Int) (h0:0 ≤ i) (h1:i < n):∃ ad A0 c0,A=some ad∧w.cell? (ad.add i.toNat)=some (.slice A0 (rd_L5 xs i).length c0)∧(rd_L5 xs i).length ≤ c0∧k174.C w A0 (rd_L5 xs i).length (rd_L5 xs i):=by
 obtain ⟨ad,c,e,_,hK,hc0⟩:=Kd.C_get h ([]:List S174) i h0 h1
 have hc:∀ j u,c[j]?=some u→w.cell? (ad.add (i.toNat * 1 + j))=some u:=hc0
 obtain ⟨A0,c0,rfl,l0,g0⟩:=hK
 exact ⟨ad,A0,c0,e,by have hq:=hc 0 _ rfl;rwa [Nat.mul_one,Nat.add_zero] at hq,l0,g0⟩
structure S45 where
 f0:Int
 f1:(List S174)
def z45:S45:=⟨(0:Int),([]:List S174)⟩
def k45:Kd S45:=Kd.iso (Kd.pair (Kd.int .i64) (Kd.slice 47 k174)) (fun x:S45 => (x.f0,x.f1))
theorem k45_open {w:World} {x:S45} {cs:List Value} (h:k45.K w x cs):∃ A1 c1,cs=[.int .i64 x.f0,.slice A1 x.f1.length c1]∧x.f1.length ≤ c1∧k174.C w A1 x.f1.length x.f1:=by
 obtain ⟨_,_,rfl,rfl,⟨A1,c1,rfl,l1,g1⟩⟩:=h
 exact ⟨A1,c1,rfl,l1,g1⟩
theorem k45_openM {w:World} {base:Nat} {ok:Nat→Prop} {x:S45} {cs:List Value} (h:k45.M w base ok x cs):∃ v1,cs=[.int .i64 x.f0,v1]∧k174.R 47 w base ok v1 x.f1:=by
 obtain ⟨_,_,rfl,rfl,⟨v1,rfl,g1⟩⟩:=h
 exact ⟨v1,rfl,g1⟩
theorem k45_mk (w:World) (x:S45) {A1:Option Addr} {c1:Nat} (l1:x.f1.length ≤ c1) (g1:k174.C w A1 x.f1.length x.f1):k45.K w x [.int .i64 x.f0,.slice A1 x.f1.length c1]:=⟨[.int .i64 x.f0],[.slice A1 x.f1.length c1],rfl,rfl,⟨A1,c1,rfl,l1,g1⟩⟩
theorem k45_mkM (w:World) (base:Nat) (ok:Nat→Prop) (x:S45) {v1:Value} (g1:k174.R 47 w base ok v1 x.f1):k45.M w base ok x [.int .i64 x.f0,v1]:=⟨[.int .i64 x.f0],[v1],rfl,rfl,⟨v1,rfl,g1⟩⟩
def rd_T45 (xs:List S45) (i:Int):S45:=xs.getD i.toNat z45
theorem at_T45 {w:World} {A:Option Addr} {n:Nat} {xs:List S45} (h:Kd.C k45 w A n xs) (i:Int) (h0:0 ≤ i) (h1:i < n):∃ ad A1 c1,A=some ad∧w.cell? (ad.add (i.toNat * 2))=some (.int .i64 (rd_T45 xs i).f0)∧w.cell? ⟨(ad.add (i.toNat * 2)).block,(ad.add (i.toNat * 2)).off + 1,none⟩=some (.slice A1 (rd_T45 xs i).f1.length c1)∧(rd_T45 xs i).f1.length ≤ c1∧k174.C w A1 (rd_T45 xs i).f1.length (rd_T45 xs i).f1:=by
 obtain ⟨ad,c,e,_,hK,hc0⟩:=Kd.C_get h z45 i h0 h1
 have hc:∀ j u,c[j]?=some u→w.cell? (ad.add (i.toNat * 2 + j))=some u:=hc0
 obtain ⟨A1,c1,rfl,l1,g1⟩:=k45_open hK
 exact ⟨ad,A1,c1,e,hc 0 _ rfl,by rw [← add_field _ _ 1 (by omega)];exact hc 1 _ rfl,l1,g1⟩
structure S20172 where
 f0:Int
 f1:Int
 f2:(List S95)
 f3:S58
def z20172:S20172:=⟨(0:Int),(0:Int),([]:List S95),z58⟩
def k20172:Kd S20172:=Kd.iso (Kd.pair (Kd.int .i64) (Kd.pair (Kd.int .i64) (Kd.pair (Kd.slice 103 k95) k58))) (fun x:S20172 => (x.f0,x.f1,x.f2,x.f3))
theorem k20172_open {w:World} {x:S20172} {cs:List Value} (h:k20172.K w x cs):∃ A2 c2,cs=[.int .i64 x.f0,.int .i64 x.f1,.slice A2 x.f2.length c2,.int .i64 x.f3.f0,.int .i64 x.f3.f1]∧x.f2.length ≤ c2∧k95.C w A2 x.f2.length x.f2:=by
 obtain ⟨_,_,rfl,rfl,⟨_,_,rfl,rfl,⟨_,_,rfl,⟨A2,c2,rfl,l2,g2⟩,s3⟩⟩⟩:=h
 obtain rfl:=k58_open s3
 exact ⟨A2,c2,rfl,l2,g2⟩
theorem k20172_openM {w:World} {base:Nat} {ok:Nat→Prop} {x:S20172} {cs:List Value} (h:k20172.M w base ok x cs):∃ v2,cs=[.int .i64 x.f0,.int .i64 x.f1,v2,.int .i64 x.f3.f0,.int .i64 x.f3.f1]∧k95.R 103 w base ok v2 x.f2:=by
 obtain ⟨_,_,rfl,rfl,⟨_,_,rfl,rfl,⟨_,_,rfl,⟨v2,rfl,g2⟩,s3⟩⟩⟩:=h
 obtain rfl:=k58_openM s3
 exact ⟨v2,rfl,g2⟩
theorem k20172_mk (w:World) (x:S20172) {A2:Option Addr} {c2:Nat} (l2:x.f2.length ≤ c2) (g2:k95.C w A2 x.f2.length x.f2):k20172.K w x [.int .i64 x.f0,.int .i64 x.f1,.slice A2 x.f2.length c2,.int .i64 x.f3.f0,.int .i64 x.f3.f1]:=⟨[.int .i64 x.f0],[.int .i64 x.f1,.slice A2 x.f2.length c2,.int .i64 x.f3.f0,.int .i64 x.f3.f1],rfl,rfl,⟨[.int .i64 x.f1],[.slice A2 x.f2.length c2,.int .i64 x.f3.f0,.int .i64 x.f3.f1],rfl,rfl,⟨[.slice A2 x.f2.length c2],[.int .i64 x.f3.f0,.int .i64 x.f3.f1],rfl,⟨A2,c2,rfl,l2,g2⟩,(k58_mk w x.f3 )⟩⟩⟩
theorem k20172_mkM (w:World) (base:Nat) (ok:Nat→Prop) (x:S20172) {v2:Value} (g2:k95.R 103 w base ok v2 x.f2):k20172.M w base ok x [.int .i64 x.f0,.int .i64 x.f1,v2,.int .i64 x.f3.f0,.int .i64 x.f3.f1]:=⟨[.int .i64 x.f0],[.int .i64 x.f1,v2,.int .i64 x.f3.f0,.int .i64 x.f3.f1],rfl,rfl,⟨[.int .i64 x.f1],[v2,.int .i64 x.f3.f0,.int .i64 x.f3.f1],rfl,rfl,⟨[v2],[.int .i64 x.f3.f0,.int .i64 x.f3.f1],rfl,⟨v2,rfl,g2⟩,(k58_mkM w base ok x.f3 )⟩⟩⟩
def rd_T20172 (xs:List S20172) (i:Int):S20172:=xs.getD i.toNat z20172
theorem at_T20172 {w:World} {A:Option Addr} {n:Nat} {xs:List S20172} (h:Kd.C k20172 w A n xs) (i:Int) (h0:0 ≤ i) (h1:i < n):∃ ad A2 c2,A=some ad∧w.cell? (ad.add (i.toNat * 5))=some (.int .i64 (rd_T20172 xs i).f0)∧w.cell? ⟨(ad.add (i.toNat * 5)).block,(ad.add (i.toNat * 5)).off + 1,none⟩=some (.int .i64 (rd_T20172 xs i).f1)∧w.cell? ⟨(ad.add (i.toNat * 5)).block,(ad.add (i.toNat * 5)).off + 2,none⟩=some (.slice A2 (rd_T20172 xs i).f2.length c2)∧w.cell? ⟨(ad.add (i.toNat * 5)).block,(ad.add (i.toNat * 5)).off + 3,none⟩=some (.int .i64 (rd_T20172 xs i).f3.f0)∧w.cell? ⟨(ad.add (i.toNat * 5)).block,(ad.add (i.toNat * 5)).off + 4,none⟩=some (.int .i64 (rd_T20172 xs i).f3.f1)∧(rd_T20172 xs i).f2.length ≤ c2∧k95.C w A2 (rd_T20172 xs i).f2.length (rd_T20172 xs i).f2:=by
 obtain ⟨ad,c,e,_,hK,hc0⟩:=Kd.C_get h z20172 i h0 h1
 have hc:∀ j u,c[j]?=some u→w.cell? (ad.add (i.toNat * 5 + j))=some u:=hc0
 obtain ⟨A2,c2,rfl,l2,g2⟩:=k20172_open hK
 exact ⟨ad,A2,c2,e,hc 0 _ rfl,by rw [← add_field _ _ 1 (by omega)];exact hc 1 _ rfl,by rw [← add_field _ _ 2 (by omega)];exact hc 2 _ rfl,by rw [← add_field _ _ 3 (by omega)];exact hc 3 _ rfl,by rw [← add_field _ _ 4 (by omega)];exact hc 4 _ rfl,l2,g2⟩
structure S20174 where
 f0:Int
 f1:S20172
def z20174:S20174:=⟨(0:Int),z20172⟩
def k20174:Kd S20174:=Kd.iso (Kd.pair (Kd.int .i64) k20172) (fun x:S20174 => (x.f0,x.f1))
theorem k20174_open {w:World} {x:S20174} {cs:List Value} (h:k20174.K w x cs):∃ A3 c3,cs=[.int .i64 x.f0,.int .i64 x.f1.f0,.int .i64 x.f1.f1,.slice A3 x.f1.f2.length c3,.int .i64 x.f1.f3.f0,.int .i64 x.f1.f3.f1]∧x.f1.f2.length ≤ c3∧k95.C w A3 x.f1.f2.length x.f1.f2:=by
 obtain ⟨_,_,rfl,rfl,s1⟩:=h
 obtain ⟨A3,c3,rfl,l3,g3⟩:=k20172_open s1
 exact ⟨A3,c3,rfl,l3,g3⟩
theorem k20174_openM {w:World} {base:Nat} {ok:Nat→Prop} {x:S20174} {cs:List Value} (h:k20174.M w base ok x cs):∃ v3,cs=[.int .i64 x.f0,.int .i64 x.f1.f0,.int .i64 x.f1.f1,v3,.int .i64 x.f1.f3.f0,.int .i64 x.f1.f3.f1]∧k95.R 103 w base ok v3 x.f1.f2:=by
 obtain ⟨_,_,rfl,rfl,s1⟩:=h
 obtain ⟨v3,rfl,g3⟩:=k20172_openM s1
 exact ⟨v3,rfl,g3⟩
theorem k20174_mk (w:World) (x:S20174) {A3:Option Addr} {c3:Nat} (l3:x.f1.f2.length ≤ c3) (g3:k95.C w A3 x.f1.f2.length x.f1.f2):k20174.K w x [.int .i64 x.f0,.int .i64 x.f1.f0,.int .i64 x.f1.f1,.slice A3 x.f1.f2.length c3,.int .i64 x.f1.f3.f0,.int .i64 x.f1.f3.f1]:=⟨[.int .i64 x.f0],[.int .i64 x.f1.f0,.int .i64 x.f1.f1,.slice A3 x.f1.f2.length c3,.int .i64 x.f1.f3.f0,.int .i64 x.f1.f3.f1],rfl,rfl,(k20172_mk w x.f1 l3 g3)⟩
theorem k20174_mkM (w:World) (base:Nat) (ok:Nat→Prop) (x:S20174) {v3:Value} (g3:k95.R 103 w base ok v3 x.f1.f2):k20174.M w base ok x [.int .i64 x.f0,.int .i64 x.f1.f0,.int .i64 x.f1.f1,v3,.int .i64 x.f1.f3.f0,.int .i64 x.f1.f3.f1]:=⟨[.int .i64 x.f0],[.int .i64 x.f1.f0,.int .i64 x.f1.f1,v3,.int .i64 x.f1.f3.f0,.int .i64 x.f1.f3.f1],rfl,rfl,(k20172_mkM w base ok x.f1 g3)⟩
def rd_T20174 (xs:List S20174) (i:Int):S20174:=xs.getD i.toNat z20174
theorem at_T20174 {w:World} {A:Option Addr} {n:Nat} {xs:List S20174} (h:Kd.C k20174 w A n xs) (i:Int) (h0:0 ≤ i) (h1:i < n):∃ ad A3 c3,A=some ad∧w.cell? (ad.add (i.toNat * 6))=some (.int .i64 (rd_T20174 xs i).f0)∧w.cell? ⟨(ad.add (i.toNat * 6)).block,(ad.add (i.toNat * 6)).off + 1,none⟩=some (.int .i64 (rd_T20174 xs i).f1.f0)∧w.cell? ⟨(ad.add (i.toNat * 6)).block,(ad.add (i.toNat * 6)).off + 2,none⟩=some (.int .i64 (rd_T20174 xs i).f1.f1)∧w.cell? ⟨(ad.add (i.toNat * 6)).block,(ad.add (i.toNat * 6)).off + 3,none⟩=some (.slice A3 (rd_T20174 xs i).f1.f2.length c3)∧w.cell? ⟨(ad.add (i.toNat * 6)).block,(ad.add (i.toNat * 6)).off + 4,none⟩=some (.int .i64 (rd_T20174 xs i).f1.f3.f0)∧w.cell? ⟨(ad.add (i.toNat * 6)).block,(ad.add (i.toNat * 6)).off + 5,none⟩=some (.int .i64 (rd_T20174 xs i).f1.f3.f1)∧(rd_T20174 xs i).f1.f2.length ≤ c3∧k95.C w A3 (rd_T20174 xs i).f1.f2.length (rd_T20174 xs i).f1.f2:=by
 obtain ⟨ad,c,e,_,hK,hc0⟩:=Kd.C_get h z20174 i h0 h1
 have hc:∀ j u,c[j]?=some u→w.cell? (ad.add (i.toNat * 6 + j))=some u:=hc0
 obtain ⟨A3,c3,rfl,l3,g3⟩:=k20174_open hK
 exact ⟨ad,A3,c3,e,hc 0 _ rfl,by rw [← add_field _ _ 1 (by omega)];exact hc 1 _ rfl,by rw [← add_field _ _ 2 (by omega)];exact hc 2 _ rfl,by rw [← add_field _ _ 3 (by omega)];exact hc 3 _ rfl,by rw [← add_field _ _ 4 (by omega)];exact hc 4 _ rfl,by rw [← add_field _ _ 5 (by omega)];exact hc 5 _ rfl,l3,g3⟩
end Go.Proofs.YtkemjdedikobfaaGreatDoor.PSx
namespace Go.Proofs.YtkemjdedikobfaaGreatDoor.PSx
open Go.RowKit Go.Proofs.YtkemjdedikobfaaGreatDoorW.PrintWords Go.Proofs.YtkemjdedikobfaaGreatDoorW.PrintLast Go.Proofs.YtkemjdedikobfaaGreatDoorW.PrintMore
attribute [local go_sem] max2_int min2_int max_two min_two max_three min_three max_four min_four
def quoI (a:Int):Int:=if 0 < a then 1099511627776 / a else -(1099511627776 / a)
def productT.f (a b:Int):Option (Int × Bool) :=
 if -2199023255552 ≤ a∧a ≤ 2199023255552 then
  (if a=0 then some (0,true) else if b > quoI a ∨ b < -(quoI a) then some (0,false) else some (wrap64 (a * b),true))
 else none
set_option maxHeartbeats 4000000 in
theorem productT.calls (a b:Int) (r1:Int) (r2:Bool) (w:World) (h:productT.f a b=some (r1,r2)) :
  Calls Tryz.prog 51 #[.int .i64 a,.int .i64 b] w fun e w' => e=.returned (.tuple #[.int .i64 r1,.bool r2])∧Drawn0 w w':=by
 unfold productT.f at h
 split at h
 ·
  rename_i hr
  by_cases h0:a=0
  ·
   rw [if_pos h0] at h
   subst h0
   obtain ⟨rfl,rfl⟩:=Prod.mk.inj (Option.some.inj h)
   go_enter Tryz.func51,Tryz.ntmps51
   go_wp2
   go_ret2
   exact ⟨by simp [wrap64],by repeat (first | exact Drawn0.refl _ | apply Drawn0.step)⟩
  ·
   rw [if_neg h0] at h
   have H:=Aside0.mk h
   clear h
   have c3b0:(a == 0)=false:=beq_eq_false_iff_ne.mpr h0
   have c3b1:(a != 0)=true:=bne_iff_ne.mpr h0
   by_cases hp:0 < a
   ·
    have hq0:0 ≤ 1099511627776 / a:=Int.ediv_nonneg (by omega) (by omega)
    have hq1:1099511627776 / a ≤ 1099511627776:=Int.ediv_le_self _ (by omega)
    have e1:quoI a=1099511627776 / a:=by unfold quoI;rw [if_pos hp]
    have w1:wrap64 (Int.tdiv 1099511627776 a)=1099511627776 / a:=by rw [Int.tdiv_eq_ediv_of_nonneg (by omega)];unfold wrap64;omega
    have w2:wrap64 (-Int.tdiv 1099511627776 a)=-(1099511627776 / a):=by rw [Int.tdiv_eq_ediv_of_nonneg (by omega)];unfold wrap64;omega
    go_enter Tryz.func51,Tryz.ntmps51
    go_wp2
    all_goals
     go_ret2
     refine ⟨?_,by repeat (first | exact Drawn0.refl _ | apply Drawn0.step)⟩
     have h:=H.out
     rw [e1] at h
     first
      | (rw [if_pos (by omega)] at h;obtain ⟨rfl,rfl⟩:=Prod.mk.inj (Option.some.inj h);rfl)
      | (rw [if_neg (by omega)] at h;obtain ⟨rfl,rfl⟩:=Prod.mk.inj (Option.some.inj h);rfl)
   ·
    have hq:1099511627776 / a=-(1099511627776 / (-a)):=by rw [Int.ediv_neg];omega
    have hq0:0 ≤ 1099511627776 / (-a):=Int.ediv_nonneg (by omega) (by omega)
    have hq1:1099511627776 / (-a) ≤ 1099511627776:=Int.ediv_le_self _ (by omega)
    have hq2:-1099511627776 ≤ 1099511627776 / a:=by omega
    have hq3:1099511627776 / a ≤ 0:=by omega
    have e1:quoI a=-(1099511627776 / a):=by unfold quoI;rw [if_neg hp]
    clear hq hq0 hq1
    have w1:wrap64 (Int.tdiv 1099511627776 a)=1099511627776 / a:=by rw [Int.tdiv_eq_ediv_of_nonneg (by omega)];unfold wrap64;omega
    have w2:wrap64 (-Int.tdiv 1099511627776 a)=-(1099511627776 / a):=by rw [Int.tdiv_eq_ediv_of_nonneg (by omega)];unfold wrap64;omega
    go_enter Tryz.func51,Tryz.ntmps51
    go_wp2
    all_goals
     go_ret2
     refine ⟨?_,by repeat (first | exact Drawn0.refl _ | apply Drawn0.step)⟩
     have h:=H.out
     rw [e1] at h
     first
      | (rw [if_pos (by omega)] at h;obtain ⟨rfl,rfl⟩:=Prod.mk.inj (Option.some.inj h);rfl)
      | (rw [if_neg (by omega)] at h;obtain ⟨rfl,rfl⟩:=Prod.mk.inj (Option.some.inj h);rfl)
 ·
  cases h
end Go.Proofs.YtkemjdedikobfaaGreatDoor.PSx
namespace Go.Proofs.YtkemjdedikobfaaGreatDoor.PSx
open PFx (S95 z95 k95 k95_open k95_openM k95_mk k95_mkM rd_T95 at_T95)
open Go.RowKit Go.Proofs.YtkemjdedikobfaaGreatDoorW.PrintWords Go.Proofs.YtkemjdedikobfaaGreatDoorW.PrintLast Go.Proofs.YtkemjdedikobfaaGreatDoorW.PrintMore
theorem info95:(Tryz.prog.info? 103).map (fun i => (i.zero,i.size,i.bytes))=some (some (.agg #[(.int .i64 0),(.int .i64 0)]),2,16):=by kernel_rfl
theorem eq_nil_some (w:World) (ad:Addr) (n c:Nat):(binOp .eql 41 (.slice (some ad) n c) (.slice none 0 0)).run Tryz.prog w=.ok (.bool false) w:=Go.Lib.run_eql_slice_nil w 41 103 (some ad) n c 0 0 Tryz.underlying41
theorem eq_nil_none (w:World) (n c:Nat):(binOp .eql 41 (.slice none n c) (.slice none 0 0)).run Tryz.prog w=.ok (.bool true) w:=Go.Lib.run_eql_slice_nil w 41 103 none n c 0 0 Tryz.underlying41
attribute [local go_sem] eq_nil_some eq_nil_none
def slices_clone_at.f (l0:List (S95)):Option ((List (S95))):=(some (([]:List (S95)):List (S95))).bind fun y101 => (if y101.length + l0.length < 8796093022208 then (some (y101 ++ l0)) else (none))
set_option maxHeartbeats 8000000 in
set_option maxRecDepth 100000 in
theorem slices_clone_at.calls (ad:Addr) (c0:Nat) (l0:List (S95)) (r:List (S95)) (w:World) (hr0:Kd.C k95 w (some ad) l0.length l0) (hc0:l0.length ≤ c0) (h:slices_clone_at.f l0=some r) :
  Calls Tryz.prog 48 #[.slice (some ad) l0.length c0] w fun e w' => ∃ v0_:Value,e=.returned (v0_)∧Kd.R k95 103 w' w.heap.size (fun _ => True) v0_ r∧Below w.heap.size w w':=by
 have HR0:=Aside0.mk hr0
 have HC0:=Aside0.mk hc0
 clear hr0 hc0
 have HB:=Aside0.mk (Below.refl w.heap.size w)
 have H:((some (([]:List (S95)):List (S95))).bind fun y101 => (if y101.length + l0.length < 8796093022208 then (some (y101 ++ l0)) else (none)))=some r:=h
 clear h
 obtain ⟨y101,hy101⟩:∃ y_:List (S95),y_=(([]:List (S95))):=⟨_,rfl⟩
 replace H:(if y101.length + l0.length < 8796093022208 then (some (y101 ++ l0)) else (none))=some r:=by first | (rw [hy101];with_reducible exact H) | (have H2_:=(Option.bind_some _ _).symm.trans H;rw [hy101];with_reducible exact H2_) | (have H2_:=(Option.bind_some _ _).symm.trans H;with_reducible exact H2_) | with_reducible exact H | (rw [hy101];exact H) | exact H
 have Ny101:=Aside0.mk hy101
 clear hy101
 by_cases c2:y101.length + l0.length < 8796093022208
 ·
  rw [if_pos c2] at H
  have LMc2:=Aside0.mk c2
  clear c2
  obtain ⟨y104,hy104⟩:∃ y_:List (S95),y_=(y101 ++ l0):=⟨_,rfl⟩
  replace H:(some y104)=some r:=by first | (rw [hy104];with_reducible exact H) | (have H2_:=(Option.bind_some _ _).symm.trans H;rw [hy104];with_reducible exact H2_) | (have H2_:=(Option.bind_some _ _).symm.trans H;with_reducible exact H2_) | with_reducible exact H | (rw [hy104];exact H) | exact H
  have Ny104:=Aside0.mk hy104
  clear hy104
  obtain rfl:=Option.some.inj H
  go_enter Tryz.func48,Tryz.ntmps48
  go_wp2_with (first | ((with_reducible refine gate_dst (N:=5) rfl ?_);refine Kd.R_lit k95 _ 103 ?hg (N:=5) ?hd (xs:=([]:List (S95))) (inner:=[]) (ok:=fun _ => True) (okp:=fun _ => True) ?hr ?hp (fun _ hk => hk) trivial (Below.refl _ _) (Nat.le_refl _) (by simp) ?_;(case hd => rfl);(case hg => rfl);(case hr => first | (go_simp;done) | (go_simp;rfl));(case hp => exact (Reps.none _ _));intro v102 w3 ho4 hb hg_ hnew_;clear hg_ hnew_;(first | rw [← Ny101.out] at ho4 | (simp only [Int.reduceToNat] at ho4;rw [← Ny101.out] at ho4));have n0_:=Aside0.mk (Kd.R_lower ho4 (below_size (by repeat (first | (with_reducible first | exact HB.out | apply below_alloc | apply pw_below_drewN | apply below_drew1) | exact HB.out))));have n1_:=Aside0.mk (below_step (by repeat (first | (with_reducible first | exact HB.out | apply below_alloc | apply pw_below_drewN | apply below_drew1) | exact HB.out)) hb);clear HB;have HO103:=n0_;have HB:=n1_;clear n0_ n1_;clear hb ho4) | ((with_reducible refine gate_builtin (b:=.append) (xs:=#[.tmp 5,.tmp 6]) rfl ?_);at_builtin;refine Kd.R_append_rows k95 (w0:=w) w.heap.size rfl (.tmp 5) (.tmp 6) 41 103 (.agg #[(.int .i64 0),(.int .i64 0)]) 16 rfl Tryz.underlying41 info95 rfl (by decide) (by omega) v102 y101 l0 _ _ _ (fun _ => True) (fun _ => False) rfl rfl ?aO ?aR (fun _ _ h => h) (fun _ h => h.elim) ?aF ?aB ?aS ?aL ?_;(case aR => repeat (first | exact (Kd.C_below HR0.out HB.out) | (with_reducible refine Kd.C_alloc ?_ _) | (with_reducible refine Kd.C_drewN ?_ _) | (with_reducible refine Kd.C_drew ?_)));(case aB => exact (by repeat (first | (with_reducible first | exact HB.out | apply below_alloc | apply pw_below_drewN | apply below_drew1) | exact HB.out)));(case aF => exact (fun _ _ => trivial));(case aO => exact (by (with_reducible repeat (first | apply Kd.R_alloc | apply Kd.R_drewN | apply Kd.R_drew));exact HO103.out));(case aS => exact (below_size (by repeat (first | (with_reducible first | exact HB.out | apply below_alloc | apply pw_below_drewN | apply below_drew1) | exact HB.out))));(case aL => have:=LMc2.out;omega);intro v105 w5 ho hb hg hat;rw [← Ny104.out] at ho;have n0_:=Aside0.mk (hb);have n1_:=Aside0.mk (ho);clear HB;clear HO103;have HB:=n0_;have HO106:=n1_;clear n0_ n1_;clear ho hb hg hat))
  go_ret
  exact ⟨_,by first | rfl | (simp [errW_none,errW_some] <;> rfl) | (simp [*,errW_none,errW_some] <;> rfl),by (with_reducible repeat (first | apply Kd.R_alloc | apply Kd.R_drewN | apply Kd.R_drew));exact HO106.out,by repeat (first | (with_reducible first | exact HB.out | apply below_alloc | apply pw_below_drewN | apply below_drew1) | exact HB.out)⟩
 ·
  rw [if_neg c2] at H
  exact absurd H (by simp)
open Classical in
noncomputable def cloneP.f (W0:World) (a0:SV):Option (List S95):=if a0.Good W0∧a0.n ≤ 100000 then some a0.xs else none
theorem cloneP.calls (W0:World) (a0:SV) (r:List S95) (w:World) (hW:Below W0.heap.size W0 w) (h:cloneP.f W0 a0=some r) :
  Calls Tryz.prog 48 #[(svv a0)] w fun e w' => ∃ v:Value,e=.returned v∧Kd.R k95 103 w' w.heap.size (fun _ => True) v r∧Below w.heap.size w w':=by
 unfold cloneP.f at h
 split at h
 ·
  rename_i hg
  obtain ⟨⟨x1,x2,x3⟩,h4⟩:=hg
  obtain ⟨A,n,c,xs⟩:=a0
  simp only at x1 x2 x3 h4 h
  obtain rfl:=Option.some.inj h
  subst x1
  cases A with
  | some ad =>
   exact slices_clone_at.calls ad c xs xs w (Kd.C_below x3 hW) x2 (by unfold slices_clone_at.f;simp only [Option.bind_some];rw [if_pos (by simp;omega)];rfl)
  | none =>
   have hx:xs=[]:=by
    rcases Nat.eq_zero_or_pos xs.length with hz | hz
    ·
     exact List.eq_nil_of_length_eq_zero hz
    ·
     obtain ⟨ad,he,_⟩:=x3.2.2 hz
     cases he
   subst hx
   show Calls Tryz.prog 48 #[.slice none 0 c] w _
   go_enter Tryz.func48,Tryz.ntmps48
   go_wp2
   go_ret
   exact ⟨_,rfl,Kd.R_nil _ _ _ _ _,Below.refl _ _⟩
 ·
  cases h
end Go.Proofs.YtkemjdedikobfaaGreatDoor.PSx
namespace Go.Proofs.YtkemjdedikobfaaGreatDoor.PSx
open PFx (S95 z95 k95 k95_open k95_openM k95_mk k95_mkM rd_T95 at_T95)
open Go.RowKit Go.Proofs.YtkemjdedikobfaaGreatDoorW.PrintWords Go.Proofs.YtkemjdedikobfaaGreatDoorW.PrintLast Go.Proofs.YtkemjdedikobfaaGreatDoorW.PrintMore
set_option linter.unusedVariables false
set_option linter.unusedSimpArgs false
section
variable {P:Program} {ops:Array Oper} {Q:Exit→Act→World→Prop}
theorem gate_slot {rest:List Oper} {o:Oper} {a:Act} {W:World} {t:Tmp} {ags:Array Operand} {ts:Array TypeId} (_ho:o.op=.call { callee:=.value (.tmp t),args:=ags,argTypes:=ts }) (h:wpList P ops Q (o :: rest) a W):wpList P ops Q (o :: rest) a W:=h
theorem goesC_ {rest:List Oper} {oi:Oper} {a:Act} {w:World} {t:Tmp} (N:Option Tmp) (hd:oi.dst=N) (hg:oi.guard=none) {f:FuncId} {fn:Func} {ags:Array Operand} {ts:Array TypeId} {caps:Array Value} (hf:P.funcs[f]?=some fn) (hname:(fn.name == "runtime.NumGoroutine")=false) (hb:fn.body.isSome=true) (args:Array Value)
  (hop:oi.op=.call { callee:=.value (.tmp t),args:=ags,argTypes:=ts }) (hv:a.eval (.tmp t)=.func (.func f) #[] caps) (hargs:ags.map a.eval ++ caps=args)
  (h:Calls P f args w fun e w' => ∃ v,e=.returned v∧wpList P ops Q rest (a.put N v) w'):wpList P ops Q (oi :: rest) a w:=by
 refine wpList_plain hg fun K hK => ?_
 have he:=enters_ hf hname hb args w
 have hrun:(execOp a.eval oi).run P w=.ok (.enter f args) w:=by
  unfold execOp
  simp [hop,resolve,hv,Deferred.ofValue,invoke,hargs,he]
 unfold Oper.wp
 rw [hrun,Oper.upon_enter]
 refine h.mono fun e w'' hh => ?_
 obtain ⟨v,rfl,hk⟩:=hh
 subst hd
 exact hK _ _ hk
end
def cl175.f (n:Int) (a0_0:Int) (a0_1:Int) (a0_2:Int) (a0_3:SV) (a0_4:Int) (a0_5:Int):Option Bool:=some (decide (a0_0=0) || decide (n=0))
set_option maxHeartbeats 8000000 in
set_option maxRecDepth 100000 in
theorem cl175.calls (a0_0:Int) (a0_1:Int) (a0_2:Int) (a0_3:SV) (a0_4:Int) (a0_5:Int) (n:Int) (gb:Nat) (r:Bool) (w:World) (hn:w.heap[gb]?=some (.cells #[.int .i64 n] 3 (0,0))) (h:cl175.f n a0_0 a0_1 a0_2 a0_3 a0_4 a0_5=some r) :
  Calls Tryz.prog 50 #[.agg #[.int .i64 a0_0,.int .i64 a0_1,.int .i64 a0_2,(svv a0_3),.int .i64 a0_4,.int .i64 a0_5],.pointer (some ⟨gb,0,none⟩)] w fun e w' => e=.returned (.bool r)∧Below w.heap.size w w':=by
 have hu174:=Tryz.underlying47
 have HB:=Aside0.mk (Below.refl w.heap.size w)
 have BKn:=Aside0.mk hn
 clear hn
 obtain rfl:=Option.some.inj h
 clear h
 by_cases c1:a0_0=0
 ·
  have c1b0:(a0_0 == 0)=true:=beq_iff_eq.mpr c1
  have c1d:decide (a0_0=0)=true:=decide_eq_true c1
  rw [c1d]
  clear c1
  go_enter Tryz.func50,Tryz.ntmps50
  go_wp2_with (first | ((with_reducible refine gate_dst (N:=2) rfl ?_);refine box_event ?hg (N:=2) ?hd (cs:=#[.int .i64 a0_0,.int .i64 a0_1,.int .i64 a0_2,(svv a0_3),.int .i64 a0_4,.int .i64 a0_5]) (t:=47) ?hr ?_;(case hd => rfl);(case hg => rfl);(case hr => first | (go_simp;done) | (go_simp;rfl));intro gb101 hg w3 hbox hb;have n0_:=Aside0.mk (below_step (by repeat (first | (with_reducible first | exact HB.out | apply below_alloc | apply pw_below_drewN | apply below_drew1) | exact HB.out)) hb);have hczn:w3.cell? ⟨gb,0,none⟩=some (.int .i64 n):=(blk_cell (blk_below (by (with_reducible repeat (first | refine blk_drewN ?_ _ | refine blk_drew ?_ | refine blk_alloc ?_ _));exact BKn.out) hb) 0).trans rfl;have n1_:=Aside0.mk (hbox);have n2_:=Aside0.mk ((by rw [hg];exact (below_size (by repeat (first | (with_reducible first | exact HB.out | apply below_alloc | apply pw_below_drewN | apply below_drew1) | exact HB.out))):w.heap.size ≤ gb101));have n3_:=Aside0.mk ((by rw [hg];exact (below_size (by repeat (first | (with_reducible first | exact HB.out | apply below_alloc | apply pw_below_drewN | apply below_drew1) | exact HB.out))):w.heap.size ≤ gb101));clear HB;have HB:=n0_;have BK101:=n1_;have GW101:=n2_;have GE101:=n3_;clear n0_ n1_ n2_ n3_;clear hb hbox hg;have hcz4_0:w3.cell? ⟨gb101,0,none⟩=some (.int .i64 a0_0):=(blk_cell BK101.out 0).trans rfl;have hcz4_1:w3.cell? ⟨gb101,1,none⟩=some (.int .i64 a0_1):=(blk_cell BK101.out 1).trans rfl;have hcz4_2:w3.cell? ⟨gb101,2,none⟩=some (.int .i64 a0_2):=(blk_cell BK101.out 2).trans rfl;have hcz4_3:w3.cell? ⟨gb101,3,none⟩=some ((svv a0_3)):=(blk_cell BK101.out 3).trans rfl;have hcz4_4:w3.cell? ⟨gb101,4,none⟩=some (.int .i64 a0_4):=(blk_cell BK101.out 4).trans rfl;have hcz4_5:w3.cell? ⟨gb101,5,none⟩=some (.int .i64 a0_5):=(blk_cell BK101.out 5).trans rfl;have hfz4_0:=blk_frozen BK101.out 0;have hfz4_1:=blk_frozen BK101.out 1;have hfz4_2:=blk_frozen BK101.out 2;have hfz4_3:=blk_frozen BK101.out 3;have hfz4_4:=blk_frozen BK101.out 4;have hfz4_5:=blk_frozen BK101.out 5))
  go_ret
  exact ⟨by first | rfl | (simp;done) | (simp [*];done),by repeat (first | (with_reducible first | exact HB.out | apply below_alloc | apply pw_below_drewN | apply below_drew1 | refine below_set ?_ GE101.out) | exact HB.out)⟩
 ·
  have c1b0:(a0_0 == 0)=false:=beq_eq_false_iff_ne.mpr c1
  have c1d:decide (a0_0=0)=false:=decide_eq_false c1
  rw [c1d]
  clear c1
  by_cases c2:n=0
  ·
   have c2b0:(n == 0)=true:=beq_iff_eq.mpr c2
   have c2d:decide (n=0)=true:=decide_eq_true c2
   rw [c2d]
   clear c2
   go_enter Tryz.func50,Tryz.ntmps50
   go_wp2_with (first | ((with_reducible refine gate_dst (N:=2) rfl ?_);refine box_event ?hg (N:=2) ?hd (cs:=#[.int .i64 a0_0,.int .i64 a0_1,.int .i64 a0_2,(svv a0_3),.int .i64 a0_4,.int .i64 a0_5]) (t:=47) ?hr ?_;(case hd => rfl);(case hg => rfl);(case hr => first | (go_simp;done) | (go_simp;rfl));intro gb101 hg w3 hbox hb;have n0_:=Aside0.mk (below_step (by repeat (first | (with_reducible first | exact HB.out | apply below_alloc | apply pw_below_drewN | apply below_drew1) | exact HB.out)) hb);have hczn:w3.cell? ⟨gb,0,none⟩=some (.int .i64 n):=(blk_cell (blk_below (by (with_reducible repeat (first | refine blk_drewN ?_ _ | refine blk_drew ?_ | refine blk_alloc ?_ _));exact BKn.out) hb) 0).trans rfl;have n1_:=Aside0.mk (hbox);have n2_:=Aside0.mk ((by rw [hg];exact (below_size (by repeat (first | (with_reducible first | exact HB.out | apply below_alloc | apply pw_below_drewN | apply below_drew1) | exact HB.out))):w.heap.size ≤ gb101));have n3_:=Aside0.mk ((by rw [hg];exact (below_size (by repeat (first | (with_reducible first | exact HB.out | apply below_alloc | apply pw_below_drewN | apply below_drew1) | exact HB.out))):w.heap.size ≤ gb101));clear HB;have HB:=n0_;have BK101:=n1_;have GW101:=n2_;have GE101:=n3_;clear n0_ n1_ n2_ n3_;clear hb hbox hg;have hcz4_0:w3.cell? ⟨gb101,0,none⟩=some (.int .i64 a0_0):=(blk_cell BK101.out 0).trans rfl;have hcz4_1:w3.cell? ⟨gb101,1,none⟩=some (.int .i64 a0_1):=(blk_cell BK101.out 1).trans rfl;have hcz4_2:w3.cell? ⟨gb101,2,none⟩=some (.int .i64 a0_2):=(blk_cell BK101.out 2).trans rfl;have hcz4_3:w3.cell? ⟨gb101,3,none⟩=some ((svv a0_3)):=(blk_cell BK101.out 3).trans rfl;have hcz4_4:w3.cell? ⟨gb101,4,none⟩=some (.int .i64 a0_4):=(blk_cell BK101.out 4).trans rfl;have hcz4_5:w3.cell? ⟨gb101,5,none⟩=some (.int .i64 a0_5):=(blk_cell BK101.out 5).trans rfl;have hfz4_0:=blk_frozen BK101.out 0;have hfz4_1:=blk_frozen BK101.out 1;have hfz4_2:=blk_frozen BK101.out 2;have hfz4_3:=blk_frozen BK101.out 3;have hfz4_4:=blk_frozen BK101.out 4;have hfz4_5:=blk_frozen BK101.out 5))
   go_ret
   exact ⟨by first | rfl | (simp;done) | (simp [*];done),by repeat (first | (with_reducible first | exact HB.out | apply below_alloc | apply pw_below_drewN | apply below_drew1 | refine below_set ?_ GE101.out) | exact HB.out)⟩
  ·
   have c2b0:(n == 0)=false:=beq_eq_false_iff_ne.mpr c2
   have c2d:decide (n=0)=false:=decide_eq_false c2
   rw [c2d]
   clear c2
   go_enter Tryz.func50,Tryz.ntmps50
   go_wp2_with (first | ((with_reducible refine gate_dst (N:=2) rfl ?_);refine box_event ?hg (N:=2) ?hd (cs:=#[.int .i64 a0_0,.int .i64 a0_1,.int .i64 a0_2,(svv a0_3),.int .i64 a0_4,.int .i64 a0_5]) (t:=47) ?hr ?_;(case hd => rfl);(case hg => rfl);(case hr => first | (go_simp;done) | (go_simp;rfl));intro gb101 hg w3 hbox hb;have n0_:=Aside0.mk (below_step (by repeat (first | (with_reducible first | exact HB.out | apply below_alloc | apply pw_below_drewN | apply below_drew1) | exact HB.out)) hb);have hczn:w3.cell? ⟨gb,0,none⟩=some (.int .i64 n):=(blk_cell (blk_below (by (with_reducible repeat (first | refine blk_drewN ?_ _ | refine blk_drew ?_ | refine blk_alloc ?_ _));exact BKn.out) hb) 0).trans rfl;have n1_:=Aside0.mk (hbox);have n2_:=Aside0.mk ((by rw [hg];exact (below_size (by repeat (first | (with_reducible first | exact HB.out | apply below_alloc | apply pw_below_drewN | apply below_drew1) | exact HB.out))):w.heap.size ≤ gb101));have n3_:=Aside0.mk ((by rw [hg];exact (below_size (by repeat (first | (with_reducible first | exact HB.out | apply below_alloc | apply pw_below_drewN | apply below_drew1) | exact HB.out))):w.heap.size ≤ gb101));clear HB;have HB:=n0_;have BK101:=n1_;have GW101:=n2_;have GE101:=n3_;clear n0_ n1_ n2_ n3_;clear hb hbox hg;have hcz4_0:w3.cell? ⟨gb101,0,none⟩=some (.int .i64 a0_0):=(blk_cell BK101.out 0).trans rfl;have hcz4_1:w3.cell? ⟨gb101,1,none⟩=some (.int .i64 a0_1):=(blk_cell BK101.out 1).trans rfl;have hcz4_2:w3.cell? ⟨gb101,2,none⟩=some (.int .i64 a0_2):=(blk_cell BK101.out 2).trans rfl;have hcz4_3:w3.cell? ⟨gb101,3,none⟩=some ((svv a0_3)):=(blk_cell BK101.out 3).trans rfl;have hcz4_4:w3.cell? ⟨gb101,4,none⟩=some (.int .i64 a0_4):=(blk_cell BK101.out 4).trans rfl;have hcz4_5:w3.cell? ⟨gb101,5,none⟩=some (.int .i64 a0_5):=(blk_cell BK101.out 5).trans rfl;have hfz4_0:=blk_frozen BK101.out 0;have hfz4_1:=blk_frozen BK101.out 1;have hfz4_2:=blk_frozen BK101.out 2;have hfz4_3:=blk_frozen BK101.out 3;have hfz4_4:=blk_frozen BK101.out 4;have hfz4_5:=blk_frozen BK101.out 5))
   go_ret
   exact ⟨by first | rfl | (simp;done) | (simp [*];done),by repeat (first | (with_reducible first | exact HB.out | apply below_alloc | apply pw_below_drewN | apply below_drew1 | refine below_set ?_ GE101.out) | exact HB.out)⟩
def idx175.l0 (n:Int):Nat→List (S174)→Int→Int→Option (Int)
 | 0,_,_,_ => none
 | k + 1,x0,x7,x8 => if x8 < x7 then (if 0 ≤ x8 then (if x8 < (x0.length:Int) then ((cl175.f n ((rd_T174 x0 x8).f0) ((rd_T174 x0 x8).f1.f0) ((rd_T174 x0 x8).f1.f1) ((rd_T174 x0 x8).f1.f2) ((rd_T174 x0 x8).f1.f3.f0) ((rd_T174 x0 x8).f1.f3.f1)).bind fun t104 => (if t104=true then (some x8) else (idx175.l0 n k x0 x7 (wrap64 (x8 + 1))))) else (none)) else (none)) else (some (-1))
def idx175.f (n:Int) (k:Nat) (l0:List (S174)):Option (Int):=idx175.l0 n k l0 (l0.length:Int) 0
set_option maxHeartbeats 8000000 in
set_option maxRecDepth 100000 in
theorem idx175.calls (n:Int) (gb:Nat) (k:Nat) (A0:Option Addr) (c0:Nat) (l0:List (S174)) (r:Int) (w:World) (hn:w.heap[gb]?=some (.cells #[.int .i64 n] 3 (0,0))) (hr0:Kd.C k174 w A0 l0.length l0) (hc0:l0.length ≤ c0) (h:idx175.f n k l0=some r) :
  Calls Tryz.prog 79 #[.slice A0 l0.length c0,.func (.func 50) #[] #[.pointer (some ⟨gb,0,none⟩)]] w fun e w' => e=.returned (.int .i64 r)∧Below w.heap.size w w':=by
 have hu174:=Tryz.underlying47
 have HR0:=Aside0.mk hr0
 have HC0:=Aside0.mk hc0
 have HN:=Aside0.mk hn
 clear hr0 hc0 hn
 have HB:=Aside0.mk (Below.refl w.heap.size w)
 have H:(idx175.l0 n k l0 (l0.length:Int) 0)=some r:=h
 clear h
 have H':=Aside0.mk H
 clear H
 go_enter Tryz.func79,Tryz.ntmps79
 go_wp2
 go_loopg [8] k (fun kq v8 w' => ∃ (x8_1:Int),v8=.int .i64 x8_1∧Aside0 (idx175.l0 n kq l0 (l0.length:Int) x8_1=some r)∧Aside0 (kq ≤ k)∧Aside0 (Below w.heap.size w w'))
 case atStart => exact ⟨(0),(by first | rfl | (simp;done) | (simp [*];done)),H',⟨Nat.le_refl _⟩,⟨by repeat (first | (with_reducible first | exact HB.out | apply below_alloc | apply pw_below_drewN | apply below_drew1) | exact HB.out)⟩⟩
 case round =>
  clear H'
  try clear c1
  try clear p2
  obtain ⟨x8_1,rfl,HA,HK1,HB⟩:=hrel
  cases gk with
  | zero => exact absurd HA.out (by simp [idx175.l0])
  | succ k1 =>
   have H:=HA.out
   clear HA
   simp only [idx175.l0] at H
   by_cases c3:x8_1 < (l0.length:Int)
   ·
    rw [if_pos c3] at H
    have c3b0:decide (x8_1 < (l0.length:Int))=true:=decide_eq_true c3
    clear c3
    by_cases c4:0 ≤ x8_1
    ·
     rw [if_pos c4] at H
     have c4b0:decide (0 ≤ x8_1)=true:=decide_eq_true c4
     clear c4
     by_cases c5:x8_1 < (l0.length:Int)
     ·
      rw [if_pos c5] at H
      have c5b0:decide (x8_1 < (l0.length:Int))=true:=decide_eq_true c5
      clear c5
      replace H:=Option.bind_eq_some_iff.mp H
      obtain ⟨t104,A60,H⟩:=H
      replace H:(if t104=true then (some x8_1) else (idx175.l0 n k1 l0 (l0.length:Int) (wrap64 (x8_1 + 1))))=some r:=H
      have A6:=Aside0.mk A60
      clear A60
      by_cases c7:t104=true
      ·
       subst c7
       have H1:(some x8_1)=some r:=by rw [if_pos rfl] at H;exact H
       clear H
       have H:=H1
       clear H1
       obtain rfl:=Option.some.inj H
       have p103:0 ≤ (x8_1:Int):=of_decide_eq_true (by first | (with_reducible assumption) | assumption)
       have q103:x8_1 < (l0.length:Int):=of_decide_eq_true (by first | (with_reducible assumption) | assumption)
       obtain ⟨ad103,e103,hx103_0,hx103_1,hx103_2,hx103_3,hx103_4,hx103_5⟩:=at_T174 HR0.out x8_1 p103 q103
       cases e103
       replace hx103_0:=(HB.out.cell (World.block_lt_of_cell? w _ hx103_0)).trans hx103_0
       replace hx103_1:=(HB.out.cell (World.block_lt_of_cell? w _ hx103_1)).trans hx103_1
       replace hx103_2:=(HB.out.cell (World.block_lt_of_cell? w _ hx103_2)).trans hx103_2
       replace hx103_3:=(HB.out.cell (World.block_lt_of_cell? w _ hx103_3)).trans hx103_3
       replace hx103_4:=(HB.out.cell (World.block_lt_of_cell? w _ hx103_4)).trans hx103_4
       replace hx103_5:=(HB.out.cell (World.block_lt_of_cell? w _ hx103_5)).trans hx103_5
       replace p103:=eq_true p103
       replace q103:=eq_true q103
       go_wp2_with (first | ((with_reducible refine gate_slot (t:=11) rfl ?_);refine goesC_ (t:=11) (some 16) rfl rfl Tryz.func50 (by kernel_rfl) rfl #[.agg #[.int .i64 ((rd_T174 l0 x8_1).f0),.int .i64 ((rd_T174 l0 x8_1).f1.f0),.int .i64 ((rd_T174 l0 x8_1).f1.f1),(svv ((rd_T174 l0 x8_1).f1.f2)),.int .i64 ((rd_T174 l0 x8_1).f1.f3.f0),.int .i64 ((rd_T174 l0 x8_1).f1.f3.f1)],.pointer (some ⟨gb,0,none⟩)] rfl rfl (by (try simp only [List.map_toArray,List.map_cons,List.map_nil]);first | done | rfl | (simp only [List.length_drop,List.length_take];rfl)) ?_;(with_reducible refine (cl175.calls ((rd_T174 l0 x8_1).f0) ((rd_T174 l0 x8_1).f1.f0) ((rd_T174 l0 x8_1).f1.f1) ((rd_T174 l0 x8_1).f1.f2) ((rd_T174 l0 x8_1).f1.f3.f0) ((rd_T174 l0 x8_1).f1.f3.f1) n gb true _ (by (with_reducible repeat (first | refine blk_drewN ?_ _ | refine blk_drew ?_ | refine blk_alloc ?_ _));exact blk_below HN.out HB.out) A6.out).mono ?_);rintro e w8 ⟨rfl,hb⟩;refine ⟨_,rfl,?_⟩;have n0_:=Aside0.mk (below_step (by repeat (first | (with_reducible first | exact HB.out | apply below_alloc | apply pw_below_drewN | apply below_drew1) | exact HB.out)) hb);clear HB;have HB:=n0_;clear n0_;(try clear hb);(try clear hb2);(try clear hk);(try clear hi)))
       go_ret
       exact ⟨by first | rfl | (simp [errW_none,errW_some] <;> rfl) | (simp [*,errW_none,errW_some] <;> rfl),by repeat (first | (with_reducible first | exact HB.out | apply below_alloc | apply pw_below_drewN | apply below_drew1) | exact HB.out)⟩
      ·
       replace c7:=Bool.eq_false_iff.mpr c7
       subst c7
       have H1:(idx175.l0 n k1 l0 (l0.length:Int) (wrap64 (x8_1 + 1)))=some r:=by rw [if_neg (show ¬ (false=true) by decide)] at H;exact H
       clear H
       have H:=H1
       clear H1
       have H':=Aside0.mk H
       clear H
       have p103:0 ≤ (x8_1:Int):=of_decide_eq_true (by first | (with_reducible assumption) | assumption)
       have q103:x8_1 < (l0.length:Int):=of_decide_eq_true (by first | (with_reducible assumption) | assumption)
       obtain ⟨ad103,e103,hx103_0,hx103_1,hx103_2,hx103_3,hx103_4,hx103_5⟩:=at_T174 HR0.out x8_1 p103 q103
       cases e103
       replace hx103_0:=(HB.out.cell (World.block_lt_of_cell? w _ hx103_0)).trans hx103_0
       replace hx103_1:=(HB.out.cell (World.block_lt_of_cell? w _ hx103_1)).trans hx103_1
       replace hx103_2:=(HB.out.cell (World.block_lt_of_cell? w _ hx103_2)).trans hx103_2
       replace hx103_3:=(HB.out.cell (World.block_lt_of_cell? w _ hx103_3)).trans hx103_3
       replace hx103_4:=(HB.out.cell (World.block_lt_of_cell? w _ hx103_4)).trans hx103_4
       replace hx103_5:=(HB.out.cell (World.block_lt_of_cell? w _ hx103_5)).trans hx103_5
       replace p103:=eq_true p103
       replace q103:=eq_true q103
       go_wp2_with (first | ((with_reducible refine gate_slot (t:=11) rfl ?_);refine goesC_ (t:=11) (some 16) rfl rfl Tryz.func50 (by kernel_rfl) rfl #[.agg #[.int .i64 ((rd_T174 l0 x8_1).f0),.int .i64 ((rd_T174 l0 x8_1).f1.f0),.int .i64 ((rd_T174 l0 x8_1).f1.f1),(svv ((rd_T174 l0 x8_1).f1.f2)),.int .i64 ((rd_T174 l0 x8_1).f1.f3.f0),.int .i64 ((rd_T174 l0 x8_1).f1.f3.f1)],.pointer (some ⟨gb,0,none⟩)] rfl rfl (by (try simp only [List.map_toArray,List.map_cons,List.map_nil]);first | done | rfl | (simp only [List.length_drop,List.length_take];rfl)) ?_;(with_reducible refine (cl175.calls ((rd_T174 l0 x8_1).f0) ((rd_T174 l0 x8_1).f1.f0) ((rd_T174 l0 x8_1).f1.f1) ((rd_T174 l0 x8_1).f1.f2) ((rd_T174 l0 x8_1).f1.f3.f0) ((rd_T174 l0 x8_1).f1.f3.f1) n gb false _ (by (with_reducible repeat (first | refine blk_drewN ?_ _ | refine blk_drew ?_ | refine blk_alloc ?_ _));exact blk_below HN.out HB.out) A6.out).mono ?_);rintro e w9 ⟨rfl,hb⟩;refine ⟨_,rfl,?_⟩;have n0_:=Aside0.mk (below_step (by repeat (first | (with_reducible first | exact HB.out | apply below_alloc | apply pw_below_drewN | apply below_drew1) | exact HB.out)) hb);clear HB;have HB:=n0_;clear n0_;(try clear hb);(try clear hb2);(try clear hk);(try clear hi)))
       go_roundg k1
       case measure => have:=HK1.out;omega
       case rel => exact ⟨(wrap64 (x8_1 + 1)),(by first | rfl | (simp;done) | (simp [*];done)),H',⟨by have:=HK1.out;omega⟩,⟨by repeat (first | (with_reducible first | exact HB.out | apply below_alloc | apply pw_below_drewN | apply below_drew1) | exact HB.out)⟩⟩
     ·
      rw [if_neg c5] at H
      exact absurd H (by simp)
    ·
     rw [if_neg c4] at H
     exact absurd H (by simp)
   ·
    rw [if_neg c3] at H
    have c3b0:decide (x8_1 < (l0.length:Int))=false:=decide_eq_false c3
    clear c3
    obtain rfl:=Option.some.inj H
    go_wp2
    go_ret
    exact ⟨by first | rfl | (simp [errW_none,errW_some] <;> rfl) | (simp [*,errW_none,errW_some] <;> rfl),by repeat (first | (with_reducible first | exact HB.out | apply below_alloc | apply pw_below_drewN | apply below_drew1) | exact HB.out)⟩
end Go.Proofs.YtkemjdedikobfaaGreatDoor.PSx
namespace Go.Proofs.YtkemjdedikobfaaGreatDoor.PSx
open PFx (S95 z95 k95 k95_open k95_openM k95_mk k95_mkM rd_T95 at_T95)
open Go.RowKit Go.Proofs.YtkemjdedikobfaaGreatDoorW.PrintWords Go.Proofs.YtkemjdedikobfaaGreatDoorW.PrintLast Go.Proofs.YtkemjdedikobfaaGreatDoorW.PrintMore
set_option linter.unusedVariables false
set_option linter.unusedSimpArgs false
section
variable {w w1 w2:World} {row:Option Nat}
theorem grown_refl (w:World) (row:Option Nat):w.grownBy w row:=⟨rfl,rfl,rfl,Nat.le_refl _,fun _ _ _ => rfl⟩
theorem grown_trans (h1:w.grownBy w1 row) (h2:w1.grownBy w2 row):w.grownBy w2 row :=
 ⟨h2.os.trans h1.os,h2.tape.trans h1.tape,h2.output.trans h1.output,Nat.le_trans h1.size h2.size,fun k hk hne => (h2.block k (Nat.lt_of_lt_of_le hk h1.size) hne).trans (h1.block k hk hne)⟩
theorem grown_of_below (h:Below w.heap.size w w1):w.grownBy w1 row:=⟨h.os,h.tape,h.output,h.size,fun k hk _ => h.block k hk⟩
theorem grown_below (h1:w.grownBy w1 row) (hb:Below w1.heap.size w1 w2):w.grownBy w2 row:=grown_trans h1 (grown_of_below hb)
theorem grown_alloc (h1:w.grownBy w1 row) (o:Obj):w.grownBy (w1.alloc o) row:=grown_below h1 (below_alloc (Below.refl _ _) o)
theorem grown_drewN (h1:w.grownBy w1 row) (n:Nat):w.grownBy (w1.drewN n) row:=grown_below h1 (pw_below_drewN (Below.refl _ _) n)
theorem grown_drew (h1:w.grownBy w1 row):w.grownBy w1.drew row:=grown_below h1 (below_drew1 (Below.refl _ _))
theorem grown_set (h1:w.grownBy w1 row) {g j:Nat} (ha:w.heap.size ≤ g) (v:Value):w.grownBy (w1.setCell ⟨g,j,none⟩ v) row:=by
 have hb:=(Below.refl w.heap.size w1).setCell (p:=⟨g,j,none⟩) ha v
 exact ⟨hb.os.trans h1.os,hb.tape.trans h1.tape,hb.output.trans h1.output,Nat.le_trans h1.size hb.size,fun k hk hne => (hb.block k hk).trans (h1.block k hk hne)⟩
end
section
variable {P:Program} {ops:Array Oper} {Q:Exit→Act→World→Prop}
theorem clear_event {rest:List Oper} {o:Oper} {a:Act} {W W2:World} {t:TypeId} (hgd:o.guard=none) (x:Operand) (ho:o.op=.call { callee:=.builtin .clear,args:=#[x],argTypes:=#[t] })
  (hrun:∀ ty,(Builtin.clear_ #[t] ty #[a.eval x]).run P W=.ok (.tuple #[]) W2) (h:wpList P ops Q rest (a.put o.dst (.tuple #[])) W2):wpList P ops Q (o :: rest) a W:=by
 refine wpList_plain hgd fun K hK => ?_
 have h1:(execOp a.eval o).run P W=.ok (.value (.tuple #[])) W2:=by
  unfold execOp
  simp [ho,resolve,Deferred.ofValue,invoke,builtin,hrun]
 unfold Oper.wp
 rw [h1]
 exact hK _ _ h
theorem clear_row {α:Type} (d:Kd α) {e t base g n cap:Nat} {W:World} {ok:Nat→Prop} {xs:List α} (h:d.R e W base ok (.slice (some ⟨g,0,none⟩) n cap) xs) (m:Nat) (hm:m < n)
  (ht:P.underlying t=some (.slice e)) (z:Value) (hv:∀ w,(zeroValue e).run P w=.ok z w) (hz:z.cells.size=d.sz) (h1:∀ i:Nat,(z.cells[i]!:Value).oneCell'=true) :
  ∃ W2,(∀ ty c',(Builtin.clear_ #[t] ty #[.slice (some ⟨g,m * d.sz,none⟩) (n - m) c']).run P W=.ok (.tuple #[]) W2)∧d.R e W2 base ok (.slice (some ⟨g,0,none⟩) m cap) (xs.take m)∧W.grownBy W2 (some g):=by
 have hR:=Kd.R_take (m:=m) h (by have:=(Kd.R_reads' h).1;omega)
 obtain ⟨hn,hnc,_⟩:=Kd.R_reads' h
 obtain ⟨hok,inner,ho,hr⟩:=h
 obtain ⟨ho1,ho2⟩:=ho
 rcases ho2 with ⟨hv',_⟩ | ⟨g',cap',cur,hv',hb,hh,hnc',hcm,hcs,ht'⟩
 ·
  cases hv'
 injection hv' with ha _ hc
 injection ha with ha
 injection ha with hg
 subst hg;subst hc
 obtain ⟨vs,hvs⟩:∃ vs,vs=(Builtin.zeroCells z.cells (n - m)).toList:=⟨_,rfl⟩
 have hvl:vs.length=(n - m) * d.sz:=by rw [hvs,← hz];simp [Builtin.zeroCells]
 have hvo:∀ v ∈ vs,v.oneCell'=true:=by
  intro v hv2
  rw [hvs] at hv2
  simp only [Builtin.zeroCells,Array.toList_map,List.mem_map] at hv2
  obtain ⟨i,_,rfl⟩:=hv2
  exact h1 _
 have hsum:m * d.sz + (n - m) * d.sz=n * d.sz:=by rw [← Nat.add_mul];congr 1;omega
 have hle:n * d.sz ≤ cap * d.sz:=Nat.mul_le_mul_right _ hnc
 have hfit:m * d.sz + vs.length ≤ cur.size:=by rw [hvl,hsum,hcs];exact hle
 obtain ⟨cur',h3,h4,h5⟩:=setCells_row vs (m * d.sz) W cur hh hfit
 obtain ⟨s1,s2,s3,s4⟩:=setCells_same g vs (m * d.sz) W
 have hg:W.grownBy (W.setCells g (m * d.sz) vs) (some g):=⟨s1,s2,s3,by rw [s4];exact Nat.le_refl _,fun k _ hk => setCells_far vs _ k (fun he => hk (by rw [he]))⟩
 refine ⟨W.setCells g (m * d.sz) vs,fun ty c' => ?_,?_,hg⟩
 ·
  have hst:=run_storeCells_cells (P:=P) g (m * d.sz) vs 0 W (fun j hj => by
    rw [Nat.add_zero,cell_of_row W g _ cur e (0,0) hh,Array.getElem?_eq_getElem (by omega)];rfl) (fun j hj => by rw [Nat.add_zero];exact blk_frozen hh _) hvo
  simp only [Nat.add_zero] at hst
  rw [hvs] at hst
  obtain ⟨q,hq⟩:∃ q,n - m=q + 1:=⟨n - m - 1,by omega⟩
  rw [hvs]
  rw [hq] at hst ⊢
  simp [Builtin.clear_,run_underlying ht,hv,hst]
 ·
  obtain ⟨hok',inner',ho',hr'⟩:=hR
  obtain ⟨p1,p2⟩:=ho'
  rcases p2 with ⟨hv',_⟩ | ⟨g',cap',cur2,hv',hb',hh',q1,q2,q3,q4⟩
  ·
   cases hv'
  injection hv' with ha _ hc
  injection ha with ha
  injection ha with hg'
  subst hg';subst hc
  rw [hh] at hh'
  injection hh' with hh'
  injection hh' with hh'
  subst hh'
  have hml:(xs.take m).length=m:=by rw [List.length_take];omega
  refine ⟨hok',inner',⟨p1,.inr ⟨g,cap,cur',by rw [hml],hb,h3,q1,hcm,by rw [h4,hcs],?_⟩⟩,hr'.imp_ (fun _ _ hp => Kd.M_grown hp hg (fun k hk => hk.2))⟩
  rw [← q4,hml,h5]
  rw [List.append_assoc,List.take_append_of_le_length (by rw [List.length_take,Array.length_toList];omega),List.take_take,Nat.min_self]
end
def del.l0 (n:Int):Nat→List S174→Int→Int→Option (List S174 × Int)
 | 0,_,_,_ => none
 | k + 1,x0,x5,x6 => if x6 < (x0.length:Int) then (if 0 ≤ x6 then ((cl175.f n ((rd_T174 x0 x6).f0) ((rd_T174 x0 x6).f1.f0) ((rd_T174 x0 x6).f1.f1) ((rd_T174 x0 x6).f1.f2) ((rd_T174 x0 x6).f1.f3.f0) ((rd_T174 x0 x6).f1.f3.f1)).bind fun t => (if t=true then del.l0 n k x0 x5 (wrap64 (x6 + 1)) else (if 0 ≤ x5 then (if x5 < (x0.length:Int) then del.l0 n k (x0.set x5.toNat (rd_T174 x0 x6)) (wrap64 (x5 + 1)) (wrap64 (x6 + 1)) else none) else none))) else none) else some (x0,x5)
def delF.f (n:Int) (k:Nat) (l0:List S174):Option (List S174):=(idx175.f n k l0).bind fun i => if i=-1 then some l0 else (del.l0 n k l0 i (wrap64 (i + 1))).bind fun q => if 0 ≤ q.2 then (if q.2 < (q.1.length:Int) then some (q.1.take q.2.toNat) else none) else none
theorem zero174 (w:World):(zeroValue 47).run Tryz.prog w=.ok (.agg #[(.int .i64 0),(.int .i64 0),(.int .i64 0),(.slice none 0 0),(.int .i64 0),(.int .i64 0)]) w:=by
 obtain ⟨i0,hi,hzz⟩:=Option.map_eq_some_iff.1 info47
 simp only [Prod.mk.injEq] at hzz
 simp [zeroValue,typeInfo,hi,hzz.1]
end Go.Proofs.YtkemjdedikobfaaGreatDoor.PSx
namespace Go.Proofs.YtkemjdedikobfaaGreatDoor.PSx
open PFx (S95 z95 k95 k95_open k95_openM k95_mk k95_mkM rd_T95 at_T95)
open Go.RowKit Go.Proofs.YtkemjdedikobfaaGreatDoorW.PrintWords Go.Proofs.YtkemjdedikobfaaGreatDoorW.PrintLast Go.Proofs.YtkemjdedikobfaaGreatDoorW.PrintMore
set_option linter.unusedVariables false
set_option linter.unusedSimpArgs false
theorem z6_one (i:Nat):(((.agg #[(.int .i64 0),(.int .i64 0),(.int .i64 0),(.slice none 0 0),(.int .i64 0),(.int .i64 0)]:Value).cells[i]!):Value).oneCell'=true:=by
 match i with
 | 0 => rfl
 | 1 => rfl
 | 2 => rfl
 | 3 => rfl
 | 4 => rfl
 | 5 => rfl
 | n + 6 => rfl
theorem idx_nil (n:Int) (k:Nat) (t:Int) (h:idx175.f n k []=some t):t=-1:=by
 unfold idx175.f at h
 cases k with
 | zero => simp [idx175.l0] at h
 | succ k => simp [idx175.l0] at h;exact h.symm
set_option maxHeartbeats 8000000 in
set_option maxRecDepth 100000 in
theorem delF.calls (n:Int) (gb:Nat) (k:Nat) (base:Nat) (ok:Nat→Prop) (A0:Option Addr) (c0:Nat) (l0 r:List S174) (w:World) (hn:w.heap[gb]?=some (.cells #[.int .i64 n] 3 (0,0))) (ho:Kd.R k174 47 w base ok (.slice A0 l0.length c0) l0) (h:delF.f n k l0=some r) :
  Calls Tryz.prog 49 #[.slice A0 l0.length c0,.func (.func 50) #[] #[.pointer (some ⟨gb,0,none⟩)]] w fun e w' => ∃ v:Value,e=.returned v∧Kd.R k174 47 w' base ok v r∧w.grownBy w' (Value.slice A0 l0.length c0).ownBlock∧v.ownBlock=(Value.slice A0 l0.length c0).ownBlock:=by
 have hu174:=Tryz.underlying47
 have hu43:=Tryz.underlying22
 have HO:=Aside0.mk ho
 have HN:=Aside0.mk hn
 clear ho hn
 unfold delF.f at h
 obtain ⟨t1,A10,H⟩:=Option.bind_eq_some_iff.mp h
 clear h
 have A1:=Aside0.mk A10
 by_cases c1:t1=-1
 ·
  rw [if_pos c1] at H
  obtain rfl:=Option.some.inj H
  have c1b0:(t1 == -1)=true:=beq_iff_eq.mpr c1
  clear c1 A10 H
  have HG:=Aside0.mk (grown_refl w (Value.slice A0 l0.length c0).ownBlock)
  go_enter Tryz.func49,Tryz.ntmps49
  go_wp2_with (first | ((with_reducible refine gate_callee (f:=79) rfl ?_);refine goesL_ (some 10) rfl rfl Tryz.func79 (by kernel_rfl) rfl #[.slice A0 l0.length c0,.func (.func 50) #[] #[.pointer (some ⟨gb,0,none⟩)]] rfl (by (try simp only [List.map_toArray,List.map_cons,List.map_nil]);first | done | rfl | (simp only [List.length_drop,List.length_take];rfl)) ?_;(with_reducible refine (idx175.calls n gb k A0 c0 l0 t1 _ ?sn ?sr ?sc A1.out).mono ?_);(case sn => exact (by (with_reducible repeat (first | refine blk_drewN ?_ _ | refine blk_drew ?_ | refine blk_alloc ?_ _));exact HN.out));(case sr => exact (Kd.R_reads' (by (with_reducible repeat (first | apply Kd.R_alloc | apply Kd.R_drewN | apply Kd.R_drew));exact HO.out)).2.2);(case sc => exact (Kd.R_reads' HO.out).2.1);rintro e w1 ⟨rfl,hb⟩;refine ⟨_,rfl,?_⟩;have n0_:=Aside0.mk (Kd.R_below (by (with_reducible repeat (first | apply Kd.R_alloc | apply Kd.R_drewN | apply Kd.R_drew));exact HO.out) hb);have n1_:=Aside0.mk (blk_below (g:=gb) (o:=.cells #[.int .i64 n] 3 (0,0)) (by (with_reducible repeat (first | refine blk_drewN ?_ _ | refine blk_drew ?_ | refine blk_alloc ?_ _));exact HN.out) hb);have n2_:=Aside0.mk (grown_below (by repeat (first | (with_reducible exact HG.out) | (with_reducible apply grown_alloc) | (with_reducible apply grown_drewN) | (with_reducible apply grown_drew) | exact HG.out)) hb);clear HO HN HG;have HO:=n0_;have HN:=n1_;have HG:=n2_;clear n0_ n1_ n2_ hb))
  go_ret
  exact ⟨_,rfl,(by (with_reducible repeat (first | apply Kd.R_alloc | apply Kd.R_drewN | apply Kd.R_drew));exact HO.out),(by repeat (first | (with_reducible exact HG.out) | (with_reducible apply grown_alloc) | (with_reducible apply grown_drewN) | (with_reducible apply grown_drew) | exact HG.out)),rfl⟩
 ·
  rw [if_neg c1] at H
  have c1b0:(t1 == -1)=false:=beq_eq_false_iff_ne.mpr c1
  have hpos:0 < l0.length:=by
   rcases Nat.eq_zero_or_pos l0.length with hz | hz
   ·
    have hz2:=List.eq_nil_of_length_eq_zero hz
    rw [hz2] at A10
    exact absurd (idx_nil n k t1 A10) c1
   ·
    exact hz
  clear c1 A10
  obtain ⟨ad,c_,he⟩:=Kd.R_slice1 HO.out hpos
  injection he with he1 he2 he3
  subst he1
  clear he2 he3
  obtain ⟨g,hg0⟩:=Kd.R_head HO.out
  subst hg0
  have HG:=Aside0.mk (grown_refl w (some g))
  have NG:Aside0 (some gb ≠ some g):=⟨fun e_ => by
   have h_:=Kd.R_ne (t:=3) HO.out HN.out (by decide)
   exact h_ e_⟩
  obtain ⟨⟨z,m⟩,A20,H⟩:=Option.bind_eq_some_iff.mp H
  have HM:=Aside0.mk H
  clear H
  have H':=Aside0.mk A20
  clear A20
  go_enter Tryz.func49,Tryz.ntmps49
  go_wp2_with (first | ((with_reducible refine gate_callee (f:=79) rfl ?_);refine goesL_ (some 10) rfl rfl Tryz.func79 (by kernel_rfl) rfl #[.slice (some ⟨g,0,none⟩) l0.length c0,.func (.func 50) #[] #[.pointer (some ⟨gb,0,none⟩)]] rfl (by (try simp only [List.map_toArray,List.map_cons,List.map_nil]);first | done | rfl | (simp only [List.length_drop,List.length_take];rfl)) ?_;(with_reducible refine (idx175.calls n gb k (some ⟨g,0,none⟩) c0 l0 t1 _ ?sn ?sr ?sc A1.out).mono ?_);(case sn => exact (by (with_reducible repeat (first | refine blk_drewN ?_ _ | refine blk_drew ?_ | refine blk_alloc ?_ _));exact HN.out));(case sr => exact (Kd.R_reads' (by (with_reducible repeat (first | apply Kd.R_alloc | apply Kd.R_drewN | apply Kd.R_drew));exact HO.out)).2.2);(case sc => exact (Kd.R_reads' HO.out).2.1);rintro e w1 ⟨rfl,hb⟩;refine ⟨_,rfl,?_⟩;have n0_:=Aside0.mk (Kd.R_below (by (with_reducible repeat (first | apply Kd.R_alloc | apply Kd.R_drewN | apply Kd.R_drew));exact HO.out) hb);have n1_:=Aside0.mk (blk_below (g:=gb) (o:=.cells #[.int .i64 n] 3 (0,0)) (by (with_reducible repeat (first | refine blk_drewN ?_ _ | refine blk_drew ?_ | refine blk_alloc ?_ _));exact HN.out) hb);have n2_:=Aside0.mk (grown_below (by repeat (first | (with_reducible exact HG.out) | (with_reducible apply grown_alloc) | (with_reducible apply grown_drewN) | (with_reducible apply grown_drew) | exact HG.out)) hb);clear HO HN HG;have HO:=n0_;have HN:=n1_;have HG:=n2_;clear n0_ n1_ n2_ hb))
  obtain ⟨n5_,hn5_⟩:∃ n_:Nat,n_=l0.length:=⟨_,rfl⟩
  (try simp only [Act.put,List.setIfInBounds_toArray,List.set_cons_zero,List.set_cons_succ])
  rw [← hn5_]
  go_loopg [5,6] k (fun kq v5 v6 w' => ∃ (x0:List (S174)) (x5 x6:Int),Aside0 (x0.length=n5_)∧v5=.int .i64 x5∧v6=.int .i64 x6∧Aside0 (del.l0 n kq x0 x5 x6=some (z,m))∧Aside0 (kq ≤ k)∧Aside0 (Kd.R k174 47 w' base ok (.slice (some ⟨g,0,none⟩) n5_ c0) x0)∧Aside0 (w'.heap[gb]?=some (.cells #[.int .i64 n] 3 (0,0)))∧Aside0 (w.grownBy w' (some g)))
  case atStart => exact ⟨l0,t1,(wrap64 (t1 + 1)),⟨hn5_.symm⟩,(by first | rfl | (simp;done) | (simp [*];done)),(by first | rfl | (simp;done) | (simp [*];done)),H',⟨Nat.le_refl _⟩,⟨by rw [hn5_];(with_reducible repeat (first | apply Kd.R_alloc | apply Kd.R_drewN | apply Kd.R_drew));exact HO.out⟩,⟨by (with_reducible repeat (first | refine blk_drewN ?_ _ | refine blk_drew ?_ | refine blk_alloc ?_ _));exact HN.out⟩,⟨(by repeat (first | (with_reducible exact HG.out) | (with_reducible apply grown_alloc) | (with_reducible apply grown_drewN) | (with_reducible apply grown_drew) | exact HG.out))⟩⟩
  case round =>
   clear H' HO HN HG hn5_
   obtain ⟨x0,x5,x6,HL5,rfl,rfl,HA,HK1,HO,HN,HG⟩:=hrel
   replace HL5:=HL5.out
   subst HL5
   cases gk with
   | zero => exact absurd HA.out (by simp [del.l0])
   | succ k1 =>
    have H:=HA.out
    clear HA
    simp only [del.l0] at H
    by_cases c3:x6 < (x0.length:Int)
    ·
     rw [if_pos c3] at H
     have c3b0:decide (x6 < (x0.length:Int))=true:=decide_eq_true c3
     by_cases c4:0 ≤ x6
     ·
      rw [if_pos c4] at H
      have c4b0:decide (0 ≤ x6)=true:=decide_eq_true c4
      obtain ⟨t104,A60,H⟩:=Option.bind_eq_some_iff.mp H
      have A6:=Aside0.mk A60
      clear A60
      have p103:0 ≤ x6:=c4
      have q103:x6 < (x0.length:Int):=c3
      obtain ⟨cx,hcl_,hM_,hcc_,_⟩:=Kd.R_elem HO.out z174 x6 p103 q103
      obtain rfl:=k174_openM hM_
      have hx_0:wr.cell? ⟨g,x6.toNat * 6,none⟩=some (.int .i64 ((rd_T174 x0 x6).f0)):=hcc_ 0 _ rfl
      have hx_1:wr.cell? ⟨g,x6.toNat * 6 + 1,none⟩=some (.int .i64 ((rd_T174 x0 x6).f1.f0)):=hcc_ 1 _ rfl
      have hx_2:wr.cell? ⟨g,x6.toNat * 6 + 2,none⟩=some (.int .i64 ((rd_T174 x0 x6).f1.f1)):=hcc_ 2 _ rfl
      have hx_3:wr.cell? ⟨g,x6.toNat * 6 + 3,none⟩=some ((svv ((rd_T174 x0 x6).f1.f2))):=hcc_ 3 _ rfl
      have hx_4:wr.cell? ⟨g,x6.toNat * 6 + 4,none⟩=some (.int .i64 ((rd_T174 x0 x6).f1.f3.f0)):=hcc_ 4 _ rfl
      have hx_5:wr.cell? ⟨g,x6.toNat * 6 + 5,none⟩=some (.int .i64 ((rd_T174 x0 x6).f1.f3.f1)):=hcc_ 5 _ rfl
      clear hcl_ hM_ hcc_ c3 c4
      replace p103:=eq_true p103
      replace q103:=eq_true q103
      by_cases c7:t104=true
      ·
       subst c7
       rw [if_pos rfl] at H
       have H':=Aside0.mk H
       clear H
       go_wp2_with (first | ((with_reducible refine gate_slot (t:=26) rfl ?_);refine goesC_ (t:=26) (some 28) rfl rfl Tryz.func50 (by kernel_rfl) rfl #[.agg #[.int .i64 ((rd_T174 x0 x6).f0),.int .i64 ((rd_T174 x0 x6).f1.f0),.int .i64 ((rd_T174 x0 x6).f1.f1),(svv ((rd_T174 x0 x6).f1.f2)),.int .i64 ((rd_T174 x0 x6).f1.f3.f0),.int .i64 ((rd_T174 x0 x6).f1.f3.f1)],.pointer (some ⟨gb,0,none⟩)] rfl rfl (by (try simp only [List.map_toArray,List.map_cons,List.map_nil]);first | done | rfl | (simp only [List.length_drop,List.length_take];rfl)) ?_;(with_reducible refine (cl175.calls ((rd_T174 x0 x6).f0) ((rd_T174 x0 x6).f1.f0) ((rd_T174 x0 x6).f1.f1) ((rd_T174 x0 x6).f1.f2) ((rd_T174 x0 x6).f1.f3.f0) ((rd_T174 x0 x6).f1.f3.f1) n gb true _ (by (with_reducible repeat (first | refine blk_drewN ?_ _ | refine blk_drew ?_ | refine blk_alloc ?_ _));exact HN.out) A6.out).mono ?_);rintro e w4 ⟨rfl,hb⟩;refine ⟨_,rfl,?_⟩;have n0_:=Aside0.mk (Kd.R_below (by (with_reducible repeat (first | apply Kd.R_alloc | apply Kd.R_drewN | apply Kd.R_drew));exact HO.out) hb);have n1_:=Aside0.mk (blk_below (g:=gb) (o:=.cells #[.int .i64 n] 3 (0,0)) (by (with_reducible repeat (first | refine blk_drewN ?_ _ | refine blk_drew ?_ | refine blk_alloc ?_ _));exact HN.out) hb);have n2_:=Aside0.mk (grown_below (by repeat (first | (with_reducible exact HG.out) | (with_reducible apply grown_alloc) | (with_reducible apply grown_drewN) | (with_reducible apply grown_drew) | exact HG.out)) hb);have n3_:=Aside0.mk (blk_below (g:=wr.heap.size) (o:=.cells #[.int .i64 ((rd_T174 x0 x6).f0),.int .i64 ((rd_T174 x0 x6).f1.f0),.int .i64 ((rd_T174 x0 x6).f1.f1),(svv ((rd_T174 x0 x6).f1.f2)),.int .i64 ((rd_T174 x0 x6).f1.f3.f0),.int .i64 ((rd_T174 x0 x6).f1.f3.f1)] 47 (0,0)) (by show (wr.heap.push _)[wr.heap.size]?=_;exact Array.getElem?_push_size) hb);clear HO HN HG;have HO:=n0_;have HN:=n1_;have HG:=n2_;have BKv:=n3_;clear n0_ n1_ n2_ n3_;have hcy_0:w4.cell? ⟨wr.heap.size,0,none⟩=some (.int .i64 ((rd_T174 x0 x6).f0)):=(blk_cell BKv.out 0).trans rfl;have hcy_1:w4.cell? ⟨wr.heap.size,1,none⟩=some (.int .i64 ((rd_T174 x0 x6).f1.f0)):=(blk_cell BKv.out 1).trans rfl;have hcy_2:w4.cell? ⟨wr.heap.size,2,none⟩=some (.int .i64 ((rd_T174 x0 x6).f1.f1)):=(blk_cell BKv.out 2).trans rfl;have hcy_3:w4.cell? ⟨wr.heap.size,3,none⟩=some ((svv ((rd_T174 x0 x6).f1.f2))):=(blk_cell BKv.out 3).trans rfl;have hcy_4:w4.cell? ⟨wr.heap.size,4,none⟩=some (.int .i64 ((rd_T174 x0 x6).f1.f3.f0)):=(blk_cell BKv.out 4).trans rfl;have hcy_5:w4.cell? ⟨wr.heap.size,5,none⟩=some (.int .i64 ((rd_T174 x0 x6).f1.f3.f1)):=(blk_cell BKv.out 5).trans rfl;clear hb))
       go_roundg k1
       case measure => have:=HK1.out;omega
       case rel => exact ⟨x0,x5,(wrap64 (x6 + 1)),⟨rfl⟩,(by first | rfl | (simp;done) | (simp [*];done)),(by first | rfl | (simp;done) | (simp [*];done)),H',⟨by have:=HK1.out;omega⟩,⟨(by (with_reducible repeat (first | apply Kd.R_alloc | apply Kd.R_drewN | apply Kd.R_drew));exact HO.out)⟩,⟨by (with_reducible repeat (first | refine blk_drewN ?_ _ | refine blk_drew ?_ | refine blk_alloc ?_ _));exact HN.out⟩,⟨(by repeat (first | (with_reducible exact HG.out) | (with_reducible apply grown_alloc) | (with_reducible apply grown_drewN) | (with_reducible apply grown_drew) | exact HG.out))⟩⟩
      ·
       replace c7:=Bool.eq_false_iff.mpr c7
       subst c7
       rw [if_neg (show ¬ (false=true) by decide)] at H
       by_cases c5:0 ≤ x5
       ·
        rw [if_pos c5] at H
        by_cases c6:x5 < (x0.length:Int)
        ·
         rw [if_pos c6] at H
         have h5a:=c5
         have h5b:=c6
         replace c5:=eq_true c5
         replace c6:=eq_true c6
         have H':=Aside0.mk H
         clear H
         go_wp2_with (first | ((with_reducible refine gate_slot (t:=26) rfl ?_);refine goesC_ (t:=26) (some 28) rfl rfl Tryz.func50 (by kernel_rfl) rfl #[.agg #[.int .i64 ((rd_T174 x0 x6).f0),.int .i64 ((rd_T174 x0 x6).f1.f0),.int .i64 ((rd_T174 x0 x6).f1.f1),(svv ((rd_T174 x0 x6).f1.f2)),.int .i64 ((rd_T174 x0 x6).f1.f3.f0),.int .i64 ((rd_T174 x0 x6).f1.f3.f1)],.pointer (some ⟨gb,0,none⟩)] rfl rfl (by (try simp only [List.map_toArray,List.map_cons,List.map_nil]);first | done | rfl | (simp only [List.length_drop,List.length_take];rfl)) ?_;(with_reducible refine (cl175.calls ((rd_T174 x0 x6).f0) ((rd_T174 x0 x6).f1.f0) ((rd_T174 x0 x6).f1.f1) ((rd_T174 x0 x6).f1.f2) ((rd_T174 x0 x6).f1.f3.f0) ((rd_T174 x0 x6).f1.f3.f1) n gb false _ (by (with_reducible repeat (first | refine blk_drewN ?_ _ | refine blk_drew ?_ | refine blk_alloc ?_ _));exact HN.out) A6.out).mono ?_);rintro e w4 ⟨rfl,hb⟩;refine ⟨_,rfl,?_⟩;have n0_:=Aside0.mk (Kd.R_below (by (with_reducible repeat (first | apply Kd.R_alloc | apply Kd.R_drewN | apply Kd.R_drew));exact HO.out) hb);have n1_:=Aside0.mk (blk_below (g:=gb) (o:=.cells #[.int .i64 n] 3 (0,0)) (by (with_reducible repeat (first | refine blk_drewN ?_ _ | refine blk_drew ?_ | refine blk_alloc ?_ _));exact HN.out) hb);have n2_:=Aside0.mk (grown_below (by repeat (first | (with_reducible exact HG.out) | (with_reducible apply grown_alloc) | (with_reducible apply grown_drewN) | (with_reducible apply grown_drew) | exact HG.out)) hb);have n3_:=Aside0.mk (blk_below (g:=wr.heap.size) (o:=.cells #[.int .i64 ((rd_T174 x0 x6).f0),.int .i64 ((rd_T174 x0 x6).f1.f0),.int .i64 ((rd_T174 x0 x6).f1.f1),(svv ((rd_T174 x0 x6).f1.f2)),.int .i64 ((rd_T174 x0 x6).f1.f3.f0),.int .i64 ((rd_T174 x0 x6).f1.f3.f1)] 47 (0,0)) (by show (wr.heap.push _)[wr.heap.size]?=_;exact Array.getElem?_push_size) hb);clear HO HN HG;have HO:=n0_;have HN:=n1_;have HG:=n2_;have BKv:=n3_;clear n0_ n1_ n2_ n3_;have hcy_0:w4.cell? ⟨wr.heap.size,0,none⟩=some (.int .i64 ((rd_T174 x0 x6).f0)):=(blk_cell BKv.out 0).trans rfl;have hcy_1:w4.cell? ⟨wr.heap.size,1,none⟩=some (.int .i64 ((rd_T174 x0 x6).f1.f0)):=(blk_cell BKv.out 1).trans rfl;have hcy_2:w4.cell? ⟨wr.heap.size,2,none⟩=some (.int .i64 ((rd_T174 x0 x6).f1.f1)):=(blk_cell BKv.out 2).trans rfl;have hcy_3:w4.cell? ⟨wr.heap.size,3,none⟩=some ((svv ((rd_T174 x0 x6).f1.f2))):=(blk_cell BKv.out 3).trans rfl;have hcy_4:w4.cell? ⟨wr.heap.size,4,none⟩=some (.int .i64 ((rd_T174 x0 x6).f1.f3.f0)):=(blk_cell BKv.out 4).trans rfl;have hcy_5:w4.cell? ⟨wr.heap.size,5,none⟩=some (.int .i64 ((rd_T174 x0 x6).f1.f3.f1)):=(blk_cell BKv.out 5).trans rfl;clear hb) | ((with_reducible refine gate_store (t:=47) (p:=33) rfl ?_);obtain ⟨ce,hcl,hMc,hcc,_⟩:=Kd.R_elem HO.out z174 x5 h5a h5b;obtain rfl:=k174_openM hMc;refine Kd.R_store (o':=x5.toNat * 6) k174 base rfl rfl 47 (.tmp 33) (.tmp 32) rfl 47 x5 0 x0 (rd_T174 x0 x6) (.agg #[.int .i64 ((rd_T174 x0 x6).f0),.int .i64 ((rd_T174 x0 x6).f1.f0),.int .i64 ((rd_T174 x0 x6).f1.f1),(svv ((rd_T174 x0 x6).f1.f2)),.int .i64 ((rd_T174 x0 x6).f1.f3.f0),.int .i64 ((rd_T174 x0 x6).f1.f3.f1)]) [.int .i64 ((rd_T174 x0 x6).f0),.int .i64 ((rd_T174 x0 x6).f1.f0),.int .i64 ((rd_T174 x0 x6).f1.f1),(svv ((rd_T174 x0 x6).f1.f2)),.int .i64 ((rd_T174 x0 x6).f1.f3.f0),.int .i64 ((rd_T174 x0 x6).f1.f3.f1)] _ ok (fun _ => False) ?haddr ?hoff ?hx rfl ?ht ?h1 HO.out h5a h5b hcl hcc (show 0 + 6 ≤ 6 from by decide) ?hM (fun _ h_ => h_.elim) (Below.refl _ _) ?_;(case haddr => first | rfl | (go_simp;done) | (go_simp;rfl));(case hoff => rfl);(case hx => first | rfl | (go_simp;done) | (go_simp;rfl));(case ht => kernel_rfl);(case h1 => intro q hq;simp only [List.mem_cons,List.not_mem_nil,or_false] at hq;rcases hq with rfl | rfl | rfl | rfl | rfl | rfl <;> rfl);(case hM => exact k174_mkM _ _ _ (rd_T174 x0 x6));intro w5 hrow hB5 hg5;have n0_:=Aside0.mk hrow;have n1_:=Aside0.mk (blk_grown (g:=gb) (o:=.cells #[.int .i64 n] 3 (0,0)) (by (with_reducible repeat (first | refine blk_drewN ?_ _ | refine blk_drew ?_ | refine blk_alloc ?_ _));exact HN.out) hg5 NG.out);have n2_:=Aside0.mk (grown_trans (by repeat (first | (with_reducible exact HG.out) | (with_reducible apply grown_alloc) | (with_reducible apply grown_drewN) | (with_reducible apply grown_drew) | exact HG.out)) hg5);clear HO HN HG;have HO:=n0_;have HN:=n1_;have HG:=n2_;clear n0_ n1_ n2_ hrow hB5 hg5))
         go_roundg k1
         case measure => have:=HK1.out;omega
         case rel => exact ⟨x0.set x5.toNat (rd_T174 x0 x6),(wrap64 (x5 + 1)),(wrap64 (x6 + 1)),⟨by rw [List.length_set]⟩,(by first | rfl | (simp;done) | (simp [*];done)),(by first | rfl | (simp;done) | (simp [*];done)),H',⟨by have:=HK1.out;omega⟩,⟨(by (with_reducible repeat (first | apply Kd.R_alloc | apply Kd.R_drewN | apply Kd.R_drew));exact HO.out)⟩,⟨by (with_reducible repeat (first | refine blk_drewN ?_ _ | refine blk_drew ?_ | refine blk_alloc ?_ _));exact HN.out⟩,⟨(by repeat (first | (with_reducible exact HG.out) | (with_reducible apply grown_alloc) | (with_reducible apply grown_drewN) | (with_reducible apply grown_drew) | exact HG.out))⟩⟩
        ·
         rw [if_neg c6] at H
         exact absurd H (by simp)
       ·
        rw [if_neg c5] at H
        exact absurd H (by simp)
     ·
      rw [if_neg c4] at H
      exact absurd H (by simp)
    ·
     rw [if_neg c3] at H
     have c3b0:decide (x6 < (x0.length:Int))=false:=decide_eq_false c3
     clear c3
     have H2:=Option.some.inj H
     injection H2 with hz hm
     subst hz
     subst hm
     have H:=HM.out
     clear HM
     by_cases c5:0 ≤ x5
     ·
      rw [if_pos c5] at H
      by_cases c6:x5 < (x0.length:Int)
      ·
       rw [if_pos c6] at H
       obtain rfl:=Option.some.inj H
       clear H
       have hcap:x0.length ≤ c0:=(Kd.R_reads' HO.out).2.1
       obtain ⟨mq,hmq⟩:=Int.eq_ofNat_of_zero_le c5
       subst hmq
       have hmx:mq < x0.length:=by omega
       have hmc:¬ (c0=mq):=by omega
       have hs1:∀ W:World,(Instr.slice 22 (.slice (some ⟨g,0,none⟩) x0.length c0) (some (.int .i64 (mq:Int))) none none).run Tryz.prog W=.ok (.slice (some ⟨g,mq * 6,none⟩) (x0.length - mq) (c0 - mq)) W:=by
        intro W
        rw [run_slice_l W 22 (some ⟨g,0,none⟩) x0.length c0 hu43 .i64 (mq:Int) (by omega) (by omega)]
        obtain ⟨i0,hi,hzz⟩:=Option.map_eq_some_iff.1 info47
        simp only [Prod.mk.injEq] at hzz
        simp [sizeOf,typeInfo,Program.elem,hu43,hi,hzz.2.1,sliced,Result.andThen,hmc,Addr.add]
        omega
       have hs2:∀ W:World,(Instr.slice 22 (.slice (some ⟨g,0,none⟩) x0.length c0) none (some (.int .i64 (mq:Int))) none).run Tryz.prog W=.ok (.slice (some ⟨g,0,none⟩) mq c0) W:=by
        intro W
        rw [run_slice_h W 22 (some ⟨g,0,none⟩) x0.length c0 hu43 .i64 (mq:Int) (by omega) (by omega)]
        obtain ⟨i0,hi,hzz⟩:=Option.map_eq_some_iff.1 info47
        simp only [Prod.mk.injEq] at hzz
        simp [sizeOf,typeInfo,Program.elem,hu43,hi,hzz.2.1,sliced,Result.andThen,Addr.add]
       obtain ⟨W2_,hrun_,hrow_,hgr_⟩:=clear_row (P:=Tryz.prog) (t:=22) k174 (n:=x0.length) (cap:=c0) HO.out mq hmx Tryz.underlying22 _ zero174 rfl z6_one
       have hrun2_:(Builtin.clear_ #[22] 0 #[.slice (some ⟨g,mq * 6,none⟩) (x0.length - mq) (c0 - mq)]).run Tryz.prog wr=.ok (.tuple #[]) W2_:=hrun_ 0 _
       have n0_:=Aside0.mk hrow_
       have n2_:=Aside0.mk (grown_trans HG.out hgr_)
       clear HO HG HN hrun_ hrow_ hgr_
       have HO:=n0_
       have HG:=n2_
       clear n0_ n2_
       go_wp2
       go_ret
       exact ⟨_,rfl,(by (with_reducible repeat (first | apply Kd.R_alloc | apply Kd.R_drewN | apply Kd.R_drew));exact HO.out),(by repeat (first | (with_reducible exact HG.out) | (with_reducible apply grown_alloc) | (with_reducible apply grown_drewN) | (with_reducible apply grown_drew) | exact HG.out)),rfl⟩
      ·
       rw [if_neg c6] at H
       exact absurd H (by simp)
     ·
      rw [if_neg c5] at H
      exact absurd H (by simp)
end Go.Proofs.YtkemjdedikobfaaGreatDoor.PSx
namespace Go.Proofs.YtkemjdedikobfaaGreatDoor.PSx
open PFx (S95 z95 k95 k95_open k95_openM k95_mk k95_mkM rd_T95 at_T95)
open Go.RowKit Go.Proofs.YtkemjdedikobfaaGreatDoorW.PrintWords Go.Proofs.YtkemjdedikobfaaGreatDoorW.PrintLast Go.Proofs.YtkemjdedikobfaaGreatDoorW.PrintMore
set_option linter.unusedVariables false
set_option linter.unusedSimpArgs false
theorem w64d {i:Int} (h0:-10 ≤ i) (h1:i ≤ 1000000):wrap64 i=i:=by unfold wrap64;omega
def kp (n:Int) (y:S174):Bool:=!(decide (y.f0=0) || decide (n=0))
theorem rd_get (ys:List S174) (j:Nat) (hj:j < ys.length):rd_T174 ys (j:Int)=ys[j]:=by
 simp [rd_T174,List.getD_eq_getElem?_getD,List.getElem?_eq_getElem hj]
theorem idx_spec (n:Int) (ys:List S174) (hL:ys.length ≤ 100000):∀ (k i:Nat),i ≤ ys.length→ys.length - i < k→(∀ j (hj:j < ys.length),j < i→kp n ys[j]=true) →
  ∃ t,idx175.l0 n k ys (ys.length:Int) (i:Int)=some t∧((t=-1∧∀ j (hj:j < ys.length),kp n ys[j]=true) ∨ ∃ m:Nat,t=(m:Int)∧∃ hm:m < ys.length,kp n ys[m]=false∧∀ j (hj:j < ys.length),j < m→kp n ys[j]=true)
 | 0,i,_,h,_ => by omega
 | k + 1,i,hi,hk,hp => by
  simp only [idx175.l0]
  by_cases h1:i < ys.length
  ·
   rw [if_pos (by omega),if_pos (by omega),if_pos (by omega),rd_get ys i h1]
   simp only [cl175.f,Option.bind_some]
   cases hc:(decide ((ys[i]).f0=0) || decide (n=0)) with
   | true => exact ⟨_,by rw [if_pos rfl],.inr ⟨i,rfl,h1,by simp [kp,hc],hp⟩⟩
   | false =>
    rw [if_neg (by decide),show wrap64 ((i:Int) + 1)=((i + 1:Nat):Int) from by rw [w64d (by omega) (by omega)];rfl]
    exact idx_spec n ys hL k (i + 1) (by omega) (by omega) (fun j hj hji => by
     rcases Nat.lt_or_ge j i with h | h
     ·
      exact hp j hj h
     ·
      obtain rfl:j=i:=by omega
      simp [kp,hc])
  ·
   rw [if_neg (by omega)]
   exact ⟨-1,rfl,.inl ⟨rfl,fun j hj => hp j hj (by omega)⟩⟩
theorem take_succ_filter (p:S174→Bool) (ys:List S174) (j:Nat) (hj:j < ys.length):(ys.take (j + 1)).filter p=(ys.take j).filter p ++ (if p ys[j]=true then [ys[j]] else []):=by
 rw [List.take_succ_eq_append_getElem hj,List.filter_append]
 congr 1
 by_cases h:p ys[j]=true <;> simp [h]
theorem del_spec (n:Int) (ys:List S174) (hL:ys.length ≤ 100000):∀ (k:Nat) (x0:List S174) (i j:Nat),x0.length=ys.length→i < j→j ≤ ys.length→ys.length - j < k→x0.drop j=ys.drop j→x0.take i=(ys.take j).filter (kp n) →
  ∃ (z:List S174) (m:Nat),del.l0 n k x0 (i:Int) (j:Int)=some (z,(m:Int))∧z.length=ys.length∧m < ys.length∧z.take m=ys.filter (kp n)
 | 0,_,_,_,_,_,_,h,_,_ => by omega
 | k + 1,x0,i,j,hl,hij,hj,hk,hd,ht => by
  simp only [del.l0]
  by_cases h1:j < ys.length
  ·
   have hx:x0[j]'(by omega)=ys[j]:=by
    have e1:x0[j]'(by omega)=(x0.drop j)[0]'(by rw [List.length_drop];omega):=by simp
    have e2:ys[j]=(ys.drop j)[0]'(by rw [List.length_drop];omega):=by simp
    rw [e1,e2]
    congr 1
   have hw1:wrap64 ((j:Int) + 1)=((j + 1:Nat):Int):=by rw [w64d (by omega) (by omega)];rfl
   have hw2:wrap64 ((i:Int) + 1)=((i + 1:Nat):Int):=by rw [w64d (by omega) (by omega)];rfl
   rw [if_pos (by omega),if_pos (by omega),rd_get x0 j (by omega),hx]
   simp only [cl175.f,Option.bind_some]
   cases hc:(decide ((ys[j]).f0=0) || decide (n=0)) with
   | true =>
    rw [if_pos rfl,hw1]
    refine del_spec n ys hL k x0 i (j + 1) hl (by omega) (by omega) (by omega) ?_ ?_
    ·
     rw [← List.drop_drop,← List.drop_drop,hd]
    ·
     rw [take_succ_filter _ _ _ h1,if_neg (by simp [kp,hc]),List.append_nil,ht]
   | false =>
    rw [if_neg (by decide),if_pos (by omega),if_pos (by omega),hw1,hw2]
    refine del_spec n ys hL k _ (i + 1) (j + 1) (by rw [List.length_set,hl]) (by omega) (by omega) (by omega) ?_ ?_
    ·
     rw [show (i:Int).toNat=i by simp,List.drop_set_of_lt (by omega),← List.drop_drop,← List.drop_drop,hd]
    ·
     rw [take_succ_filter _ _ _ h1,if_pos (by simp [kp,hc]),← ht,show (i:Int).toNat=i by simp]
     rw [List.take_succ_eq_append_getElem (by rw [List.length_set];omega),List.getElem_set_self,List.take_set_of_le (Nat.le_refl _)]
  ·
   rw [if_neg (by omega)]
   obtain rfl:j=ys.length:=by omega
   exact ⟨x0,i,rfl,hl,hij,by rw [ht,List.take_length]⟩
theorem delF_spec (n:Int) (ys:List S174) (hL:ys.length ≤ 100000):delF.f n (ys.length + 1) ys=some (ys.filter (kp n)):=by
 unfold delF.f idx175.f
 obtain ⟨t,h1,h2⟩:=idx_spec n ys hL (ys.length + 1) 0 (by omega) (by omega) (fun j hj h => by omega)
 rw [show ((0:Nat):Int)=0 from rfl] at h1
 rw [h1]
 simp only [Option.bind_some]
 rcases h2 with ⟨rfl,h2⟩ | ⟨m,rfl,hm,h3,h4⟩
 ·
  rw [if_pos rfl]
  congr 1
  symm
  rw [List.filter_eq_self]
  intro y hy
  obtain ⟨j,hj,rfl⟩:=List.getElem_of_mem hy
  exact h2 j hj
 ·
  have hw:wrap64 ((m:Int) + 1)=((m + 1:Nat):Int):=by rw [w64d (by omega) (by omega)];rfl
  rw [if_neg (by omega),hw]
  have hf:ys.take m=(ys.take m).filter (kp n):=by
   symm
   rw [List.filter_eq_self]
   intro y hy
   obtain ⟨j,hj,rfl⟩:=List.getElem_of_mem hy
   rw [List.length_take] at hj
   rw [List.getElem_take]
   exact h4 j (by omega) (by omega)
  obtain ⟨z,q,h5,h6,h7,h8⟩:=del_spec n ys hL (ys.length + 1) ys m (m + 1) rfl (by omega) (by omega) (by omega) rfl (by rw [take_succ_filter _ _ _ hm,if_neg (by rw [h3];decide),List.append_nil];exact hf)
  rw [h5]
  simp only [Option.bind_some]
  rw [if_pos (by omega),if_pos (by omega),show ((q:Int)).toNat=q by simp,h8]
def Mt (w:World) (base:Nat) (ok:Nat→Prop) (y:S174) (x:S20174):Prop :=
 y.f0=x.f0∧y.f1.f0=x.f1.f0∧y.f1.f1=x.f1.f1∧y.f1.f3=x.f1.f3∧Kd.R k95 103 w base ok (svv y.f1.f2) x.f1.f2
theorem six_mt {w:World} {base:Nat} {ok:Nat→Prop} {x:S20174} {cs:List Value} (h:k20174.M w base ok x cs):∃ y:S174,Mt w base ok y x∧cs=[.int .i64 y.f0,.int .i64 y.f1.f0,.int .i64 y.f1.f1,svv y.f1.f2,.int .i64 y.f1.f3.f0,.int .i64 y.f1.f3.f1]:=by
 obtain ⟨v3,rfl,g3⟩:=k20174_openM h
 obtain ⟨A,c,rfl⟩:=Kd.R_slice g3
 exact ⟨⟨x.f0,⟨x.f1.f0,x.f1.f1,⟨A,x.f1.f2.length,c,x.f1.f2⟩,x.f1.f3⟩⟩,⟨rfl,rfl,rfl,rfl,g3⟩,rfl⟩
theorem S_flat {w:World} {base:Nat} {ok:Nat→Prop} {v:Value} {xs:List S20174} (h:Kd.S k20174 47 w base ok v xs) :
  ∃ (f:Nat→Nat) (ys:List S174),ys.length=xs.length∧Kd.R k174 47 w base ok v ys∧∀ j x y,xs[j]?=some x→ys[j]?=some y→Mt w base (fun k => (ok k∧some k ≠ v.ownBlock)∧f k=j) y x:=by
 obtain ⟨f,h0,inner,ho,hr1,hr2⟩:=h
 have hr2':∀ (j:Nat) (hj:j < xs.length),k20174.M w base (fun k => (ok k∧some k ≠ v.ownBlock)∧f k=j) xs[j] ((inner.drop (j * 6)).take 6):=fun j hj => hr2 j (xs[j],j) (by rw [List.getElem?_zipIdx,List.getElem?_eq_getElem hj];simp)
 have key:∀ (j:Fin xs.length),∃ y:S174,Mt w base (fun k => (ok k∧some k ≠ v.ownBlock)∧f k=j.1) y xs[j.1]∧((inner.drop (j.1 * 6)).take 6)=[.int .i64 y.f0,.int .i64 y.f1.f0,.int .i64 y.f1.f1,svv y.f1.f2,.int .i64 y.f1.f3.f0,.int .i64 y.f1.f3.f1]:=fun j => six_mt (hr2' j.1 j.2)
 refine ⟨f,List.ofFn (fun j => (key j).choose),List.length_ofFn,⟨h0,inner,?_,?_,?_⟩,?_⟩
 ·
  rw [List.length_ofFn]
  rw [List.length_zipIdx] at ho
  exact ho
 ·
  rw [List.length_ofFn]
  rw [List.length_zipIdx] at hr1
  exact hr1
 ·
  intro j y hy
  rw [List.getElem?_ofFn] at hy
  split at hy
  ·
   rename_i hj
   obtain rfl:=Option.some.inj hy
   have h2:=(key ⟨j,hj⟩).choose_spec.2
   show k174.M w base _ _ ((inner.drop (j * 6)).take 6)
   exact Eq.mpr (congrArg (fun cs => k174.M w base (fun k => ok k∧some k ≠ v.ownBlock) (key ⟨j,hj⟩).choose cs) h2) (k174_mkM _ _ _ _)
  ·
   cases hy
 ·
  intro j x y hx hy
  rw [List.getElem?_ofFn] at hy
  split at hy
  ·
   rename_i hj
   obtain rfl:=Option.some.inj hy
   rw [List.getElem?_eq_getElem hj] at hx
   obtain rfl:=Option.some.inj hx
   exact (key ⟨j,hj⟩).choose_spec.1
  ·
   cases hy
theorem S_unflat {w:World} {base:Nat} {ok:Nat→Prop} {v:Value} {xs:List S20174} {ys:List S174} (f:Nat→Nat) (hl:ys.length=xs.length) (h:Kd.R k174 47 w base ok v ys)
  (hm:∀ j x y,xs[j]?=some x→ys[j]?=some y→Mt w base (fun k => (ok k∧some k ≠ v.ownBlock)∧f k=j) y x):Kd.S k20174 47 w base ok v xs:=by
 obtain ⟨h0,inner,ho,hr1,hr2⟩:=h
 refine ⟨f,h0,inner,?_,?_,?_⟩
 ·
  rw [List.length_zipIdx,← hl]
  exact ho
 ·
  rw [List.length_zipIdx,← hl]
  exact hr1
 ·
  intro j p hp
  rw [List.getElem?_zipIdx] at hp
  obtain ⟨x,hx,rfl⟩:=Option.map_eq_some_iff.mp hp
  have hj:j < ys.length:=by rw [hl];exact (List.getElem?_eq_some_iff.1 hx).1
  have hy:=List.getElem?_eq_getElem hj
  have h2:=hr2 j _ hy
  obtain ⟨m1,m2,m3,m4,m5⟩:=hm j x _ hx hy
  have h3:=k174_openM h2
  show k20174.M w base (fun k => (ok k∧some k ≠ v.ownBlock)∧f k=0 + j) x ((inner.drop (j * 6)).take 6)
  rw [Nat.zero_add]
  refine Eq.mpr (congrArg _ h3) ?_
  rw [m1,m2,m3,m4]
  exact k20174_mkM _ _ _ x m5
theorem filter_at {α β:Type} (p:α→Bool) (q:β→Bool):∀ (xs:List α) (ys:List β),ys.length=xs.length→(∀ (j:Nat) x y,xs[j]?=some x→ys[j]?=some y→p x=q y) →
  (ys.filter q).length=(xs.filter p).length∧∀ (i:Nat) x y,(xs.filter p)[i]?=some x→(ys.filter q)[i]?=some y→∃ j,xs[j]?=some x∧ys[j]?=some y∧(xs.take j).countP p=i
 | [],[],_,_ => ⟨rfl,fun i x y hx _ => by simp at hx⟩
 | a :: xs,b :: ys,hl,h => by
  have h0:=h 0 a b rfl rfl
  obtain ⟨h1,h2⟩:=filter_at p q xs ys (by simpa using hl) (fun j x y hx hy => h (j + 1) x y hx hy)
  by_cases hp:p a=true
  ·
   have hq:q b=true:=h0 ▸ hp
   rw [List.filter_cons_of_pos hp,List.filter_cons_of_pos hq]
   refine ⟨by simp [h1],fun i x y hx hy => ?_⟩
   cases i with
   | zero => exact ⟨0,by simpa using hx,by simpa using hy,rfl⟩
   | succ i =>
    obtain ⟨j,e1,e2,e3⟩:=h2 i x y (by simpa using hx) (by simpa using hy)
    exact ⟨j + 1,by simpa using e1,by simpa using e2,by rw [List.take_succ_cons,List.countP_cons_of_pos hp,e3]⟩
  ·
   have hq:¬ q b=true:=fun e => hp (h0.trans e)
   rw [List.filter_cons_of_neg hp,List.filter_cons_of_neg hq]
   refine ⟨h1,fun i x y hx hy => ?_⟩
   obtain ⟨j,e1,e2,e3⟩:=h2 i x y hx hy
   exact ⟨j + 1,by simpa using e1,by simpa using e2,by rw [List.take_succ_cons,List.countP_cons_of_neg hp,e3]⟩
 | [],_ :: _,hl,_ => by simp at hl
 | _ :: _,[],hl,_ => by simp at hl
def delT.f (l:List S20174) (n:Int):Option (List S20174):=if l.length ≤ 100000 then some (l.filter fun t => !(decide (t.f0=0) || decide (n=0))) else none
theorem delT.calls (l0:List S20174) (n:Int) (r:List S20174) {gb111:Nat} {base:Nat} {ok:Nat→Prop} {u:Value} (w:World) (hn:w.heap[gb111]?=some (.cells #[.int .i64 n] 3 (0,0))) (hr:Kd.S k20174 47 w base ok u l0) (h:delT.f l0 n=some r) :
  Calls Tryz.prog 49 #[u,.func (.func 50) #[] #[.pointer (some ⟨gb111,0,none⟩)]] w fun e w' => ∃ v:Value,e=.returned v∧Kd.S k20174 47 w' base ok v r∧w.grownBy w' u.ownBlock:=by
 unfold delT.f at h
 split at h
 ·
  rename_i hL
  obtain rfl:=Option.some.inj h
  obtain ⟨f,ys,hl,hR,hM⟩:=S_flat hr
  obtain ⟨A0,c0,rfl⟩:=Kd.S_slice hr
  rw [← hl]
  rw [← hl] at hR
  refine (delF.calls n gb111 (ys.length + 1) base ok A0 c0 ys (ys.filter (kp n)) w hn hR (delF_spec n ys (by omega))).mono ?_
  rintro e w' ⟨v,rfl,hv,hg,hb⟩
  refine ⟨v,rfl,?_,hg⟩
  obtain ⟨h1,h2⟩:=filter_at (fun t:S20174 => !(decide (t.f0=0) || decide (n=0))) (kp n) l0 ys hl (fun j x y hx hy => by
   have:=(hM j x y hx hy).1
   simp only [kp,this])
  refine S_unflat (fun k => (l0.take (f k)).countP (fun t:S20174 => !(decide (t.f0=0) || decide (n=0)))) h1 hv (fun i x y hx hy => ?_)
  obtain ⟨j,e1,e2,e3⟩:=h2 i x y hx hy
  obtain ⟨m1,m2,m3,m4,m5⟩:=hM j x y e1 e2
  refine ⟨m1,m2,m3,m4,?_⟩
  have m6:=Kd.R_grown m5 hg (fun k hk => by rw [hl];exact hk.1.2)
  refine Kd.R_mono m6 (fun k hk => ⟨⟨hk.1.1,by rw [hb,hl];exact hk.1.2⟩,?_⟩)
  show (l0.take (f k)).countP _=i
  rw [hk.2,e3]
 ·
  cases h
end Go.Proofs.YtkemjdedikobfaaGreatDoor.PSx
namespace Go.Proofs.YtkemjdedikobfaaGreatDoor.PSx
open PFx (S95 z95 k95)
open Go.RowKit Go.Proofs.YtkemjdedikobfaaGreatDoorW.PrintWords
def symM.f (_:World) (_:List S174) (_ _ _:Int) (_:Nat):Option Unit:=none
theorem symM.calls (W0:World) (A0:Option Addr) (c0:Nat) (l0:List S174) (a1 a2 a3:Int) (a4:Nat) (w:World) (_:Kd.C k174 w A0 l0.length l0) (_:l0.length ≤ c0) (h:symM.f W0 l0 a1 a2 a3 a4=some ()) :
  Calls Tryz.prog 122 #[.slice A0 l0.length c0,.int .i64 a1,.int .i64 a2,.int .i64 a3,.func (.func 46) #[] #[]] w fun e w' => e=.returned (.tuple #[])∧Below w.heap.size w w':=by cases h
open Classical in
noncomputable def byFigM.f (W0:World) (a0_0 a0_1:Int) (l0_2:List S95) (a0_3 a0_4 a1_0 a1_1:Int) (a1_2:SV) (a1_3 a1_4:Int):Option Int :=
 if a1_2.Good W0 then PFx.ask_byFigure.f 5000 a0_0 a0_1 l0_2 a0_3 a0_4 a1_0 a1_1 a1_2.xs a1_3 a1_4 else none
theorem byFigM.calls (W0:World) (a0_0 a0_1:Int) (A0_2:Option Addr) (c0_2:Nat) (l0_2:List S95) (a0_3 a0_4 a1_0 a1_1:Int) (a1_2:SV) (a1_3 a1_4:Int) (r:Int) (w:World) (hW:Below W0.heap.size W0 w) (hr:Kd.C k95 w A0_2 l0_2.length l0_2) (hc:l0_2.length ≤ c0_2) (h:byFigM.f W0 a0_0 a0_1 l0_2 a0_3 a0_4 a1_0 a1_1 a1_2 a1_3 a1_4=some r) :
  Calls Tryz.prog 47 #[.agg #[.int .i64 a0_0,.int .i64 a0_1,.slice A0_2 l0_2.length c0_2,.int .i64 a0_3,.int .i64 a0_4],.agg #[.int .i64 a1_0,.int .i64 a1_1,(svv a1_2),.int .i64 a1_3,.int .i64 a1_4]] w fun e w' => e=.returned (.int .i64 r)∧Below w.heap.size w w':=by
 unfold byFigM.f at h
 split at h
 ·
  rename_i hg
  obtain ⟨y1,y2,y3⟩:=hg
  obtain ⟨A',n',c',xs'⟩:=a1_2
  simp only at y1 y2 y3 h
  subst y1
  exact PFx.ask_byFigure.calls 5000 a0_0 a0_1 A0_2 c0_2 l0_2 a0_3 a0_4 a1_0 a1_1 A' c' xs' a1_3 a1_4 r w hr hc (Kd.C_below y3 hW) y2 h
 ·
  cases h
end Go.Proofs.YtkemjdedikobfaaGreatDoor.PSx
namespace Go.Proofs.YtkemjdedikobfaaGreatDoor.PSx
open PFx (S95 z95 k95 k95_open k95_openM k95_mk k95_mkM rd_T95 at_T95)
noncomputable section
variable (W0:World)
open Go.RowKit Go.Proofs.YtkemjdedikobfaaGreatDoorW.PrintWords Go.Proofs.YtkemjdedikobfaaGreatDoorW.PrintLast Go.Proofs.YtkemjdedikobfaaGreatDoorW.PrintMore
attribute [local go_sem] max2_int min2_int max_two min_two max_three min_three max_four min_four   -- for this text's walks alone
set_option linter.unusedVariables false
set_option linter.unusedSimpArgs false
def ask_isConst.f (a0:Int):Option (Bool):=if a0 ≥ (-1099511627776) then (some (decide (a0 ≤ 1099511627776))) else (some false)
set_option maxHeartbeats 8000000 in
set_option maxRecDepth 100000 in
theorem ask_isConst.calls (a0:Int) (r:Bool) (w:World) (h:ask_isConst.f a0=some r) :
  Calls Tryz.prog 26 #[.int .i64 a0] w fun e w' => e=.returned (.bool r)∧Drawn0 w w':=by
 have H:(if a0 ≥ (-1099511627776) then (some (decide (a0 ≤ 1099511627776))) else (some false))=some r:=h
 clear h
 by_cases c2:a0 ≥ (-1099511627776)
 ·
  rw [if_pos c2] at H
  have c2b0:decide ((-1099511627776) ≤ a0)=true:=decide_eq_true c2
  clear c2
  obtain rfl:=Option.some.inj H
  go_enter Tryz.func26,Tryz.ntmps26
  go_wp2
  go_ret
  exact ⟨by first | rfl | (simp;done) | (simp [*];done),by repeat (first | exact Drawn0.refl _ | apply Drawn0.step)⟩
 ·
  rw [if_neg c2] at H
  have c2b0:decide ((-1099511627776) ≤ a0)=false:=decide_eq_false c2
  clear c2
  obtain rfl:=Option.some.inj H
  go_enter Tryz.func26,Tryz.ntmps26
  go_wp2
  go_ret
  exact ⟨by first | rfl | (simp;done) | (simp [*];done),by repeat (first | exact Drawn0.refl _ | apply Drawn0.step)⟩
def ask_isCoef.f (a0:Int):Option (Bool):=if a0 ≥ (-50) then (some (decide (a0 ≤ 50))) else (some false)
set_option maxHeartbeats 8000000 in
set_option maxRecDepth 100000 in
theorem ask_isCoef.calls (a0:Int) (r:Bool) (w:World) (h:ask_isCoef.f a0=some r) :
  Calls Tryz.prog 44 #[.int .i64 a0] w fun e w' => e=.returned (.bool r)∧Drawn0 w w':=by
 have H:(if a0 ≥ (-50) then (some (decide (a0 ≤ 50))) else (some false))=some r:=h
 clear h
 by_cases c2:a0 ≥ (-50)
 ·
  rw [if_pos c2] at H
  have c2b0:decide ((-50) ≤ a0)=true:=decide_eq_true c2
  clear c2
  obtain rfl:=Option.some.inj H
  go_enter Tryz.func44,Tryz.ntmps44
  go_wp2
  go_ret
  exact ⟨by first | rfl | (simp;done) | (simp [*];done),by repeat (first | exact Drawn0.refl _ | apply Drawn0.step)⟩
 ·
  rw [if_neg c2] at H
  have c2b0:decide ((-50) ≤ a0)=false:=decide_eq_false c2
  clear c2
  obtain rfl:=Option.some.inj H
  go_enter Tryz.func44,Tryz.ntmps44
  go_wp2
  go_ret
  exact ⟨by first | rfl | (simp;done) | (simp [*];done),by repeat (first | exact Drawn0.refl _ | apply Drawn0.step)⟩
end
end Go.Proofs.YtkemjdedikobfaaGreatDoor.PSx
