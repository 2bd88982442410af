/- What is proved: a part of the soundness of the abstract machine (a run of it stands for the run of the model, whatever the tape). Conditions stand in each theorem. -/
import Derived.Test.YtnifkpljhfpdlaaGreatDoorSb
import Derived.Laws.Strings
import Derived.Laws.Concat
set_option linter.unusedVariables false
set_option linter.unusedSimpArgs false
namespace Go.Ab
theorem ltI_eq (a b:Int):ltI a b=decide (a < b):=by
 cases a <;> cases b <;> simp only [ltI]
 ·rename_i m n;rw [Bool.eq_iff_iff,ble_iff];simp only [decide_eq_true_eq,Int.ofNat_eq_natCast];omega
 ·symm;simp only [decide_eq_false_iff_not,Int.ofNat_eq_natCast];omega
 ·symm;simp only [decide_eq_true_eq,Int.ofNat_eq_natCast];omega
 ·rename_i m n;rw [Bool.eq_iff_iff,ble_iff];simp only [decide_eq_true_eq];omega
theorem eqI_eq (a b:Int):eqI a b=(a == b):=by
 rw [Bool.eq_iff_iff,beq_iff_eq];cases a with
 | ofNat m =>
  cases b with
  | ofNat n => show Nat.beq m n=true ↔ _;rw [beq_iff];exact ⟨fun h => by rw [h],fun h => Int.ofNat.inj h⟩
  | negSucc n => exact ⟨fun h => Bool.noConfusion h,fun h => by cases h⟩
 | negSucc m =>
  cases b with
  | ofNat n => exact ⟨fun h => Bool.noConfusion h,fun h => by cases h⟩
  | negSucc n => show Nat.beq m n=true ↔ _;rw [beq_iff];exact ⟨fun h => by rw [h],fun h => Int.negSucc.inj h⟩
theorem fits64_ok {n:Int} (h:fits64 n=true):IntKind.wrap .i64 n=n:=by
 have h2:-9223372036854775808 ≤ n∧n ≤ 9223372036854775807:=by
  cases n with
  | ofNat m => have:m ≤ 9223372036854775807:=ble_iff.1 h;simp only [Int.ofNat_eq_natCast];omega
  | negSucc m => have:m ≤ 9223372036854775807:=ble_iff.1 h;omega
 unfold IntKind.wrap;simp only [IntKind.bits,IntKind.signed,Bool.true_and];split <;> rename_i hc <;> simp only [ge_iff_le,decide_eq_true_eq] at hc <;> omega
theorem wrapQ_eq (k:IntKind) (n:Int):wrapQ k n=k.wrap n:=by
 unfold wrapQ;split
 ·split
  ·rename_i h;exact (fits64_ok h).symm
  ·rfl
 ·rfl
theorem arith_ok {P:Program} {w:World} {op:BinOp} {k:IntKind} {a b:Int} {t:Nat} {v:Value} (e:arith op k a b=some v) :
 (binOp op t (.int k a) (.int k b)).run P w=.ok v w:=by
 cases op <;> simp only [arith] at e <;> try (cases e;done)
 all_goals first
  | (cases e;simp [binOp,Op.intArith,wrapQ_eq];done)
  | (cases e;simp [binOp,Op.intCmp,eqI_eq,ltI_eq];done)
  | skip
 all_goals first
  | (split at e
     ·cases e
     ·rename_i hb;rw [eqI_eq] at hb;(have hb:¬ b=0:=by simpa using hb);cases e;simp [binOp,Op.intDiv,hb,wrapQ_eq];done)
  | skip
 all_goals first
  | (cases e;simp [binOp,Op.intCmp,ltI_eq,← decide_not,Int.not_lt];done)
  | (cases e;simp [binOp,Op.intCmp,eqI_eq,bne];done)
theorem beqU_iff:∀ (x y:List UInt8),beqU x y=true ↔ x=y
 | [],[] => by simp [beqU]
 | [],_ :: _ => by simp [beqU]
 | _ :: _,[] => by simp [beqU]
 | a :: x,b :: y => by
  simp only [beqU];split
  ·rename_i h;have:=beq_iff.1 h;have:a=b:=UInt8.toNat_inj.1 this;rw [beqU_iff x y,this];simp
  ·rename_i h;constructor
   ·intro h;cases h
   ·intro e;injection e with e1 _;subst e1;rw [Nat.beq_refl] at h;cases h
theorem beqU_eq (x y:List UInt8):beqU x y=(x == y):=by rw [Bool.eq_iff_iff,beqU_iff,beq_iff_eq]
theorem ltU_eq:∀ (x y:List UInt8),ltU x y=Op.bytesLess x y
 | _,[] => by simp [ltU,Op.bytesLess]
 | [],_ :: _ => by simp [ltU,Op.bytesLess]
 | a :: x,b :: y => by
  simp only [ltU,Op.bytesLess];split
  ·rename_i h;have:=ble_iff.1 h;have:a < b:=UInt8.lt_iff_toNat_lt.2 this;simp [this]
  ·rename_i h;(have:¬ a < b:=fun hlt => by have:=UInt8.lt_iff_toNat_lt.1 hlt;rw [ble_iff.2 this] at h;cases h);split
   ·rename_i h2;have:=UInt8.toNat_inj.1 (beq_iff.1 h2);subst this;rw [ltU_eq x y];simp
   ·rename_i h2;(have:a ≠ b:=fun e => by subst e;rw [Nat.beq_refl] at h2;cases h2);simp_all
theorem ba_toList (s:ByteArray):s.toList=s.data.toList:=ByteArray.toList_eq s
theorem strOp_ok {P:Program} {w:World} {op:BinOp} {a b:ByteArray} {t:Nat} {v:Value} (e:strOp op a b=some v) :
 (binOp op t (.string a) (.string b)).run P w=.ok v w:=by
 cases op <;> simp only [strOp] at e <;> try (cases e;done)
 all_goals first
  | (cases e;simp [binOp,Op.stringOp,ba_toList,beqU_eq,ltU_eq];done)
  | skip
 split at e
 ·rename_i h;have h:=ble_iff.1 h;cases e;have hx:a ++ b=⟨⟨a.data.toList ++ b.data.toList⟩⟩:=ByteArray.mk_append_mk a.data.toList b.data.toList;simp only [binOp,Op.stringOp];rw [if_neg]
  ·rw [hx];rfl
  ·(have h1:a.data.toList.length=a.size:=by rw [Array.length_toList];rfl);(have h2:b.data.toList.length=b.size:=by rw [Array.length_toList];rfl);(have h3:a.data.toList.length.add b.data.toList.length=a.size + b.size:=by rw [h1,h2];rfl);rw [h3] at h;simp [IntKind.max,IntKind.bits,IntKind.signed];omega
 ·cases e
theorem pureRun_ok {α:Type} (P:Program):∀ (s:Sem α) (a:α),pureRun P s=some a→∀ w,s.run P w=.ok a w:=by
 intro s;induction s with
 | pure b => intro a h w;simp only [pureRun] at h;cases h;rfl
 | program k ih => intro a h w;simp only [pureRun] at h;exact ih P a h w
 | _ => intro a h w;simp only [pureRun] at h;cases h
theorem sameK_ok {j k:IntKind} (h:sameK j k=true):j=k:=by cases j <;> cases k <;> first | rfl | (simp [sameK] at h)
theorem len_ba (s:ByteArray):s.data.toList.length=s.size:=by rw [Array.length_toList];rfl
theorem aUn_ok {P:Program} {w:World} {op:UnOp} {x v:Value} {ρ:Names} {x':Value} (hx:VR ρ x x') (e:aUn op x=some v):(Op.unary op x').run P w=.ok v w∧VR ρ v v:=by
 unfold aUn at e;split at e
 ·cases e;cases hx;exact ⟨by simp [Op.unary],.bool _⟩
 ·cases e;cases hx;exact ⟨by simp [Op.unary,Op.intArith,wrapQ_eq],.int _ _⟩
 ·cases e
theorem aMin2_ok {P:Program} {w:World} {ρ:Names} {mx:Bool} {x y x' y' v:Value} (hx:VR ρ x x') (hy:VR ρ y y') (e:aMin2 mx x y=some v) :
 ((if mx then Builtin.max2 else Builtin.min2) x' y').run P w=.ok v w∧VR ρ v v:=by
 unfold aMin2 at e;split at e
 ·cases e;cases hx;cases hy;refine ⟨?_,.int _ _⟩;rename_i k x _ y;cases mx
  ·by_cases h:y < x <;> simp [Builtin.min2,ltI_eq,h]
  ·by_cases h:x < y <;> simp [Builtin.max2,ltI_eq,h]
 ·cases e
theorem aMin_ok {P:Program} {w:World} {ρ:Names} (mx:Bool):∀ {l l':List Value} {x x' v:Value},VR ρ x x'→VRs ρ l l'→aMin mx x l=some v →
 ∃ v',(l'.foldlM (if mx then Builtin.max2 else Builtin.min2) x').run P w=.ok v' w∧VR ρ v v'
 | _,_,x,x',v,hx,.nil,e => by simp only [aMin] at e;cases e;exact ⟨x',by simp,hx⟩
 | _,_,x,x',v,hx,.cons y y' l l' hy hs,e => by
  simp only [aMin] at e;split at e
  ·rename_i z hz;obtain ⟨h1,h2⟩:=aMin2_ok (P:=P) (w:=w) hx hy hz;obtain ⟨v',h3,h4⟩:=aMin_ok mx h2 hs e;refine ⟨v',?_,h4⟩;rw [List.foldlM_cons,Sem.run_bind,h1];exact h3
  ·cases e
theorem bndTo_ok {P:Program} {w:World} {ρ:Names} {v v':Value} {n n' i:Nat} (code:BoundsCode) (hv:VR ρ v v') (hn:n ≤ n') (e:bndTo v n=some i) :
 (Instr.sliceBound v' n' code).run P w=.ok i w∧i ≤ n:=by
 unfold bndTo at e;split at e
 ·rename_i k m;split at e
  ·rename_i h;cases e;have h:=ble_iff.1 h;cases hv;refine ⟨?_,h⟩;simp only [Instr.sliceBound,asIntOf,pure_bind];rw [if_pos ⟨by simp,by simp only [Int.ofNat_eq_natCast];omega⟩];rfl
  ·cases e
 ·cases e
end Go.Ab
namespace Go.Ab
abbrev OR2 (ρ:Names) (v v':Option Value):Prop:=match v,v' with | none,none => True | some a,some b => VR ρ a b | _,_ => False
theorem extract_ba (s:ByteArray) (a b:Nat):s.extract a b=⟨⟨extr s.data.toList a b⟩⟩:=by
 have:s.extract a b=⟨s.data.extract a b⟩:=by rw [ByteArray.ext_iff];simp
 rw [this];congr 1;refine Array.ext' ?_;rw [Array.toList_extract];simp [extr,List.extract,List.take_drop]
theorem run_sliceBounds {P:Program} {w:World} {ρ:Names} {isS:Bool} {len cap cap' lim:Nat} {lo hi mx lo' hi' mx':Option Value} {a b m:Nat}
 (hlo:OR2 ρ lo lo') (hhi:OR2 ρ hi hi') (hmx:OR2 ρ mx mx') (hne:mx ≠ none→hi ≠ none) (hlim:lim ≤ cap')
 (e1:optB mx lim cap=some m) (e2:optB hi (hiLim mx m lim) len=some b) (e3:optB lo b 0=some a) :
 (Instr.sliceBounds isS len cap' lo' hi' mx').run P w=.ok (a,b,if mx.isSome then m else cap') w∧a ≤ b∧(mx ≠ none→m ≤ lim∧b ≤ m)∧(hi ≠ none→b ≤ lim):=by
 have hl:(match lo' with | some v => Instr.sliceBound v b (if mx'.isSome then .slice3C else .sliceB) | none => (pure 0:Sem Nat)).run P w=.ok a w∧a ≤ b:=by
  cases lo <;> cases lo' <;> simp only [OR2] at hlo
  ·simp only [optB] at e3;cases e3;exact ⟨by simp,Nat.zero_le _⟩
  ·simp only [optB] at e3;exact bndTo_ok _ hlo (Nat.le_refl _) e3
 cases mx with
 | none =>
  cases mx' <;> simp only [OR2] at hmx;cases hi with
  | none => cases hi' <;> simp only [OR2] at hhi;simp only [optB] at e2;cases e2;refine ⟨?_,hl.2,fun h => absurd rfl h,fun h => absurd rfl h⟩;have:=hl.1;unfold Instr.sliceBounds;simp only [pure_bind];simp only [Option.isSome_none] at this ⊢;cases lo' <;> simp at this ⊢ <;> simp [this]
  | some x => cases hi' <;> simp only [OR2] at hhi;simp only [optB,hiLim] at e2;obtain ⟨h1,h2⟩:=bndTo_ok (P:=P) (w:=w) (if isS then .sliceAcap else .sliceAlen) hhi hlim e2;refine ⟨?_,hl.2,fun h => absurd rfl h,fun _ => h2⟩;have:=hl.1;unfold Instr.sliceBounds;simp only [pure_bind,Sem.run_bind,h1,Result.andThen_ok];simp only [Option.isSome_none] at this ⊢;cases lo' <;> simp at this ⊢ <;> simp [this]
 | some y =>
  cases mx' <;> simp only [OR2] at hmx;cases hi with
  | none => exact absurd rfl (hne (by simp))
  | some x => cases hi' <;> simp only [OR2] at hhi;simp only [optB,hiLim] at e1 e2;obtain ⟨h1,h2⟩:=bndTo_ok (P:=P) (w:=w) (if isS then .slice3Acap else .slice3Alen) hmx hlim e1;obtain ⟨h3,h4⟩:=bndTo_ok (P:=P) (w:=w) .slice3B hhi (Nat.le_refl _) e2;refine ⟨?_,hl.2,fun _ => ⟨h2,h4⟩,fun _ => Nat.le_trans h4 h2⟩;have:=hl.1;unfold Instr.sliceBounds;simp only [Sem.run_bind,h1,Result.andThen_ok,h3];simp only [Option.isSome_some] at this ⊢;cases lo' <;> simp at this ⊢ <;> simp [this]
theorem aFieldAddr_ok {E:Env} (g:Good E) {ρ:Names} {w:World} {t i:Nat} {x x' v:Value} (hx:VR ρ x x') (e:aFieldAddr E.Γ t x i=some v) :
 ∃ v',(Instr.fieldAt t x' i).run E.P w=.ok v' w∧VR ρ v v':=by
 unfold aFieldAddr at e;split at e
 ·rename_i fs b o hd;split at e
  ·rename_i f hf;split at e
   ·rename_i s hs;cases e;obtain ⟨_,n,hn,rfl⟩:=hx.ptr_inv;obtain ⟨ie,hie,hsz⟩:=sizeT_ok g hs;rw [nth_eq] at hf;refine ⟨.pointer (some ⟨n.cb,n.co + (o + f.offset),none⟩),?_,.ptr _ _ _ hn⟩;unfold Instr.fieldAt;rw [Sem.run_bind,run_und (descT_ok g hd)];simp only [Result.andThen_ok];(have hf':fs[i]?=some f:=by simpa using hf);simp only [hf',Instr.sureAddr,pure_bind,fieldPlace,Sem.run_bind,run_size hie,Result.andThen_ok];rw [if_neg (by omega)];simp only [addr_add,Nat.add_assoc];rfl
   ·cases e
  ·cases e
 ·cases e
theorem aPart_ok {E:Env} (g:Good E) {ρ:Names} {w:World} {t off:Nat} {cs cs':Array Value} {v:Value} (hx:VRs ρ cs.toList cs'.toList) (hn:∀ v,v ∈ cs.toList→notAgg v=true)
 (e:aPart E.Γ t cs.toList off=some v):∃ v',(part t cs' off).run E.P w=.ok v' w∧VR ρ v v':=by
 unfold aPart at e;split at e
 ·rename_i ti hti;obtain ⟨hi,hu⟩:=tiG_ok g hti;unfold part;rw [Sem.run_bind,run_agg hu];simp only [Result.andThen_ok];split at e
  ·rename_i ha;rw [ha];split at e
   ·rename_i l hl;cases e;obtain ⟨h1,h2⟩:=takeN_eq _ _ _ hl;rw [dropN_eq] at h1 h2;simp only [if_true,Sem.run_bind,run_size hi,Result.andThen_ok];refine ⟨_,rfl,?_⟩;subst h1;refine .agg _ _ ?_ fun x hx' => hn x (List.mem_of_mem_drop (List.mem_of_mem_take hx'));(have:(cs'.extract off (off + ti.size)).toList=(cs'.toList.drop off).take ti.size:=by rw [Array.toList_extract];simp [List.extract]);show VRs ρ ((cs.toList.drop off).take ti.size) (cs'.extract off (off + ti.info.size)).toList;rw [show ti.info.size=ti.size from rfl,this];exact (hx.drop _).take _
   ·cases e
  ·rename_i ha;rw [ha];rw [nth_eq] at e;obtain ⟨v',h1,h2⟩:=hx.get e;refine ⟨v',?_,h2⟩;(have:cs'[off]?=some v':=by simpa using h1);simp [this]
 ·cases e
theorem aField_ok {E:Env} (g:Good E) {ρ:Names} {w:World} {t i:Nat} {x x' v:Value} (hx:VR ρ x x') (e:aField E.Γ t x i=some v) :
 ∃ v',(Instr.field t x' i).run E.P w=.ok v' w∧VR ρ v v':=by
 unfold aField at e;split at e
 ·rename_i fs cs hd;split at e
  ·rename_i f hf;cases hx with
   | agg _ cs' h hn => rw [nth_eq] at hf;(have hf':fs[i]?=some f:=by simpa using hf);obtain ⟨v',h1,h2⟩:=aPart_ok (w:=w) g h hn e;refine ⟨v',?_,h2⟩;unfold Instr.field;rw [Sem.run_bind,run_und (descT_ok g hd)];simp [hf',asAgg,h1]
  ·cases e
 ·cases e
theorem aIndexAddr_ok {E:Env} (g:Good E) {ρ:Names} {w:World} {t:Nat} {x x' i i' v:Value} (hx:VR ρ x x') (hi:VR ρ i i') (e:aIndexAddr E.Γ t x i=some v) :
 ∃ v',(Instr.indexAt t x' i').run E.P w=.ok v' w∧VR ρ v v':=by
 unfold aIndexAddr at e;split at e
 ·rename_i k m;cases hi;split at e
  ·rename_i len el b o hd;split at e
   ·rename_i s hs hlt;cases e;obtain ⟨_,n,hn,rfl⟩:=hx.ptr_inv;obtain ⟨ie,hie,rfl⟩:=sizeT_ok g hs;have hlt:=ble_iff.1 hlt;refine ⟨.pointer (some ⟨n.cb,n.co + (o + m * ie.size),none⟩),?_,.ptr _ _ _ hn⟩;unfold Instr.indexAt;simp only [asIntOf,pure_bind,Sem.run_bind,run_und (descT_ok g hd),Result.andThen_ok,Instr.sureAddr];rw [if_pos ⟨by simp,by simp only [Int.ofNat_eq_natCast];omega⟩];simp [run_size hie,addr_add,Nat.add_assoc]
   ·cases e
  ·rename_i el b o len cap hd;split at e
   ·rename_i s hs hlt;cases e;obtain ⟨ie,hie,rfl⟩:=sizeT_ok g hs;have hlt:=ble_iff.1 hlt;cases hx with
    | slice _ _ _ _ c' a' n hn hc ha =>
     have ha:a'=⟨n.cb,n.co + o,none⟩:=by
      rcases ha with h | h
      ·exact h
      ·have:=hc.1;omega
     subst ha;refine ⟨.pointer (some ⟨n.cb,n.co + (o + m * ie.size),none⟩),?_,.ptr _ _ _ hn⟩;unfold Instr.indexAt;simp only [asIntOf,pure_bind,Sem.run_bind,run_und (descT_ok g hd),Result.andThen_ok];rw [if_pos ⟨by simp,by simp only [Int.ofNat_eq_natCast];omega⟩];simp [run_size hie,addr_add,Nat.add_assoc]
   ·cases e
  ·cases e
 ·cases e
end Go.Ab
namespace Go.Ab
theorem aIndex_ok {E:Env} (g:Good E) {ρ:Names} {w:World} {t:Nat} {x x' i i' v:Value} (hx:VR ρ x x') (hi:VR ρ i i') (e:aIndex E.Γ t x i=some v) :
 ∃ v',(Instr.index t x' i').run E.P w=.ok v' w∧VR ρ v v':=by
 unfold aIndex at e;split at e
 ·rename_i k m;cases hi;split at e
  ·rename_i len el cs hd;split at e
   ·rename_i s hs hlt;obtain ⟨ie,hie,rfl⟩:=sizeT_ok g hs;have hlt:=ble_iff.1 hlt;cases hx with
    | agg _ cs' h hn => obtain ⟨v',h1,h2⟩:=aPart_ok (w:=w) g h hn e;refine ⟨v',?_,h2⟩;unfold Instr.index;simp only [asIntOf,pure_bind,Sem.run_bind,run_und (descT_ok g hd),Result.andThen_ok];rw [if_pos ⟨by simp,by simp only [Int.ofNat_eq_natCast];omega⟩];simp only [Sem.run_bind,run_size hie,Result.andThen_ok];exact h1
   ·cases e
  ·rename_i s hd;split at e
   ·rename_i b hb;cases e;cases hx;rw [nth_eq] at hb;refine ⟨byteV b,?_,.int _ _⟩;have hlt:=(List.getElem?_eq_some_iff.1 hb).1;rw [len_ba] at hlt;(have hb2:s[m]?=some b:=by rw [getElem?_pos s m hlt];have:=(List.getElem?_eq_some_iff.1 hb).2;rw [← this];rfl);unfold Instr.index;simp only [asIntOf,pure_bind,Sem.run_bind,run_und (descT_ok g hd),Result.andThen_ok];(have h0:(0:Int) ≤ Int.ofNat m:=by simp);rw [if_pos h0];simp only [Int.ofNat_eq_natCast,Int.toNat_natCast,hb2];rfl
   ·cases e
  ·cases e
 ·cases e
theorem capU_big:knownCap capU=false:=by decide
theorem aSlice_ok {E:Env} (g:Good E) {ρ:Names} {h h':H} {w:World} (r:HR E ρ h w) {t:Nat} {x x' v:Value} {lo hi mx lo' hi' mx':Option Value} (hx:VR ρ x x')
 (hlo:OR2 ρ lo lo') (hhi:OR2 ρ hi hi') (hmx:OR2 ρ mx mx') (e:aSlice E.Γ t x lo hi mx h=some (.val v h')) :
 h'=h∧∃ v',(Instr.sliceAt t x' lo' hi' mx').run E.P w=.ok v' w∧VR ρ v v':=by
 unfold aSlice at e;split at e
 ·rename_i s hd;split at e
  ·cases e
  ·simp only at e;split at e
   ·rename_i b hb;split at e
    ·rename_i a ha;cases e;cases hx;cases mx' <;> simp only [OR2] at hmx;obtain ⟨r1,r2,_,r3⟩:=run_sliceBounds (P:=E.P) (w:=w) (isS:=false) (len:=s.size) (cap:=s.size) (cap':=s.size) (lim:=s.size) (m:=s.size) hlo hhi (mx:=none) (mx':=none) trivial (fun h => absurd rfl h) (Nat.le_refl _) rfl
      (by rw [len_ba] at hb;exact hb) ha
     refine ⟨rfl,.string (s.extract a b),?_,?_⟩
     ·unfold Instr.sliceAt;simp only [Sem.run_bind,run_und (descT_ok g hd),Result.andThen_ok,Instr.slice,Option.isSome_none,Bool.false_eq_true,if_false,r1];rfl
     ·rw [extract_ba];exact .string _
    ·cases e
   ·cases e
 ·rename_i el base len cap hd;split at e
  ·cases e
  ·rename_i sz hsz;obtain ⟨ie,hie,rfl⟩:=sizeT_ok g hsz;split at e
   ·cases e
   ·rename_i m hm;split at e
    ·cases e
    ·rename_i b hb;split at e
     ·cases e
     ·rename_i a ha;have hne:mx ≠ none→hi ≠ none:=by
       intro h1 h2;subst h2;cases mx with
       | none => exact h1 rfl
       | some y => simp at e
      have hu:=descT_ok g hd;have hrun:∀ (base':Option Addr) (c':Nat),(limOf cap len) ≤ c' →
       (Instr.sliceAt t (.slice base' len c') lo' hi' mx').run E.P w =
        .ok (.slice (if (if mx.isSome then m else c')=a then base' else base'.map (·.add (a * ie.size))) (b - a) ((if mx.isSome then m else c') - a)) w∧a ≤ b ∧
        (mx ≠ none→m ≤ (limOf cap len)∧b ≤ m)∧(hi ≠ none→b ≤ (limOf cap len)):=by
       intro base' c' hlim;obtain ⟨r1,r2,r3,r4⟩:=run_sliceBounds (P:=E.P) (w:=w) (isS:=true) (len:=len) (cap:=cap) hlo hhi hmx hne hlim hm hb ha;refine ⟨?_,r2,r3,r4⟩;unfold Instr.sliceAt;simp only [Sem.run_bind,run_und hu,Result.andThen_ok,Instr.slice,r1,run_size hie];rfl
      have hknown:∀ n:Nat,n ≤ 9223372036854775807→knownCap n=true:=fun n hn => ble_iff.2 hn;have hk2:∀ n:Nat,knownCap n=true→n ≤ 9223372036854775807:=fun n hn => ble_iff.1 hn;cases hx with
      | sliceN =>
       obtain ⟨r1,r2,r3,r4⟩:=hrun none 0 (by simp [limOf,knownCap]);have hb0:b ≤ 0:=by
        cases hi with
        | none => simp only [optB] at hb;cases hb;exact Nat.le_refl _
        | some y => have:=r4 (by simp);simpa [limOf,knownCap] using this
       have hm0:m=0:=by
        cases mx with
        | none => simp only [optB] at hm;cases hm;rfl
        | some y => have:=(r3 (by simp)).1;simpa [limOf,knownCap] using this
       (have ha0:a=0:=by omega);(have hbz:b=0:=by omega);subst hm0;subst ha0;subst hbz;have hv:h'=h∧v=.slice none 0 0:=by
        split at e
        ·cases e
        ·simp [knownCap] at e;exact ⟨e.2.symm,e.1.symm⟩
       obtain ⟨rfl,rfl⟩:=hv;refine ⟨rfl,_,r1,?_⟩;(have:(if mx.isSome then 0 else 0)=0:=by split <;> rfl);simp [this];exact .sliceN
      | slice bk o _ _ c' a' n hn hc haddr =>
       obtain ⟨hlen,hc⟩:=hc;have hlim:(limOf cap len) ≤ c':=by
        unfold limOf;cases hk:knownCap cap with
        | true => rw [hk] at hc;simp only [if_true] at hc;exact Nat.le_of_eq hc.symm
        | false => exact hlen
       obtain ⟨r1,r2,r3,r4⟩:=hrun (some a') c' hlim;have hbc:b ≤ (if mx.isSome then m else c'):=by
        cases mx with
        | some y => simpa using (r3 (by simp)).2
        | none =>
         simp only [Option.isSome_none,Bool.false_eq_true,if_false];cases hi with
         | none => simp only [optB] at hb;cases hb;exact hlen
         | some y => exact Nat.le_trans (r4 (by simp)) hlim
       have e' : (match knownCap m with
        | true => match Nat.beq m a with
         | true => some (Er.val (.slice (some ⟨bk,o,none⟩) (Nat.sub b a) 0) h)
         | false => some (Er.val (.slice (some (addr bk (Nat.add o (Nat.mul a ie.size)))) (Nat.sub b a) (Nat.sub m a)) h)
        | false => match mx with
         | none => match esIs h bk ie.size with
          | true => some (Er.val (.slice (some (addr bk (Nat.add o (Nat.mul a ie.size)))) (Nat.sub b a) capU) h)
          | false => none
         | _ => none)=some (.val v h'):=by
        cases mx with
        | none => exact e
        | some y =>
         cases hi with
         | none => exact absurd rfl (hne (by simp))
         | some z => exact e
       (have hnew:a'=⟨n.cb,n.co + o,none⟩→a'.add (a * ie.size)=⟨n.cb,n.co + (o + a * ie.size),none⟩:=by rintro rfl;rw [addr_add,Nat.add_assoc]);cases hkm:knownCap m with
       | true =>
        have hmx:(if mx.isSome then m else c')=m:=by
         cases mx with
         | some y => rfl
         | none => simp only [optB] at hm;cases hm;rw [if_pos hkm] at hc;simpa using hc
        rw [hmx] at r1 hbc;rw [hkm] at e';simp only at e';cases hma:Nat.beq m a with
        | true => have hma:=beq_iff.1 hma;rw [hma] at e';rw [Nat.beq_refl] at e';cases e';refine ⟨rfl,_,r1,?_⟩;rw [if_pos hma,hma,Nat.sub_self];refine .slice _ _ _ _ _ _ _ hn ⟨by show b - a ≤ 0;omega,by simp [knownCap]⟩ (.inr rfl)
        | false =>
         (have hne2:¬ m=a:=fun h => by rw [h,Nat.beq_refl] at hma;cases hma);rw [hma] at e';cases e';refine ⟨rfl,_,r1,?_⟩;rw [if_neg hne2];have hmc:m ≤ c':=by
          cases mx with
          | some y => exact Nat.le_trans (r3 (by simp)).1 hlim
          | none => simpa using Nat.le_of_eq hmx.symm
         have hac:a'=⟨n.cb,n.co + o,none⟩:=by
          rcases haddr with h | h
          ·exact h
          ·omega
         refine .slice _ _ _ _ _ _ _ hn ⟨by show b - a ≤ m - a;omega,?_⟩ (.inl (hnew hac));rw [if_pos (hknown _ (by have:=hk2 _ hkm;show m - a ≤ _;omega))];rfl
       | false =>
        rw [hkm] at e';have hmn:mx=none:=by
         cases mx with
         | none => rfl
         | some y => simp at e'
        subst hmn;simp only [optB] at hm;cases hm;simp only at e';split at e';(case h_2 => cases e');rename_i hes;cases e';rw [if_neg (by rw [hkm];simp)] at hc;obtain ⟨hcu,hend⟩:=hc;have hes2:n.es=ie.size:=by
         unfold esIs at hes;split at hes
         ·rename_i hbk;rw [(r.blk _ _ _ hn hbk).2.1.1];exact beq_iff.1 hes
         ·cases hes
        refine ⟨rfl,_,r1,?_⟩;simp only [Option.isSome_none,Bool.false_eq_true,if_false] at hbc ⊢;by_cases hca:c'=a
        ·rw [if_pos hca];refine .slice _ _ _ _ _ _ _ hn ⟨by show b - a ≤ c' - a;omega,?_⟩ (.inr (by omega));rw [if_neg (by rw [capU_big];simp)];refine ⟨rfl,?_⟩;show n.co + (o + a * ie.size) + (c' - a) * n.es=n.ce;rw [← hend,hes2,hca,Nat.sub_self];omega
        ·rw [if_neg hca];have hac:a'=⟨n.cb,n.co + o,none⟩:=by
          rcases haddr with h | h
          ·exact h
          ·omega
         refine .slice _ _ _ _ _ _ _ hn ⟨by show b - a ≤ c' - a;omega,?_⟩ (.inl (hnew hac));rw [if_neg (by rw [capU_big];simp)];refine ⟨rfl,?_⟩;show n.co + (o + a * ie.size) + (c' - a) * n.es=n.ce;(have hca2:a ≤ c':=by omega);rw [← hend,hes2];(have:c' * ie.size=a * ie.size + (c' - a) * ie.size:=by rw [← Nat.add_mul];congr 1;omega);omega
 ·rename_i n el bk o hd;split at e
  ·rename_i sz hsz hmx0;obtain ⟨ie,hie,rfl⟩:=sizeT_ok g hsz;have hu:=descT_ok g hd;have hn20:n ≤ 1048576∧mx=none:=by
    split at hmx0
    ·rename_i hb;exact ⟨ble_iff.1 hb,hmx0⟩
    ·cases hmx0
   obtain ⟨hn20,rfl⟩:=hn20;cases mx' <;> simp only [OR2] at hmx;split at e
   ·cases e
   ·rename_i b hb;split at e
    ·cases e
    ·rename_i a ha;obtain ⟨r1,r2,_,r3⟩:=run_sliceBounds (P:=E.P) (w:=w) (isS:=false) (len:=n) (cap:=n) (cap':=n) (lim:=n) (m:=n) hlo hhi (mx:=none) (mx':=none) trivial (fun h => absurd rfl h) (Nat.le_refl _) rfl hb ha;obtain ⟨_,nm,hnm,rfl⟩:=hx.ptr_inv;have hrun:(Instr.sliceAt t (.pointer (some ⟨nm.cb,nm.co + o,none⟩)) lo' hi' none).run E.P w =
      .ok (.slice (some (if n=a then ⟨nm.cb,nm.co + o,none⟩ else (⟨nm.cb,nm.co + o,none⟩:Addr).add (a * ie.size))) (b - a) (n - a)) w:=by
      unfold Instr.sliceAt;simp only [Sem.run_bind,run_und hu,Result.andThen_ok,Instr.sureAddr,pure_bind,r1,run_size hie];rfl
     have hbn:b ≤ n:=by
      cases hi with
      | none => simp only [optB] at hb;cases hb;exact Nat.le_refl _
      | some y => exact r3 (by simp)
     have hk:∀ m,m ≤ n→knownCap m=true:=fun m hm => ble_iff.2 (by omega);split at e
     ·rename_i hna;have hna:=beq_iff.1 hna;cases e;refine ⟨rfl,_,hrun,?_⟩;rw [if_pos hna,hna,Nat.sub_self];exact .slice _ _ _ _ _ _ _ hnm ⟨by show b - a ≤ 0;omega,by simp [knownCap]⟩ (.inl rfl)
     ·rename_i hna;(have hna:¬ n=a:=fun h => by rw [h,Nat.beq_refl] at hna;cases hna);cases e;refine ⟨rfl,_,hrun,?_⟩;rw [if_neg hna,addr_add,Nat.add_assoc];refine .slice _ _ _ _ _ _ _ hnm ⟨by show b - a ≤ n - a;omega,?_⟩ (.inl rfl);rw [if_pos (hk _ (by show n - a ≤ n;omega))];rfl
  ·cases e
 ·cases e
theorem aMakeSlice_ok {E:Env} (g:Good E) {ρ:Names} {h h':H} {w:World} (r:HR E ρ h w) {t:Nat} {n c n' c' v:Value} (hn:VR ρ n n') (hc:VR ρ c c') (e:aMakeSlice E.Γ t n c h=some (.val v h')) :
 ∃ ρ' w' v',(Instr.makeSlice t n' c').run E.P w=.ok v' w'∧HR E ρ' h' w'∧Ev ρ h w ρ' h' w'∧VR ρ' v v':=by
 unfold aMakeSlice at e;split at e
 ·rename_i el k m k2 m2 hd;split at e
  ·rename_i ti hti;split at e
   ·rename_i z hz;simp only at e;split at e
    ·rename_i hcond;simp only [Bool.and_eq_true] at hcond;obtain ⟨⟨⟨⟨c1,c2⟩,c3⟩,c4⟩,c5⟩:=hcond;have c1:=ble_iff.1 c1;have c2:=ble_iff.1 c2;have c3:=ble_iff.1 c3;have c4:=beq_iff.1 c4;cases e;cases hn;cases hc;obtain ⟨hi,hu⟩:=tiG_ok g hti;have hzz:VRs ρ (cellsL z) z.cells.toList:=(closed_VR ρ 20 z (g.zero _ _ _ hti hz)).cells;have hno:=(closed_VR ρ 20 z (g.zero _ _ _ hti hz)).cellsNo c5;(have hzs:z.cells.size=ti.info.size:=by rw [← Array.length_toList,← hzz.length];exact c4);have hw1:IntKind.wrap .i64 (Int.ofNat m)=(m:Int):=fits64_ok (n:=(m:Int)) (by show Nat.ble m 9223372036854775807=true;exact ble_iff.2 (by omega));have hw2:IntKind.wrap .i64 (Int.ofNat m2)=(m2:Int):=fits64_ok (n:=(m2:Int)) (by show Nat.ble m2 9223372036854775807=true;exact ble_iff.2 (by omega));have hbytes:ti.info.bytes * m2 ≤ 65536 * 1048576:=Nat.mul_le_mul c3 c2;let arr:Array Value:=if m2 * ti.info.size=0 then #[] else (Array.range (m2 * ti.info.size)).map (z.cells[· % z.cells.size]!);have harr:arr.toList=repL z.cells.toList m2:=by
      show (if m2 * ti.info.size=0 then #[] else _:Array Value).toList=_;split
      ·rename_i h0;symm;exact List.length_eq_zero_iff.1 (by rw [repL_len,Array.length_toList,hzs];exact h0)
      ·exact zeros_eq _ _ _ hzs
     have hrun:(Instr.makeSlice t (.int k (Int.ofNat m)) (.int k2 (Int.ofNat m2))).run E.P w=.ok (.slice (some ⟨w.heap.size,0,none⟩) m m2) (wpush w (.cells arr el (0,0))):=by
      (have e1:¬ (Int.ofNat m2 < 0):=by simp);unfold Instr.makeSlice;simp only [Sem.run_bind,run_und (descT_ok g hd),Result.andThen_ok,asInt,asIntOf,pure_bind,run_info hi,hw1,hw2];rw [if_neg (by (have h1:((ti.info.bytes * m2:Nat):Int)=(ti.info.bytes:Int) * (m2:Int):=by simp);simp only [Bool.or_eq_true,decide_eq_true_eq,not_or];omega)];simp only [askRoom,Int.toNat_natCast,Sem.run_bind];rw [if_neg (by unfold roomBytes;rw [Nat.mul_comm];omega)];simp only [Sem.run_pure,Result.andThen_ok,run_size hi];by_cases h0:m2 * ti.info.size=0
      ·rw [if_pos h0];(have ha:arr=#[]:=by show (if m2 * ti.info.size=0 then #[] else _:Array Value)=#[];rw [if_pos h0]);rw [ha];simp only [Sem.run_pure,Result.andThen_ok,h0,newRow,newObj,Sem.run_bind];(have hr0:(Array.map (fun x => (#[]:Array Value)[x % (#[]:Array Value).size]!) (Array.range 0))=#[]:=by simp [Array.range]);rw [hr0];rfl
      ·rw [if_neg h0];(have ha:arr=(Array.range (m2 * ti.info.size)).map (z.cells[· % z.cells.size]!):=by show (if m2 * ti.info.size=0 then #[] else _:Array Value)=_;rw [if_neg h0]);rw [ha];simp only [Sem.run_bind,run_zero hi hz,Sem.run_pure,Result.andThen_ok,newRow,newObj];rfl
     (have hl:(repL (cellsL z) m2).length ≤ arr.size:=by rw [← Array.length_toList,harr,repL_len,repL_len,hzz.length];exact Nat.le_refl _);obtain ⟨k1,k2⟩:=r.newRow (repL (cellsL z) m2) arr el ti.size (by rw [harr,List.take_of_length_le (by rw [repL_len,repL_len,hzz.length];exact Nat.le_refl _)];exact repL_VRs hzz m2) hl (fun x hx => hno x (repL_mem _ _ x hx));refine ⟨_,_,_,hrun,k1,k2,.slice _ _ _ _ _ _ _ (Names.add_same _ _ _) ⟨c1,?_⟩ (.inl rfl)⟩;rw [if_pos (show knownCap m2=true from ble_iff.2 (by omega))]
    ·cases e
   ·cases e
  ·cases e
 ·cases e
end Go.Ab
