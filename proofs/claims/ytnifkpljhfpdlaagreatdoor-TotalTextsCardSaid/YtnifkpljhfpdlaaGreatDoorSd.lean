/- What is proved: a part of the soundness of the abstract machine (a run of it stands for the run of the model, whatever the tape). Conditions stand in each theorem. -/
import Derived.Test.YtnifkpljhfpdlaaGreatDoorSc
import Derived.ChangeKeysEq
import Derived.Laws.StructEq
set_option linter.unusedVariables false
set_option linter.unusedSimpArgs false
namespace Go.Ab
def mkV (ag:Bool) (l:List Value):Value:=match ag with | true => .agg ⟨l⟩ | false => l.headD Go.undef
theorem eqKs_len:∀ {ds:List TypeDesc} {xs ys:List Value} {r:Bool},eqKs ds xs ys=some r→xs.length=ds.length∧ys.length=ds.length
 | [],[],[],_,_ => ⟨rfl,rfl⟩
 | [],_ :: _,_,_,h => by simp [eqKs] at h
 | [],[],_ :: _,_,h => by simp [eqKs] at h
 | _ :: _,[],_,_,h => by simp [eqKs] at h
 | _ :: _,_ :: _,[],_,h => by simp [eqKs] at h
 | d :: ds,x :: xs,y :: ys,r,h => by
  simp only [eqKs] at h;split at h
  ·rename_i a b h1 h2;have:=eqKs_len h2;simp [this.1,this.2]
  ·cases h
theorem eqKs_append:∀ {a b:List TypeDesc} {xs ys:List Value} {r:Bool},eqKs (a ++ b) xs ys=some r →
 ∃ r1 r2,eqKs a (xs.take a.length) (ys.take a.length)=some r1∧eqKs b (xs.drop a.length) (ys.drop a.length)=some r2∧r=(r1 && r2)
 | [],b,xs,ys,r,h => ⟨true,r,by simp [eqKs],by simpa using h,by simp⟩
 | d :: a,b,xs,ys,r,h => by
  cases xs with
  | nil => simp [eqKs] at h
  | cons x xs =>
   cases ys with
   | nil => simp [eqKs] at h
   | cons y ys =>
    simp only [List.cons_append,eqKs] at h;split at h
    ·rename_i p q h1 h2;cases h;obtain ⟨r1,r2,k1,k2,k3⟩:=eqKs_append h2;refine ⟨p && r1,r2,?_,by simpa using k2,by rw [k3,Bool.and_assoc]⟩;simp [eqKs,h1,k1]
    ·cases h
theorem eqK_ok {P:Program} {w:World} {d:Nat} {t:Nat} {dd:TypeDesc} {x y:Value} {r:Bool} (hu:P.underlying t=some dd) (e:eqK dd x y=some r) :
 (Op.equalIn (d + 1) t x y).run P w=.ok r w:=by
 unfold eqK at e;split at e
 ·rename_i a b;cases e;rw [run_equalIn_bool' w d t a b hu];cases a <;> cases b <;> rfl
 ·rename_i j a k b;split at e
  ·rename_i hk;have:=sameK_ok hk;subst this;cases e;rw [run_equalIn_int w d t _ _ a b hu,eqI_eq]
  ·cases e
 ·rename_i a b;cases e;rw [run_equalIn_string w d t a b hu,beqU_eq,ByteArray.toList_eq,ByteArray.toList_eq]
 ·cases e
theorem leaves_size {E:Env}:∀ {n t:Nat} {ds:List TypeDesc},leaves E n t=some ds→sizeT E.Γ t=some ds.length∧∃ d,descT E.Γ t=some d
 | 0,_,_,h => by simp [leaves] at h
 | n + 1,t,ds,h => by
  simp only [leaves] at h;split at h
  ·rename_i fs s hd hs;split at h
   ·cases h
   ·split at h
    ·split at h
     ·rename_i hb;cases h;have:=beq_iff.1 hb;subst this;exact ⟨hs,_,hd⟩
     ·cases h
    ·cases h
  ·rename_i m e s hd hs;split at h
   ·cases h
   ·rename_i l hne hl;split at h
    ·rename_i hb;cases h;have:=beq_iff.1 hb;refine ⟨?_,_,hd⟩;have hr:∀ k,(repD l k).length=k * l.length:=by
      intro k;induction k with
      | zero => simp [repD]
      | succ k ih => simp [repD,ih,Nat.succ_mul,Nat.add_comm]
     rw [hs,hr,← this];rfl
    ·cases h
   ·cases h
  ·rename_i d s _ _ hd hs;split at h
   ·rename_i hb;cases h;simp only [Bool.and_eq_true] at hb;have:=beq_iff.1 hb.2;subst this;exact ⟨hs,_,hd⟩
   ·cases h
  ·cases h
theorem part_ok {E:Env} (g:Good E) {w:World} {n t off:Nat} {ds:List TypeDesc} (hl:leaves E n t=some ds) (xs:List Value) (hx:off + ds.length ≤ xs.length) {d:TypeDesc} (hd:descT E.Γ t=some d)
 (h1:aggD d=false→ds.length=1) :
 (part t ⟨xs⟩ off).run E.P w=.ok (mkV (aggD d) ((xs.drop off).take ds.length)) w:=by
 obtain ⟨hs,_⟩:=leaves_size hl;obtain ⟨i,hi,hsz⟩:=sizeT_ok g hs;unfold part;rw [Sem.run_bind,run_agg (descT_ok g hd)];simp only [Result.andThen_ok];cases ha:aggD d with
 | true => simp only [if_true,Sem.run_bind,run_size hi,Result.andThen_ok,Sem.run_pure,mkV];congr 2;refine Array.ext' ?_;rw [Array.toList_extract,hsz];simp [List.extract]
 | false =>
  have:=h1 ha;have hlt:off < xs.length:=by omega
  have hg:(⟨xs⟩:Array Value)[off]?=some xs[off]:=by simp [hlt]
  simp only [Bool.false_eq_true,if_false,hg,Sem.run_pure,mkV,this];congr 1;rw [List.headD_eq_head?_getD,List.head?_take,if_neg (by omega),List.head?_drop];simp [hlt]
theorem equal_ok {E : Env} (g:Good E):∀ (n:Nat) {t:Nat} {ds:List TypeDesc} {d:TypeDesc} {xs ys:List Value} {r:Bool} (w:World) (k:Nat),leaves E n t=some ds→descT E.Γ t=some d →
 eqKs ds xs ys=some r→(Op.equalIn (n + k) t (mkV (aggD d) xs) (mkV (aggD d) ys)).run E.P w=.ok r w∧(aggD d=false→ds.length=1):=by
 intro n;induction n with
 | zero => intro t ds d xs ys r w k h;simp [leaves] at h
 | succ n ih =>
  intro t ds d xs ys r w k h hd he;have hdd:=hd;simp only [leaves] at h;rw [hd] at h;rw [show n + 1 + k=(n + k) + 1 from by omega];split at h
  ·rename_i fs s h0 hs;cases h0;split at h
   ·cases h
   ·rename_i hst;split at h
    ·rename_i l hl;split at h
     ·rename_i hb;cases h;refine ⟨?_,fun h => by simp [aggD] at h⟩;have hu:=descT_ok g hd;(have hfo:E.P.fieldsOf t=fs:=by unfold Program.fieldsOf;rw [hu]);show (Op.equalIn (n + k + 1) t (.agg ⟨xs⟩) (.agg ⟨ys⟩)).run E.P w=_;rw [run_equalIn_struct w (n + k) t _ _ (by rw [hfo];exact hu) hst,hfo];have key:∀ (fs:List Field) (at_:Nat) (ds:List TypeDesc) (r:Bool),leafF (leaves E n) at_ fs=some ds→eqKs ds (xs.drop at_) (ys.drop at_)=some r →
       (Op.eqFields (n + k) ⟨xs⟩ ⟨ys⟩ fs).run E.P w=.ok r w:=by
       intro fs;induction fs with
       | nil => intro at_ ds r h1 h2;simp only [leafF] at h1;cases h1;obtain ⟨k1,k2⟩:=eqKs_len h2;have e1:xs.drop at_=[]:=List.length_eq_zero_iff.1 (by simpa using k1);have e2:ys.drop at_=[]:=List.length_eq_zero_iff.1 (by simpa using k2);rw [e1,e2] at h2;simp only [eqKs] at h2;cases h2;simp [Op.eqFields]
       | cons f fs ihf =>
        intro at_ ds r h1 h2;simp only [leafF] at h1;split at h1
        ·rename_i hcond;simp only [Bool.and_eq_true,Bool.not_eq_true'] at hcond;have hoff:=beq_iff.1 hcond.1;(have hname : f.name ≠ "_":=by simpa using hcond.2);split at h1
         ·cases h1
         ·rename_i a hane ha;split at h1
          ·rename_i b hb2;cases h1;obtain ⟨r1,r2,k1,k2,k3⟩:=eqKs_append h2;rw [List.drop_drop] at k2;rw [List.drop_drop] at k2;obtain ⟨_,fd,hfd⟩:=leaves_size ha;obtain ⟨q1,q2⟩:=ih w k ha hfd k1;obtain ⟨l1,l2⟩:=eqKs_len h2;rw [List.length_drop,List.length_append] at l1 l2;simp only [Op.eqFields,if_pos hname,Sem.run_bind];have ha0:a.length ≠ 0:=fun h0 => hane (List.length_eq_zero_iff.1 h0);rw [part_ok g ha xs (by rw [hoff];omega) hfd q2];simp only [Result.andThen_ok];rw [part_ok g ha ys (by rw [hoff];omega) hfd q2];simp only [Result.andThen_ok,hoff,q1];cases r1 with
           | false => simp [k3]
           | true => simp only [Bool.not_true,Bool.false_eq_true,if_false];rw [ihf _ _ _ hb2 (by exact k2),k3];simp
          ·cases h1
         ·cases h1
        ·cases h1
      exact key fs.toList 0 _ r hl (by simpa using he)
     ·cases h
    ·cases h
  ·rename_i m e s h0 hs;cases h0;split at h
   ·cases h
   ·rename_i l hlne hl;split at h
    ·rename_i hb;cases h;refine ⟨?_,fun h => by simp [aggD] at h⟩;have hu:=descT_ok g hd;obtain ⟨hse,ed,hed⟩:=leaves_size hl;obtain ⟨i,hi,hsz⟩:=sizeT_ok g hse;(have hcells:E.P.cellsOf e=l.length:=by unfold Program.cellsOf;rw [hi];simp [hsz]);show (Op.equalIn (n + k + 1) t (.agg ⟨xs⟩) (.agg ⟨ys⟩)).run E.P w=_;rw [Go.run_equalIn_array w (n + k) _ _ hu hi,hcells];have hl0:l.length ≠ 0:=fun h0 => hlne (List.length_eq_zero_iff.1 h0);have key:∀ (cnt j:Nat) (r:Bool),eqKs (repD l cnt) (xs.drop (j * l.length)) (ys.drop (j * l.length))=some r →
      (Op.eqItems (n + k) e l.length ⟨xs⟩ ⟨ys⟩ (List.range' j cnt)).run E.P w=.ok r w:=by
      intro cnt;induction cnt with
      | zero => intro j r h2;obtain ⟨k1,k2⟩:=eqKs_len h2;have e1:xs.drop (j * l.length)=[]:=List.length_eq_zero_iff.1 (by simpa [repD] using k1);have e2:ys.drop (j * l.length)=[]:=List.length_eq_zero_iff.1 (by simpa [repD] using k2);rw [e1,e2] at h2;simp only [repD,eqKs] at h2;cases h2;simp [Op.eqItems]
      | succ cnt ihc =>
       intro j r h2;simp only [repD] at h2;obtain ⟨r1,r2,k1,k2,k3⟩:=eqKs_append h2;rw [List.drop_drop,List.drop_drop] at k2;obtain ⟨q1,q2⟩:=ih w k hl hed k1;obtain ⟨l1,l2⟩:=eqKs_len h2;rw [List.length_drop,List.length_append] at l1 l2;simp only [List.range'_succ,Op.eqItems,Sem.run_bind];rw [part_ok g hl xs (by omega) hed q2];simp only [Result.andThen_ok];rw [part_ok g hl ys (by omega) hed q2];simp only [Result.andThen_ok,q1];cases r1 with
       | false => simp [k3]
       | true => simp only [Bool.not_true,Bool.false_eq_true,if_false];rw [ihc (j + 1) r2 (by rw [Nat.succ_mul];exact k2),k3];simp
     rw [List.range_eq_range'];exact key m 0 _ (by simpa using he)
    ·cases h
   ·cases h
  ·rename_i dd s _ _ h0 hs;cases h0;split at h
   ·rename_i hb;cases h;simp only [Bool.and_eq_true] at hb;(have hag:aggD d=false:=by cases d <;> simp [leafD] at hb <;> rfl);rw [hag];refine ⟨?_,fun _ => rfl⟩;obtain ⟨l1,l2⟩:=eqKs_len he;match xs,ys,l1,l2 with
    | [x],[y],_,_ =>
     simp only [eqKs] at he;split at he
     ·rename_i a b h1 h2;cases h2;cases he;rw [Bool.and_true];exact eqK_ok (descT_ok g hd) h1
     ·cases he
   ·cases h
  ·cases h
end Go.Ab
namespace Go.Ab
theorem eqAgg_ok {E:Env} (g:Good E) {w:World} {t:Nat} {xs ys:List Value} {r:Bool} (e:eqAgg E t xs ys=some r) :
 (Op.equalIn 10000 t (.agg ⟨xs⟩) (.agg ⟨ys⟩)).run E.P w=.ok r w:=by
 unfold eqAgg at e;split at e
 ·rename_i d hd;split at e
  ·rename_i ha;split at e
   ·rename_i ds hl;have:=(equal_ok g 20 w 9980 hl hd e).1;rw [ha] at this;exact this
   ·cases e
  ·cases e
 ·cases e
theorem VRs.plain {ρ:Names}:∀ {ds:List TypeDesc} {xs ys xs':List Value} {r:Bool},VRs ρ xs xs'→eqKs ds xs ys=some r→xs'=xs
 | [],[],_,_,_,.nil,_ => rfl
 | [],_ :: _,_,_,_,_,e => by simp [eqKs] at e
 | _ :: _,[],_,_,_,_,e => by simp [eqKs] at e
 | _ :: _,_ :: _,[],_,_,_,e => by simp [eqKs] at e
 | d :: ds,x :: xs,y :: ys,_,r,.cons _ x' _ xs' h hs,e => by
  simp only [eqKs] at e;split at e
  ·rename_i a b h1 h2;rw [VRs.plain hs h2];congr 1;unfold eqK at h1;split at h1 <;> first | (cases h1;done) | (cases h;rfl)
  ·cases e
theorem eqKs_symm:∀ {ds:List TypeDesc} {xs ys:List Value} {r:Bool},eqKs ds xs ys=some r→∃ r',eqKs ds ys xs=some r'
 | [],[],[],_,_ => ⟨true,rfl⟩
 | [],_ :: _,_,_,e => by simp [eqKs] at e
 | [],[],_ :: _,_,e => by simp [eqKs] at e
 | _ :: _,[],_,_,e => by simp [eqKs] at e
 | _ :: _,_ :: _,[],_,e => by simp [eqKs] at e
 | d :: ds,x :: xs,y :: ys,r,e => by
  simp only [eqKs] at e;split at e
  ·rename_i a b h1 h2;obtain ⟨r',k⟩:=eqKs_symm h2;have:∃ a',eqK d y x=some a':=by
    unfold eqK at h1;split at h1
    ·exact ⟨_,rfl⟩
    ·rename_i hk;split at h1
     ·rename_i hk;have:=sameK_ok hk;subst this;exact ⟨_,by simp only [eqK,hk];rfl⟩
     ·cases h1
    ·exact ⟨_,rfl⟩
    ·cases h1
   obtain ⟨a',ha⟩:=this;exact ⟨a' && r',by simp [eqKs,ha,k]⟩
  ·cases e
theorem eqAgg_plain {E:Env} {t:Nat} {ρ:Names} {xs ys xs' ys':List Value} {r:Bool} (hx:VRs ρ xs xs') (hy:VRs ρ ys ys') (e:eqAgg E t xs ys=some r):xs'=xs∧ys'=ys:=by
 unfold eqAgg at e;split at e
 ·split at e
  ·split at e
   ·exact ⟨hx.plain e,by obtain ⟨r',k⟩:=eqKs_symm e;exact hy.plain k⟩
   ·cases e
  ·cases e
 ·cases e
theorem eqN_run {P:Program} {w:World} {t:Nat} {d:TypeDesc} {ρ:Names} {a b a' b':Value} {r:Bool} (k:Nat) (hu:P.underlying t=some d) (ha:VR ρ a a') (hb:VR ρ b b') (e:eqN d a b=some r) :
 (Op.equalIn (k + 1) t a' b').run P w=.ok r w:=by
 have hrun:(underlying t).run P w=.ok d w:=run_und hu;unfold eqN at e;split at e <;> first | (cases e;done) | skip
 all_goals (cases e;cases ha <;> cases hb <;> (unfold Op.equalIn;rw [Sem.run_bind,hrun];simp))
theorem eqN_guard {P:Program} {w:World} {t:Nat} {d:TypeDesc} {ρ:Names} {a b a' b':Value} {r:Bool} (ha:VR ρ a a') (hb:VR ρ b b') (e:eqN d a b=some r) (op:BinOp) (x y:Operand) :
 (eqGuard op t x y a' b').run P w=.ok () w:=by
 unfold eqN at e;split at e <;> first | (cases e;done) | skip
 all_goals (cases ha <;> cases hb <;> cases op <;> simp [eqGuard])
theorem eqNil_run {P:Program} {w:World} {t:Nat} {ms:Array (String × TypeId)} (k:Nat) (hu:P.underlying t=some (.interface ms)) :
 (Op.equalIn (k + 1) t .nilIface .nilIface).run P w=.ok true w:=by
 have hrun:(underlying t).run P w=.ok (.interface ms) w:=run_und hu;unfold Op.equalIn;rw [Sem.run_bind,hrun];simp
theorem eqB_ok {E:Env} (g:Good E) {w:World} {t:Nat} {ρ:Names} {a b a' b':Value} {x y:Operand} {r:Bool} (ha:VR ρ a a') (hb:VR ρ b b') (e:eqB E t x y a b=some r) :
 (Op.equalIn 10000 t a' b').run E.P w=.ok r w∧∀ op,(eqGuard op t x y a' b').run E.P w=.ok () w:=by
 unfold eqB at e;split at e
 ·cases e
 ·rename_i d hd;have hu:=descT_ok g hd;split at e
  ·rename_i p q;split at e
   ·cases e;cases ha;cases hb;refine ⟨?_,fun op => by cases op <;> simp [eqGuard]⟩;rw [show (10000:Nat)=9999 + 1 from rfl,run_equalIn_bool' w 9999 t p q hu];cases p <;> cases q <;> rfl
   ·cases e
  ·rename_i p q;split at e
   ·cases e
   ·rename_i hg;cases ha with
    | agg _ p' hp hpn =>
     cases hb with
     | agg _ q' hq hqn => obtain ⟨h1,h2⟩:=eqAgg_plain hp hq e;have hp2:p'=p:=Array.ext' h1;have hq2:q'=q:=Array.ext' h2;subst hp2;subst hq2;exact ⟨eqAgg_ok g e,fun op => run_eqGuard_agg w op t x y _ _ hg⟩
  ·split at e
   ·split at e
    ·rename_i hco;cases e;cases ha;cases hb;refine ⟨?_,fun op => ?_⟩
     ·exact eqNil_run 9999 hu
     ·(have:((x matches .const _) || (y matches .const _))=true:=by cases x <;> cases y <;> simp [isCo] at hco ⊢);cases op <;> simp [eqGuard];all_goals (cases x <;> cases y <;> simp [isCo] at hco <;> simp)
    ·cases e
   ·cases e
  ·exact ⟨eqN_run 9999 hu ha hb e,fun op => eqN_guard ha hb e op x y⟩
theorem guard_skip {P:Program} {w:World} {op:BinOp} {t:Nat} {x y:Operand} {a b:Value} (h:notAgg a=true) (hn:a ≠ .nilIface):(eqGuard op t x y a b).run P w=.ok () w:=by cases op <;> cases a <;> simp [eqGuard,notAgg] at h hn ⊢
theorem aBin_ok {E:Env} (g:Good E) {w:World} {t:Nat} {ρ:Names} {a b a' b' v:Value} {x y:Operand} {op:BinOp} (ha:VR ρ a a') (hb:VR ρ b b') (e:aBin E op t x y a b=some v) :
 ∃ v',(do eqGuard op t x y a' b';binOp op t a' b').run E.P w=.ok v' w∧VR ρ v v':=by
 unfold aBin at e;split at e
 ·rename_i j m k n;cases ha;cases hb;have hg:(eqGuard op t x y (.int j m) (.int k n)).run E.P w=.ok () w:=guard_skip rfl (by simp);rw [Sem.run_bind,hg];simp only [Result.andThen_ok];have hpure:∀ o,onlyInt (pureRun E.P (binOp o t (.int j m) (.int k n)))=some v→op=o→∃ v',(binOp op t (.int j m) (.int k n)).run E.P w=.ok v' w∧VR ρ v v':=by
   rintro o h rfl;unfold onlyInt at h;split at h
   ·rename_i kk nn hp;cases h;exact ⟨_,pureRun_ok _ _ _ hp w,.int _ _⟩
   ·cases h
  split at e
  ·exact hpure _ e rfl
  ·exact hpure _ e rfl
  ·exact hpure _ e rfl
  ·exact hpure _ e rfl
  ·exact hpure _ e rfl
  ·exact hpure _ e rfl
  ·split at e
   ·rename_i hk;have:=sameK_ok hk;subst this;refine ⟨v,arith_ok e,?_⟩;cases op <;> simp only [arith] at e <;> first | (cases e;exact .int _ _) | (cases e;exact .bool _) | (cases e;done) | (split at e <;> first | (cases e;done) | (cases e;exact .int _ _))
   ·cases e
 ·rename_i p q;cases ha;cases hb;have hg:(eqGuard op t x y (.string p) (.string q)).run E.P w=.ok () w:=guard_skip rfl (by simp);rw [Sem.run_bind,hg];simp only [Result.andThen_ok];refine ⟨v,strOp_ok e,?_⟩;cases op <;> simp only [strOp] at e <;> first | (cases e;exact .bool _) | (cases e;done) | (split at e <;> first | (cases e;done) | (cases e;exact .string _))
 ·rename_i hni hns;have hni':∀ j m k n,¬ (a'=.int j m∧b'=.int k n):=by rintro j m k n ⟨rfl,rfl⟩;cases ha;cases hb;exact hni _ _ _ _ rfl rfl
  have hns':∀ m n,¬ (a'=.string m∧b'=.string n):=by rintro m n ⟨rfl,rfl⟩;cases ha;cases hb;exact hns _ _ rfl rfl
  split at e
  ·split at e
   ·rename_i r hr;cases e;obtain ⟨h1,h2⟩:=eqB_ok (w:=w) g ha hb hr;refine ⟨.bool r,?_,.bool _⟩;rw [Sem.run_bind,h2];simp only [Result.andThen_ok];(have:binOp .eql t a' b'=(do pure (.bool (← Op.equal t a' b'))):=by cases ha <;> cases hb <;> first | rfl | (exact absurd ⟨rfl,rfl⟩ (hni' _ _ _ _)) | (exact absurd ⟨rfl,rfl⟩ (hns' _ _)));rw [this,Sem.run_bind];show Result.andThen ((Op.equalIn 10000 t a' b').run E.P w) _=_;rw [h1];rfl
   ·cases e
  ·split at e
   ·rename_i r hr;cases e;obtain ⟨h1,h2⟩:=eqB_ok (w:=w) g ha hb hr;refine ⟨.bool (!r),?_,.bool _⟩;rw [Sem.run_bind,h2];simp only [Result.andThen_ok];(have:binOp .neq t a' b'=(do pure (.bool (!(← Op.equal t a' b')))):=by cases ha <;> cases hb <;> first | rfl | (exact absurd ⟨rfl,rfl⟩ (hni' _ _ _ _)) | (exact absurd ⟨rfl,rfl⟩ (hns' _ _)));rw [this,Sem.run_bind];show Result.andThen ((Op.equalIn 10000 t a' b').run E.P w) _=_;rw [h1];rfl
   ·cases e
  ·cases e
end Go.Ab
namespace Go.Ab
theorem forIn_unit {α:Type} {P:Program} {w:World} (f:α→Unit→Sem (ForInStep Unit)):∀ (l:List α),(∀ x,x ∈ l→(f x ()).run P w=.ok (.yield ()) w)→(forIn l () f).run P w=.ok () w
 | [],_ => by simp
 | x :: l,h => by rw [List.forIn_cons,Sem.run_bind,h x (List.mem_cons_self ..)];simp only [Result.andThen_ok];exact forIn_unit f l fun y hy => h y (List.mem_cons_of_mem _ hy)
theorem chk_ok {E : Env} (g:Good E) (em:Bool):∀ (n:Nat) {t:Nat} {ds:List TypeDesc} {d:TypeDesc} {xs:List Value} {r:Bool} (w:World) (k:Nat),leaves E n t=some ds→descT E.Γ t=some d →
 eqKs ds xs xs=some r→(Instr.checkKey em (n + k) t (mkV (aggD d) xs)).run E.P w=.ok () w:=by
 intro n;induction n with
 | zero => intro t ds d xs r w k h;simp [leaves] at h
 | succ n ih =>
  intro t ds d xs r w k h hd he;have hu:=descT_ok g hd;have hsz1:=(equal_ok g (n + 1) w 0 h hd he).2;simp only [leaves] at h;rw [hd] at h;rw [show n + 1 + k=(n + k) + 1 from by omega];split at h
  ·rename_i fs s h0 hs;cases h0;split at h
   ·cases h
   ·split at h
    ·rename_i l hl;split at h
     ·cases h;show (Instr.checkKey em (n + k + 1) t (.agg ⟨xs⟩)).run E.P w=_;unfold Instr.checkKey;rw [Sem.run_bind,run_und hu];simp only [Result.andThen_ok];rw [← Array.forIn_toList];have key:∀ (fs:List Field) (at_:Nat) (ds:List TypeDesc) (r:Bool),leafF (leaves E n) at_ fs=some ds→eqKs ds (xs.drop at_) (xs.drop at_)=some r→∀ f,f ∈ fs →
       ∃ v,(part f.type ⟨xs⟩ f.offset).run E.P w=.ok v w∧(Instr.checkKey em (n + k) f.type v).run E.P w=.ok () w:=by
       intro fs;induction fs with
       | nil => intro at_ ds r _ _ f hf;cases hf
       | cons f fs ihf =>
        intro at_ ds r h1 h2 f' hf';simp only [leafF] at h1;split at h1
        ·rename_i hcond;simp only [Bool.and_eq_true,Bool.not_eq_true'] at hcond;have hoff:=beq_iff.1 hcond.1;split at h1
         ·cases h1
         ·rename_i a hane ha;split at h1
          ·rename_i b hb2;cases h1;obtain ⟨r1,r2,k1,k2,k3⟩:=eqKs_append h2;rw [List.drop_drop] at k2;obtain ⟨_,fd,hfd⟩:=leaves_size ha;obtain ⟨l1,l2⟩:=eqKs_len h2;rw [List.length_drop,List.length_append] at l1;have ha0:a.length ≠ 0:=fun h0 => hane (List.length_eq_zero_iff.1 h0);rcases List.mem_cons.1 hf' with rfl | hf'
           ·exact ⟨_,part_ok g ha xs (by rw [hoff];omega) hfd (equal_ok g n w k ha hfd k1).2,by rw [hoff];exact ih w k ha hfd k1⟩
           ·exact ihf _ _ _ hb2 k2 f' hf'
          ·cases h1
         ·cases h1
        ·cases h1
      rw [Sem.run_bind,forIn_unit _ fs.toList ?_]
      ·rfl
      intro f hf;obtain ⟨v,p1,p2⟩:=key fs.toList 0 _ r hl (by simpa using he) f hf;have hname : f.name ≠ "_":=by
       have:∀ (fs:List Field) (at_:Nat) (ds:List TypeDesc),leafF (leaves E n) at_ fs=some ds→∀ f,f ∈ fs → f.name ≠ "_":=by
        intro fs;induction fs with
        | nil => intro _ _ _ f hf;cases hf
        | cons x fs ihx =>
         intro at_ ds h1 f hf;simp only [leafF] at h1;split at h1
         ·rename_i hcond;simp only [Bool.and_eq_true,Bool.not_eq_true'] at hcond;split at h1
          ·cases h1
          ·split at h1
           ·rename_i hb2;rcases List.mem_cons.1 hf with rfl | hf
            ·simpa using hcond.2
            ·exact ihx _ _ hb2 f hf
           ·cases h1
          ·cases h1
         ·cases h1
       exact this _ _ _ hl f hf
      simp only [if_pos hname,Sem.run_bind,p1,Result.andThen_ok,p2,Sem.run_pure]
     ·cases h
    ·cases h
  ·rename_i m e s h0 hs;cases h0;split at h
   ·cases h
   ·rename_i l hlne hl;split at h
    ·rename_i hb;cases h;obtain ⟨hse,ed,hed⟩:=leaves_size hl;obtain ⟨i,hi,hsz⟩:=sizeT_ok g hse;show (Instr.checkKey em (n + k + 1) t (.agg ⟨xs⟩)).run E.P w=_;unfold Instr.checkKey;rw [Sem.run_bind,run_und hu];simp only [Result.andThen_ok];have hl0:l.length ≠ 0:=fun h0 => hlne (List.length_eq_zero_iff.1 h0);have key:∀ (cnt j:Nat) (r:Bool),eqKs (repD l cnt) (xs.drop (j * l.length)) (xs.drop (j * l.length))=some r→∀ q,q ∈ List.range' j cnt →
      ∃ v,(part e ⟨xs⟩ (q * l.length)).run E.P w=.ok v w∧(Instr.checkKey em (n + k) e v).run E.P w=.ok () w:=by
      intro cnt;induction cnt with
      | zero => intro j r _ q hq;simp at hq
      | succ cnt ihc =>
       intro j r h2 q hq;simp only [repD] at h2;obtain ⟨r1,r2,k1,k2,k3⟩:=eqKs_append h2;rw [List.drop_drop] at k2;obtain ⟨l1,_⟩:=eqKs_len h2;rw [List.length_drop,List.length_append] at l1;rw [List.range'_succ] at hq;rcases List.mem_cons.1 hq with rfl | hq
       ·exact ⟨_,part_ok g hl xs (by omega) hed (equal_ok g n w k hl hed k1).2,ih w k hl hed k1⟩
       ·exact ihc (j + 1) r2 (by rw [Nat.succ_mul];exact k2) q hq
     simp only [Std.Legacy.Range.forIn_eq_forIn_range',Std.Legacy.Range.size,Nat.sub_zero,Nat.add_one_sub_one,Nat.div_one];rw [Sem.run_bind,forIn_unit _ (List.range' 0 m) ?_]
     ·rfl
     intro q hq;obtain ⟨v,p1,p2⟩:=key m 0 _ (by simpa using he) q hq;rw [← hsz] at p1;simp only [Sem.run_bind,run_size hi,p1,Result.andThen_ok,p2,Sem.run_pure]
    ·cases h
   ·cases h
  ·rename_i dd s _ _ h0 hs;cases h0;split at h
   ·rename_i hb;cases h;simp only [Bool.and_eq_true] at hb;(have hag:aggD d=false:=by cases d <;> simp [leafD] at hb <;> rfl);rw [hag];obtain ⟨l1,l2⟩:=eqKs_len he;match xs,l1 with
    | [x],_ => show (Instr.checkKey em (n + k + 1) t x).run E.P w=_;unfold Instr.checkKey;rw [Sem.run_bind,run_und hu];simp only [Result.andThen_ok];cases d <;> simp [leafD] at hb <;> simp
   ·cases h
  ·cases h
end Go.Ab
namespace Go.Ab
def idxM (E:Env) (t:Nat) (k:Value):List (Value × Value)→Option (Option Nat)
 | [] => some none
 | (a,_) :: r => match keyEq E t k a with
  | some true => some (some 0)
  | some false => match idxM E t k r with
   | some (some j) => some (some (j + 1))
   | some none => some none
   | none => none
  | none => none
theorem findM_idx {E:Env} {t:Nat} {k:Value}:∀ {es:List (Value × Value)} {r:Option Value},findM E t k es=some r →
 (idxM E t k es=some none∧r=none) ∨ ∃ j a v,idxM E t k es=some (some j)∧es[j]?=some (a,v)∧r=some v
 | [],r,h => by simp only [findM] at h;cases h;exact .inl ⟨rfl,rfl⟩
 | (a,v) :: es,r,h => by
  simp only [findM] at h;split at h
  ·rename_i hk;cases h;exact .inr ⟨0,a,v,by simp [idxM,hk],rfl,rfl⟩
  ·rename_i hk;rcases findM_idx h with ⟨h1,h2⟩ | ⟨j,a',v',h1,h2,h3⟩
   ·exact .inl ⟨by simp [idxM,hk,h1],h2⟩
   ·exact .inr ⟨j + 1,a',v',by simp [idxM,hk,h1],by simpa using h2,h3⟩
  ·cases h
theorem setM_idx {E:Env} {t:Nat} {k v:Value}:∀ {es r:List (Value × Value)},setM E t k v es=some r →
 (idxM E t k es=some none∧r=es ++ [(k,v)]) ∨ ∃ j a w,idxM E t k es=some (some j)∧es[j]?=some (a,w)∧keyEq E t k a=some true∧r=es.set j (k,v)
 | [],r,h => by simp only [setM] at h;cases h;exact .inl ⟨rfl,rfl⟩
 | (a, w) :: es,r,h => by
  simp only [setM] at h;split at h
  ·rename_i hk;cases h;exact .inr ⟨0,a,w,by simp [idxM,hk],rfl,hk,rfl⟩
  ·rename_i hk;split at h
   ·rename_i l hl;cases h;rcases setM_idx hl with ⟨h1,h2⟩ | ⟨j,a',v',h1,h2,h3,h4⟩
    ·exact .inl ⟨by simp [idxM,hk,h1],by simp [h2]⟩
    ·exact .inr ⟨j + 1,a',v',by simp [idxM,hk,h1],by simpa using h2,h3,by simp [h4]⟩
   ·cases h
  ·cases h
theorem delM_idx {E:Env} {t:Nat} {k:Value}:∀ {es r:List (Value × Value)},delM E t k es=some r →
 (idxM E t k es=some none∧r=es) ∨ ∃ j,idxM E t k es=some (some j)∧j < es.length∧r=es.eraseIdx j
 | [],r,h => by simp only [delM] at h;cases h;exact .inl ⟨rfl,rfl⟩
 | (a, w) :: es,r,h => by
  simp only [delM] at h;split at h
  ·rename_i hk;cases h;exact .inr ⟨0,by simp [idxM,hk],by simp,rfl⟩
  ·rename_i hk;split at h
   ·rename_i l hl;cases h;rcases delM_idx hl with ⟨h1,h2⟩ | ⟨j,h1,h2,h3⟩
    ·exact .inl ⟨by simp [idxM,hk,h1],by simp [h2]⟩
    ·exact .inr ⟨j + 1,by simp [idxM,hk,h1],by simp;omega,by simp [h3]⟩
   ·cases h
  ·cases h
theorem EntsR.length {ρ:Names}:∀ {es:List (Value × Value)} {l:List MapEntry},EntsR ρ es l→es.length=l.length
 | _,_,.nil => rfl
 | _,_,.cons _ _ _ _ _ hs => by simp [EntsR.length hs]
theorem EntsR.get {ρ:Names}:∀ {es:List (Value × Value)} {l:List MapEntry},EntsR ρ es l→∀ {j:Nat} {e:Value × Value},es[j]?=some e→∃ x,l[j]?=some x∧entR ρ e x
 | _,_,.nil,j,e,h => by simp at h
 | _,_,.cons e x l l' h hs,j,e',h' => by
  cases j with
  | zero => simp at h';subst h';exact ⟨x,by simp,h⟩
  | succ j => simp at h';obtain ⟨y,h1,h2⟩:=EntsR.get hs h';exact ⟨y,by simpa using h1,h2⟩
theorem EntsR.append {ρ:Names}:∀ {es fs:List (Value × Value)} {l m:List MapEntry},EntsR ρ es l→EntsR ρ fs m→EntsR ρ (es ++ fs) (l ++ m)
 | _,_,_,_,.nil,h => h
 | _,_,_,_,.cons e x l l' h hs,k => .cons e x _ _ h (EntsR.append hs k)
theorem EntsR.set {ρ:Names}:∀ {es:List (Value × Value)} {l:List MapEntry},EntsR ρ es l→∀ (j:Nat) (e:Value × Value) (x:MapEntry),entR ρ e x→EntsR ρ (es.set j e) (l.set j x)
 | _,_,.nil,j,e,x,_ => by simp;exact .nil
 | _,_,.cons e x l l' h hs,j,e',x',h' => by
  cases j with
  | zero => exact .cons e' x' _ _ h' hs
  | succ j => exact .cons e x _ _ h (EntsR.set hs j e' x' h')
theorem EntsR.erase {ρ:Names}:∀ {es:List (Value × Value)} {l:List MapEntry},EntsR ρ es l→∀ (j:Nat),EntsR ρ (es.eraseIdx j) (l.eraseIdx j)
 | _,_,.nil,j => by simp;exact .nil
 | _,_,.cons e x l l' h hs,j => by
  cases j with
  | zero => exact hs
  | succ j => exact .cons e x _ _ h (EntsR.erase hs j)
theorem eqKs_true:∀ {ds:List TypeDesc} {xs ys:List Value},eqKs ds xs ys=some true→xs=ys
 | [],[],[],_ => rfl
 | [],_ :: _,_,e => by simp [eqKs] at e
 | [],[],_ :: _,e => by simp [eqKs] at e
 | _ :: _,[],_,e => by simp [eqKs] at e
 | _ :: _,_ :: _,[],e => by simp [eqKs] at e
 | d :: ds,x :: xs,y :: ys,e => by
  simp only [eqKs] at e;split at e
  ·rename_i a b h1 h2;(have e':a=true∧b=true:=by cases a <;> cases b <;> simp at e ⊢);obtain ⟨rfl,rfl⟩:=e';rw [eqKs_true h2];congr 1;unfold eqK at h1;split at h1
   ·rename_i p q;cases p <;> cases q <;> simp at h1 ⊢
   ·split at h1
    ·rename_i hk;have:=sameK_ok hk;subst this;rw [eqI_eq] at h1;simp at h1;rw [h1]
    ·cases h1
   ·rename_i p q;have:=(beqU_iff _ _).1 (Option.some.inj h1);obtain ⟨⟨p⟩⟩:=p;obtain ⟨⟨q⟩⟩:=q;simp only at this;rw [this]
   ·cases h1
  ·cases e
theorem keyOk_ok {E:Env} (g:Good E) {w:World} {t:Nat} {ρ:Names} {k k':Value} (hv:VR ρ k k') (h:keyOk E t k=true) :
 k' = k∧(∀ em,(Instr.checkKey em 10000 t k).run E.P w=.ok () w)∧∃ d,descT E.Γ t=some d ∧
  ((∀ a a' r,VR ρ a a'→keyEq E t k a=some r→Instr.sameNow d k a'=some r∧(r=true→a'=k)) ∨
   ((∀ a',Instr.sameNow d k a'=none)∧∀ a a' r,VR ρ a a'→keyEq E t k a=some r→(Op.equal t k a').run E.P w=.ok r w∧(r=true→a'=k))):=by
 unfold keyOk at h;split at h
 ·rename_i kk n ik hd;cases hv;refine ⟨rfl,fun em => ?_,_,hd,.inl fun a a' r ha he => ?_⟩
  ·rw [show (10000:Nat)=9999 + 1 from rfl];unfold Instr.checkKey;rw [Sem.run_bind,run_und (descT_ok g hd)];simp
  ·unfold keyEq at he;split at he <;> first | (cases he;done) | skip
   ·rename_i j m k2 n2 heq;cases heq;cases ha;split at he
    ·rename_i hs;have:=sameK_ok hs;subst this;cases he;refine ⟨by simp [Instr.sameNow,eqI_eq],fun hr => ?_⟩;(rw [eqI_eq] at hr;have:n=n2:=by simpa using hr);rw [this]
    ·cases he
   all_goals (rename_i heq;cases heq)
 ·rename_i s hd;cases hv;refine ⟨rfl,fun em => ?_,_,hd,.inl fun a a' r ha he => ?_⟩
  ·rw [show (10000:Nat)=9999 + 1 from rfl];unfold Instr.checkKey;rw [Sem.run_bind,run_und (descT_ok g hd)];simp
  ·unfold keyEq at he;split at he <;> first | (cases he;done) | skip
   ·rename_i heq;cases heq
   ·rename_i p q heq;cases heq;cases ha;cases he;refine ⟨by simp [Instr.sameNow,beqU_eq,beq_toListBytes,ByteArray.toList_eq],fun hr => ?_⟩;have:=(beqU_iff _ _).1 hr;obtain ⟨⟨p⟩⟩:=s;obtain ⟨⟨q⟩⟩:=q;simp only at this;rw [this]
   all_goals (rename_i heq;cases heq)
 ·rename_i s hd;cases hv;refine ⟨rfl,fun em => ?_,_,hd,.inl fun a a' r ha he => ?_⟩
  ·rw [show (10000:Nat)=9999 + 1 from rfl];unfold Instr.checkKey;rw [Sem.run_bind,run_und (descT_ok g hd)];simp
  ·unfold keyEq at he;split at he <;> first | (cases he;done) | skip
   ·rename_i heq;cases heq
   ·rename_i heq;cases heq
   ·rename_i p q heq;cases heq;cases ha;cases he;cases s <;> cases q <;> simp [Instr.sameNow]
   all_goals (rename_i heq;cases heq)
 ·rename_i p d hd;split at h
  ·rename_i r0 hr0;cases hv with
   | agg _ p' hp hpn =>
    have hpp:=(eqAgg_plain hp hp hr0).1;have:p'=p:=Array.ext' hpp;subst this;unfold eqAgg at hr0;rw [hd] at hr0;simp only at hr0;split at hr0
    ·rename_i hag;split at hr0
     ·rename_i ds hl;refine ⟨rfl,fun em => ?_,_,hd,.inr ⟨fun a' => ?_,fun a a' r ha he => ?_⟩⟩
      ·have:=chk_ok g em 20 w 9980 hl hd hr0;rw [hag] at this;exact this
      ·cases d <;> simp [aggD] at hag <;> cases a' <;> rfl
      ·unfold keyEq at he;split at he <;> first | (cases he;done) | skip
       ·rename_i heq;cases heq
       ·rename_i heq;cases heq
       ·rename_i heq;cases heq
       ·rename_i q1 q heq;cases heq;cases ha with
        | agg _ q' hq hqn => have hqq:=(eqAgg_plain hp hq he).2;have:q'=q:=Array.ext' hqq;subst this;refine ⟨eqAgg_ok g he,fun hr => ?_⟩;subst hr;unfold eqAgg at he;rw [hd] at he;simp only [hag,hl] at he;have:=eqKs_true he;rw [Array.ext' this]
     ·cases hr0
    ·cases hr0
  ·cases h
 ·cases h
theorem find_ok {E:Env} (g:Good E) {w:World} {t:Nat} {ρ:Names} {k:Value} (hv:VR ρ k k) (h:keyOk E t k=true) {es:List (Value × Value)} {l:List MapEntry} (hes:EntsR ρ es l) {r:Option Nat}
 (hi:idxM E t k es=some r):∃ res,(Instr.findKey t k l).run E.P w=.ok res w ∧
  (r=none→res=none)∧∀ j,r=some j→∃ x,l[j]?=some x∧res=some (j,x.val)∧x.key=k:=by
 obtain ⟨_,_,d,hd,hcase⟩:=keyOk_ok (w:=w) g hv h;have hu:=run_und (P:=E.P) (w:=w) (descT_ok g hd);rcases hcase with hs | ⟨hn,hq⟩
 ·have key:∀ (es:List (Value × Value)) (l:List MapEntry) (i:Nat) (r:Option Nat),EntsR ρ es l→idxM E t k es=some r →
   ∃ res,Instr.findNow d k l i=some res∧(r=none→res=none)∧∀ j,r=some j→∃ x,l[j]?=some x∧res=some (i + j,x.val)∧x.key=k:=by
   intro es;induction es with
   | nil => intro l i r hes hi;cases hes;simp only [idxM] at hi;cases hi;exact ⟨none,rfl,fun _ => rfl,fun j h => by cases h⟩
   | cons e es ih =>
    intro l i r hes hi;cases hes with
    | cons _ x _ l' hx hs' =>
     obtain ⟨a,v⟩:=e;simp only [idxM] at hi;split at hi
     ·rename_i hk;cases hi;obtain ⟨h1,h2⟩:=hs _ _ _ hx.1 hk;exact ⟨_,by simp [Instr.findNow,h1];rfl,fun h => (by cases h),fun j hj => by cases hj;exact ⟨x,rfl,rfl,h2 rfl⟩⟩
     ·rename_i hk;obtain ⟨h1,_⟩:=hs _ _ _ hx.1 hk;split at hi
      ·rename_i j hj;cases hi;obtain ⟨res,g1,g2,g3⟩:=ih l' (i + 1) _ hs' hj;refine ⟨res,by simp [Instr.findNow,h1,g1],fun h => (by cases h),fun j' hj' => ?_⟩;cases hj';obtain ⟨y,q1,q2,q3⟩:=g3 j rfl;exact ⟨y,by simpa using q1,by rw [q2];congr 2;omega,q3⟩
      ·rename_i hj;cases hi;obtain ⟨res,g1,g2,g3⟩:=ih l' (i + 1) _ hs' hj;exact ⟨res,by simp [Instr.findNow,h1,g1],g2,fun j h => by cases h⟩
      ·cases hi
     ·cases hi
  obtain ⟨res,g1,g2,g3⟩:=key es l 0 r hes hi;refine ⟨res,?_,g2,fun j hj => ?_⟩
  ·unfold Instr.findKey;rw [Sem.run_bind,hu];simp [g1]
  ·obtain ⟨x,q1,q2,q3⟩:=g3 j hj;exact ⟨x,q1,by rw [q2];simp,q3⟩
 ·have key:∀ (es:List (Value × Value)) (l:List MapEntry) (i:Nat) (r:Option Nat),EntsR ρ es l→idxM E t k es=some r →
   ∃ res,(Instr.findAsking t k l i).run E.P w=.ok res w∧(r=none→res=none)∧∀ j,r=some j→∃ x,l[j]?=some x∧res=some (i + j,x.val)∧x.key=k:=by
   intro es;induction es with
   | nil => intro l i r hes hi;cases hes;simp only [idxM] at hi;cases hi;exact ⟨none,by simp [Instr.findAsking],fun _ => rfl,fun j h => by cases h⟩
   | cons e es ih =>
    intro l i r hes hi;cases hes with
    | cons _ x _ l' hx hs' =>
     obtain ⟨a,v⟩:=e;simp only [idxM] at hi;split at hi
     ·rename_i hk;cases hi;obtain ⟨h1,h2⟩:=hq _ _ _ hx.1 hk;exact ⟨_,by simp [Instr.findAsking,h1];rfl,fun h => (by cases h),fun j hj => by cases hj;exact ⟨x,rfl,rfl,h2 rfl⟩⟩
     ·rename_i hk;obtain ⟨h1,_⟩:=hq _ _ _ hx.1 hk;split at hi
      ·rename_i j hj;cases hi;obtain ⟨res,g1,g2,g3⟩:=ih l' (i + 1) _ hs' hj;refine ⟨res,by simp [Instr.findAsking,h1,g1],fun h => (by cases h),fun j' hj' => ?_⟩;cases hj';obtain ⟨y,q1,q2,q3⟩:=g3 j rfl;exact ⟨y,by simpa using q1,by rw [q2];congr 2;omega,q3⟩
      ·rename_i hj;cases hi;obtain ⟨res,g1,g2,g3⟩:=ih l' (i + 1) _ hs' hj;exact ⟨res,by simp [Instr.findAsking,h1,g1],g2,fun j h => by cases h⟩
      ·cases hi
     ·cases hi
  cases hes with
  | nil => simp only [idxM] at hi;cases hi;refine ⟨none,?_,fun _ => rfl,fun j h => by cases h⟩;unfold Instr.findKey;rw [Sem.run_bind,hu];simp [Instr.findNow]
  | cons e x es' l' hx hs' =>
   obtain ⟨res,g1,g2,g3⟩:=key (e :: es') (x :: l') 0 r (.cons e x es' l' hx hs') hi;refine ⟨res,?_,g2,fun j hj => ?_⟩
   ·unfold Instr.findKey;rw [Sem.run_bind,hu];simp only [Result.andThen_ok,Instr.findNow,hn];exact g1
   ·obtain ⟨x,q1,q2,q3⟩:=g3 j hj;exact ⟨x,q1,by rw [q2];simp,q3⟩
end Go.Ab
namespace Go.Ab
theorem run_getObj' {P:Program} {w:World} {r:Nat} {o:Obj} (hb:w.heap[r]?=some o) (ho:∀ c e f,o ≠ .cells c e f):(getObj r).run P w=.ok o w:=by unfold getObj;cases o <;> first | (exact absurd rfl (ho _ _ _)) | simp only [Sem.run,hb]
theorem run_setObj' {P:Program} {w:World} {r:Nat} {o:Obj} (o':Obj) (hb:w.heap[r]?=some o) (ho:∀ c e f,o ≠ .cells c e f) :
 (setObj r o').run P w=.ok () { w with heap:=w.heap.setIfInBounds r o' }:=by
 unfold setObj;cases o <;> first | (exact absurd rfl (ho _ _ _)) | simp only [Sem.run,hb]
theorem run_getObjM {P:Program} {w:World} {r:Nat} {es:Array MapEntry} {c:Nat} (hb:w.heap[r]?=some (.map es c)):(getObj r).run P w=.ok (.map es c) w:=run_getObj' hb (by intros;simp)
theorem run_setObjM {P:Program} {w:World} {r:Nat} {es:Array MapEntry} {c:Nat} (o:Obj) (hb:w.heap[r]?=some (.map es c)) :
 (setObj r o).run P w=.ok () { w with heap:=w.heap.setIfInBounds r o }:=run_setObj' o hb (by intros;simp)
theorem mapKV_ok {E:Env} (g:Good E) {t kt et:Nat} (h:mapKV E.Γ t=some (kt,et)):E.P.underlying t=some (.map kt et):=by
 unfold mapKV at h;split at h
 ·rename_i k e hd;cases h;exact descT_ok g hd
 ·cases h
theorem map_inv {E:Env} {ρ:Names} {h:H} {w:World} (r:HR E ρ h w) {m:Nat} {n:Nm} {es:List (Value × Value)} (hn:ρ m=some n) (he:h.blks.get m=some (.map es)) :
 ∃ l c,w.heap[n.cb]?=some (.map l c)∧EntsR ρ es l.toList∧MapKept.Stamped l c:=r.blk m n _ hn he
theorem tuple_VR {ρ:Names} {v v':Value} (b:Bool) (h:VR ρ v v'):VR ρ (.tuple #[v,.bool b]) (.tuple #[v',.bool b]):=.tuple _ _ (.cons _ _ _ _ h (.cons _ _ _ _ (.bool b) .nil))
theorem aLookup_ok {E:Env} (g:Good E) {ρ:Names} {h:H} {w:World} (r:HR E ρ h w) {t:Nat} {x x' i i' v:Value} {ok:Bool} (hx:VR ρ x x') (hi:VR ρ i i') (e:aLookup E t x i ok h=some v) :
 ∃ v',(Instr.lookup t x' i' ok).run E.P w=.ok v' w∧VR ρ v v':=by
 unfold aLookup at e;split at e
 ·cases e
 ·rename_i kt et hkv;have hu:=mapKV_ok g hkv;split at e
  ·cases e
  ·rename_i hko;obtain ⟨hii,hchk,_⟩:=keyOk_ok (w:=w) g hi hko;subst hii;have hes:∀ es,mapEs h x=some es→∃ (l:Array MapEntry),EntsR ρ es l.toList∧((x'=.map none∧l=#[]) ∨ ∃ cb c,x'=.map (some cb)∧w.heap[cb]?=some (.map l c)):=by
    intro es hes;unfold mapEs at hes;split at hes
    ·cases hes;cases hx;exact ⟨#[],.nil,.inl ⟨rfl,rfl⟩⟩
    ·rename_i m;cases hx with
     | map _ n hn =>
      split at hes
      ·rename_i es2 hb;cases hes;obtain ⟨l,c,h1,h2,_⟩:=map_inv r hn hb;exact ⟨l,h2,.inr ⟨_,c,rfl,h1⟩⟩
      ·cases hes
    ·cases hes
   split at e
   ·cases e
   rename_i es hes0;obtain ⟨l,he2,he3⟩:=hes es hes0;have hfin:∀ (res:Option (Nat × Value)) (v0:Value) (b:Bool),(Instr.findKey kt i' l.toList).run E.P w=.ok res w →
    (match res with | some (_,v) => v0=v∧b=true | none => b=false∧(zeroValue et).run E.P w=.ok v0 w) →
    (Instr.lookup t x' i' ok).run E.P w=.ok (if ok then .tuple #[v0,.bool b] else v0) w:=by
    intro res v0 b g1 g2;unfold Instr.lookup;rw [Sem.run_bind,run_und hu];simp only [Result.andThen_ok];rcases he3 with ⟨rfl,rfl⟩ | ⟨cb,c,rfl,hh⟩
    ·cases res with
     | none => obtain ⟨rfl,g3⟩:=g2;simp only [pure_bind,Sem.run_bind,hchk,Result.andThen_ok,g1,g3];rfl
     | some p => obtain ⟨j,v⟩:=p;obtain ⟨rfl,rfl⟩:=g2;simp only [pure_bind,Sem.run_bind,hchk,Result.andThen_ok,g1];rfl
    ·cases res with
     | none => obtain ⟨rfl,g3⟩:=g2;simp only [Sem.run_bind,run_getObjM hh,Result.andThen_ok,pure_bind,hchk,g1,g3];rfl
     | some p => obtain ⟨j,v⟩:=p;obtain ⟨rfl,rfl⟩:=g2;simp only [Sem.run_bind,run_getObjM hh,Result.andThen_ok,pure_bind,hchk,g1];rfl
   split at e
   ·cases e
   ·rename_i v0 hf;cases e;rcases findM_idx hf with ⟨_,h2⟩ | ⟨j,a,v1,h1,h2,h3⟩
    ·cases h2
    ·cases h3;obtain ⟨res,g1,g2,g3⟩:=find_ok (w:=w) g hi hko he2 h1;obtain ⟨y,q1,q2,q3⟩:=g3 j rfl;obtain ⟨y',p1,p2⟩:=he2.get h2;rw [q1] at p1;cases p1;subst q2;have:=hfin _ y.val true g1 ⟨rfl,rfl⟩;cases ok with
     | true => exact ⟨_,this,tuple_VR true p2.2⟩
     | false => exact ⟨_,this,p2.2⟩
   ·rename_i hf;split at e
    ·rename_i z hz;cases e;obtain ⟨⟨ti,hti,htz⟩,hcz⟩:=zeroT_ok g hz;have hzz:=closed_VR ρ 20 z hcz;rcases findM_idx hf with ⟨h1,_⟩ | ⟨j,a,v1,_,_,h3⟩
     ·obtain ⟨res,g1,g2,g3⟩:=find_ok (w:=w) g hi hko he2 h1;have:=g2 rfl;subst this;have:=hfin _ z false g1 ⟨rfl,run_zero hti htz⟩;cases ok with
      | true => exact ⟨_,this,tuple_VR false hzz⟩
      | false => exact ⟨_,this,hzz⟩
     ·cases h3
    ·cases e
theorem ba_refl (a:ByteArray):(a == a)=true:=by rw [beq_toListBytes];simp
theorem sameBits_plain {ds:List TypeDesc}:∀ {xs ys:List Value} {r:Bool},eqKs ds xs ys=some r→∀ n x,x ∈ xs→Instr.sameBits n x x=true:=by
 induction ds with
 | nil => intro xs ys r h n x hx;cases xs with | nil => cases hx | cons a l => simp [eqKs] at h
 | cons d ds ih =>
  intro xs ys r h n x hx;cases xs with
  | nil => cases hx
  | cons a l =>
   cases ys with
   | nil => simp [eqKs] at h
   | cons b m =>
    simp only [eqKs] at h;split at h
    ·rename_i p q h1 h2;rcases List.mem_cons.1 hx with rfl | hx
     ·unfold eqK at h1;split at h1 <;> first | (cases h1;done) | (cases n <;> simp [Instr.sameBits,ba_refl])
     ·exact ih h2 n x hx
    ·cases h
theorem sameBits_key {E:Env} {t:Nat} {k:Value} (h:keyOk E t k=true):Instr.sameBits 10000 k k=true:=by
 unfold keyOk at h;split at h
 ·rw [show (10000:Nat)=9999 + 1 from rfl];simp [Instr.sameBits,ba_refl]
 ·rw [show (10000:Nat)=9999 + 1 from rfl];simp [Instr.sameBits,ba_refl]
 ·rw [show (10000:Nat)=9999 + 1 from rfl];simp [Instr.sameBits,ba_refl]
 ·rename_i p d hd;split at h
  ·rename_i r hr;unfold eqAgg at hr;split at hr
   ·split at hr
    ·split at hr
     ·rename_i ds hl;rw [show (10000:Nat)=9999 + 1 from rfl];unfold Instr.sameBits;simp only [beq_self_eq_true,Bool.true_and,List.all_eq_true];rintro ⟨a,b⟩ hab;have hab2:a=b∧a ∈ p.toList:=by
       have:∀ (l:List Value) a b,(a,b) ∈ l.zip l→a=b∧a ∈ l:=by
        intro l;induction l with
        | nil => intro a b h;simp at h
        | cons x l ih =>
         intro a b h;simp only [List.zip_cons_cons,List.mem_cons] at h;rcases h with h | h
         ·cases h;exact ⟨rfl,List.mem_cons_self ..⟩
         ·obtain ⟨h1,h2⟩:=ih a b h;exact ⟨h1,List.mem_cons_of_mem _ h2⟩
       exact this _ _ _ hab
      obtain ⟨rfl,hm⟩:=hab2;exact sameBits_plain hr 9999 a hm
     ·cases hr
    ·cases hr
   ·cases hr
  ·cases h
 ·cases h
theorem eqKs_self:∀ {ds:List TypeDesc} {xs:List Value} {r:Bool},eqKs ds xs xs=some r→r=true
 | [],[],r,h => by simp [eqKs] at h;exact h
 | [],_ :: _,r,h => by simp [eqKs] at h
 | _ :: _,[],r,h => by simp [eqKs] at h
 | d :: ds,x :: xs,r,h => by
  simp only [eqKs] at h;split at h
  ·rename_i a b h1 h2;cases h;rw [eqKs_self h2];have:a=true:=by
    unfold eqK at h1;cases x <;> cases d <;> simp only at h1 <;> first
     | (cases h1;done)
     | (rename_i b;cases b <;> (cases h1;rfl))
     | (cases h1;exact (beqU_iff _ _).2 rfl)
     | (split at h1 <;> cases h1;rw [eqI_eq];simp)
   rw [this];rfl
  ·cases h
theorem key_ne {E:Env} {t:Nat} {ρ:Names} {k a x:Value} (h:keyEq E t k a=some false) (hx:VR ρ a x):x ≠ k:=by
 rintro rfl;unfold keyEq at h;split at h
 ·rename_i j m k n;cases hx;split at h
  ·rw [eqI_eq] at h;simp at h
  ·cases h
 ·rename_i p q;cases hx;rw [beqU_eq] at h;simp at h
 ·rename_i p q;cases hx;cases p <;> cases h
 ·rename_i p q;cases hx with
  | agg _ _ hs hn =>
   unfold eqAgg at h;split at h
   ·split at h
    ·split at h
     ·rename_i ds hl;obtain ⟨r',k1⟩:=eqKs_symm h;have:=hs.plain k1;rw [this] at h;exact absurd (eqKs_self h) (by simp)
     ·cases h
    ·cases h
   ·cases h
 ·cases h
theorem keys_differ {E:Env} {t:Nat} {ρ:Names} {k:Value}:∀ {es:List (Value × Value)} {l:List MapEntry},EntsR ρ es l→idxM E t k es=some none→∀ x,x ∈ l→x.key ≠ k
 | _,_,.nil,_,x,hx => by cases hx
 | _,_,.cons e y es l h hs,hi,x,hx => by
  obtain ⟨a,v⟩:=e;simp only [idxM] at hi;split at hi
  ·cases hi
  ·rename_i hk;rcases List.mem_cons.1 hx with rfl | hx
   ·exact key_ne hk h.1
   ·refine keys_differ (E:=E) (t:=t) hs ?_ x hx;revert hi;cases idxM E t k es with
    | none => intro hi;simp at hi
    | some o => cases o <;> intro hi <;> simp_all
  ·cases hi
theorem aMapSet_ok {E:Env} (g:Good E) {ρ:Names} {h h':H} {w:World} (r:HR E ρ h w) {t:Nat} {m m' k k' v v':Value} (hm:VR ρ m m') (hk:VR ρ k k') (hv:VR ρ v v') (e:aMapSet E t m k v h=some h') :
 ∃ w',(Instr.mapUpdate t m' k' v').run E.P w=.ok () w'∧HR E ρ h' w'∧Ev ρ h w ρ h' w':=by
 unfold aMapSet at e;split at e
 ·rename_i kt et mr hkv;have hu:=mapKV_ok g hkv;split at e
  ·rename_i es hko hb;obtain ⟨hii,hchk,_⟩:=keyOk_ok (w:=w) g hk hko;subst hii;split at e
   ·rename_i es' hs;cases e;cases hm with
    | map _ n hn =>
     obtain ⟨l,c,h1,h2,hst⟩:=map_inv r hn hb;have hlt:=(Array.getElem?_eq_some_iff.1 h1).1;rcases setM_idx hs with ⟨i1,i2⟩ | ⟨j,a,w0,i1,i2,i3,i4⟩
     ·obtain ⟨res,g1,g2,_⟩:=find_ok (w:=w) g hk hko h2 i1;have:=g2 rfl;subst this;have hput:=r.putObj (y:=.map es') (.map (l.push { key:=k',val:=v',born:=c }) (c + 1)) hn hb rfl rfl
       ⟨l.push { key:=k',val:=v',born:=c },c + 1,by (show (w.heap.setIfInBounds n.cb _)[n.cb]?=_);simp [hlt],by rw [i2,Array.toList_push];exact h2.append (.cons _ _ _ _ ⟨hk,hv⟩ .nil),MapKept.stamped_push hst (keys_differ h2 i1)⟩
      refine ⟨_,?_,hput⟩;unfold Instr.mapUpdate;rw [Sem.run_bind,run_und hu];simp only [Result.andThen_ok,Sem.run_bind,run_getObjM h1,hchk,g1];exact run_setObjM _ h1
     ·obtain ⟨res,g1,_,g3⟩:=find_ok (w:=w) g hk hko h2 i1;obtain ⟨y,q1,q2,q3⟩:=g3 j rfl;subst q2;(have hj:l[j]?=some y:=by simpa using q1);have hmod:(l.modify j fun e => { e with key:=k',val:=v' }).toList=l.toList.set j { y with key:=k',val:=v' }:=by
       refine List.ext_getElem? fun i => ?_;rw [Array.getElem?_toList,Array.getElem?_modify,List.getElem?_set,Array.getElem?_toList];have hjl:=(Array.getElem?_eq_some_iff.1 hj).1;by_cases hij:j=i
       ·subst hij;rw [if_pos rfl,if_pos rfl,if_pos (by simpa using hjl),hj];rfl
       ·rw [if_neg hij,if_neg hij]
      have hput:=r.putObj (y:=.map es') (.map (l.modify j fun e => { e with key:=k',val:=v' }) c) hn hb rfl rfl
       ⟨l.modify j fun e => { e with key:=k',val:=v' },c,by (show (w.heap.setIfInBounds n.cb _)[n.cb]?=_);simp [hlt],by rw [i4,hmod];exact h2.set j _ _ ⟨hk,hv⟩,MapKept.stamped_modify hst j _ (fun _ _ => rfl) (fun e0 _ he0 => by rw [hj] at he0;cases he0;exact q3.symm)⟩
      refine ⟨_,?_,hput⟩;unfold Instr.mapUpdate;rw [Sem.run_bind,run_und hu];simp only [Result.andThen_ok,Sem.run_bind,run_getObjM h1,hchk,g1];(have hold:((l[j]?).map (·.key)).getD k'=k':=by rw [hj];exact q3);rw [hold];(have hstay:(Instr.keyThatStays k' k').run E.P w=.ok k' w:=by unfold Instr.keyThatStays;rw [if_pos (sameBits_key hko)];rfl);rw [hstay];simp only [Result.andThen_ok];exact run_setObjM _ h1
   ·cases e
  ·cases e
 ·cases e
end Go.Ab
