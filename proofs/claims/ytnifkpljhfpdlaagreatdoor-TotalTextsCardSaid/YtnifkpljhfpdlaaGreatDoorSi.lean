/- What is proved: a part of the soundness of the abstract machine (a run of it stands for the run of the model, whatever the tape). Conditions stand in each theorem. -/
import Derived.Test.YtnifkpljhfpdlaaGreatDoorSh
set_option linter.unusedVariables false
set_option linter.unusedSimpArgs false
namespace Go.Ab
theorem bytes_ext {x y:ByteArray} (h:x.data.toList=y.data.toList):x=y:=by cases x;cases y;simp only at h;congr 1;exact Array.toList_inj.1 h
theorem ren_ok {σ:Ren} {ρ ρ':Names} (hσ:∀ b b' m,σ b=some b'→ρ b=some m→ρ' b'=some m):∀ (n:Nat),(∀ v a x,ren σ n v=some a→VR ρ v x→VR ρ' a x∧notAgg a=notAgg v) ∧
 ∀ v a x,rens σ n v=some a→VRs ρ v x→VRs ρ' a x∧((∀ y,y ∈ v→notAgg y=true)→∀ y,y ∈ a→notAgg y=true):=by
 intro n;induction n with
 | zero => exact ⟨fun v a x h => by simp [ren] at h,fun v a x h => by simp [rens] at h⟩
 | succ n ih =>
  obtain ⟨i1,i2⟩:=ih;constructor
  ·intro v a x e h;cases h with
   | bool b => simp [ren] at e;subst e;exact ⟨.bool b,rfl⟩
   | int k n => simp [ren] at e;subst e;exact ⟨.int k n,rfl⟩
   | string s => simp [ren] at e;subst e;exact ⟨.string s,rfl⟩
   | ptrN => simp [ren] at e;subst e;exact ⟨.ptrN,rfl⟩
   | ptr b o m hb =>
    simp only [ren] at e;split at e
    ·rename_i b' hb';cases e;exact ⟨.ptr b' o m (hσ _ _ _ hb' hb),rfl⟩
    ·cases e
   | sliceN => simp [ren] at e;subst e;exact ⟨.sliceN,rfl⟩
   | slice b o l c c' a' m hb hc ha =>
    simp only [ren] at e;split at e
    ·rename_i b' hb';cases e;exact ⟨.slice b' o l c c' a' m (hσ _ _ _ hb' hb) hc ha,rfl⟩
    ·cases e
   | mapN => simp [ren] at e;subst e;exact ⟨.mapN,rfl⟩
   | map r m hb =>
    simp only [ren] at e;split at e
    ·rename_i b' hb';cases e;exact ⟨.map b' m (hσ _ _ _ hb' hb),rfl⟩
    ·cases e
   | nilFunc => simp [ren] at e;subst e;exact ⟨.nilFunc,rfl⟩
   | func f as bs as' bs' hf ha hb =>
    simp only [ren] at e;split at e
    ·rename_i p q hp hq;cases e;exact ⟨.func _ _ _ _ _ hf (i2 _ _ _ hp ha).1 (i2 _ _ _ hq hb).1,rfl⟩
    ·cases e
   | yield l m hb => simp [ren] at e
   | nilIface => simp [ren] at e;subst e;exact ⟨.nilIface,rfl⟩
   | iface t v v' hv =>
    simp only [ren] at e;split at e
    ·rename_i w hw;cases e;exact ⟨.iface t w v' (i1 _ _ _ hw hv).1,rfl⟩
    ·cases e
   | agg as as' hs hn =>
    simp only [ren] at e;split at e
    ·rename_i p hp;cases e;obtain ⟨k1,k2⟩:=i2 _ _ _ hp hs;exact ⟨.agg _ _ k1 (k2 hn),rfl⟩
    ·cases e
   | tuple as as' hs =>
    simp only [ren] at e;split at e
    ·rename_i p hp;cases e;exact ⟨.tuple _ _ (i2 _ _ _ hp hs).1,rfl⟩
    ·cases e
  ·intro v a x e h;cases h with
   | nil => simp [rens] at e;subst e;exact ⟨.nil,fun _ y hy => by cases hy⟩
   | cons v v' l l' hv hs =>
    simp only [rens] at e;split at e
    ·rename_i p q hp hq;cases e;obtain ⟨k1,k2⟩:=i1 _ _ _ hp hv;obtain ⟨k3,k4⟩:=i2 _ _ _ hq hs;refine ⟨.cons _ _ _ _ k1 k3,fun hn y hy => ?_⟩;rcases List.mem_cons.1 hy with rfl | hy
     ·rw [k2];exact hn _ (List.mem_cons_self ..)
     ·exact k4 (fun z hz => hn z (List.mem_cons_of_mem _ hz)) y hy
    ·cases e
theorem rens_len {σ:Ren}:∀ (n:Nat) (v a:List Value),rens σ n v=some a→a.length=v.length
 | 0,v,a,h => by simp [rens] at h
 | n + 1,[],a,h => by simp [rens] at h;subst h;rfl
 | n + 1,x :: l,a,h => by
  simp only [rens] at h;split at h
  ·rename_i p q hp hq;cases h;simp [rens_len n l q hq]
  ·cases h
theorem unren_ok {σ:Ren} {ρ ρc:Names} (hσ:∀ b b' m,σ b=some b'→ρ b'=some m→ρc b=some m):∀ (n:Nat),(∀ c a x,ren σ n c=some a→VR ρ a x→VR ρc c x∧notAgg c=notAgg a) ∧
 ∀ c a x,rens σ n c=some a→VRs ρ a x→VRs ρc c x∧((∀ y,y ∈ a→notAgg y=true)→∀ y,y ∈ c→notAgg y=true):=by
 intro n;induction n with
 | zero => exact ⟨fun v a x h => by simp [ren] at h,fun v a x h => by simp [rens] at h⟩
 | succ n ih =>
  obtain ⟨i1,i2⟩:=ih;constructor
  ·intro c a x e h;unfold ren at e;split at e
   ·split at e
    ·rename_i b' hb';cases e;cases h with
     | ptr _ _ m hb => exact ⟨.ptr _ _ m (hσ _ _ _ hb' hb),rfl⟩
    ·cases e
   ·split at e
    ·rename_i b' hb';cases e;cases h with
     | slice _ _ _ _ c' a' m hb hc ha => exact ⟨.slice _ _ _ _ c' a' m (hσ _ _ _ hb' hb) hc ha,rfl⟩
    ·cases e
   ·split at e
    ·rename_i b' hb';cases e;cases h with
     | map _ m hb => exact ⟨.map _ m (hσ _ _ _ hb' hb),rfl⟩
    ·cases e
   ·split at e
    ·cases e
    ·rename_i hny;split at e
     ·rename_i p q hp hq;cases e;cases h with
      | func _ _ _ as' bs' hf ha hb => exact ⟨.func _ _ _ _ _ hf (i2 _ _ _ hp ha).1 (i2 _ _ _ hq hb).1,rfl⟩
      | yield l m hb => exact absurd rfl (hny l)
     ·cases e
   ·split at e
    ·rename_i w hw;cases e;cases h with
     | iface _ _ v' hv => exact ⟨.iface _ _ v' (i1 _ _ _ hw hv).1,rfl⟩
    ·cases e
   ·split at e
    ·rename_i p hp;cases e;cases h with
     | agg _ as' hs hn => obtain ⟨k1,k2⟩:=i2 _ _ _ hp hs;exact ⟨.agg _ _ k1 (k2 hn),rfl⟩
    ·cases e
   ·split at e
    ·rename_i p hp;cases e;cases h with
     | tuple _ as' hs => exact ⟨.tuple _ _ (i2 _ _ _ hp hs).1,rfl⟩
    ·cases e
   all_goals first | (cases e;done) | (cases e;cases h;exact ⟨by constructor,rfl⟩)
  ·intro c a x e h;cases c with
   | nil => simp [rens] at e;subst e;cases h;exact ⟨.nil,fun _ y hy => by cases hy⟩
   | cons c l =>
    simp only [rens] at e;split at e
    ·rename_i p q hp hq;cases e;cases h with
     | cons _ v' _ l' hv hs =>
      obtain ⟨k1,k2⟩:=i1 _ _ _ hp hv;obtain ⟨k3,k4⟩:=i2 _ _ _ hq hs;refine ⟨.cons _ _ _ _ k1 k3,fun hn y hy => ?_⟩;rcases List.mem_cons.1 hy with rfl | hy
      ·rw [k2];exact hn _ (List.mem_cons_self ..)
      ·exact k4 (fun z hz => hn z (List.mem_cons_of_mem _ hz)) y hy
    ·cases e
end Go.Ab
namespace Go.Ab
structure MO (s s':MS):Prop where
 ext:∀ b x,s.σ.get b=some x→s'.σ.get b=some x
 new:∀ b x,s'.σ.get b=some x→s.σ.get b=some x ∨ (b,x) ∈ s'.todo
 sub:∀ p,p ∈ s.todo→p ∈ s'.todo
theorem MO.refl (s:MS):MO s s:=⟨fun _ _ h => h,fun _ _ h => .inl h,fun _ h => h⟩
theorem MO.trans {a b c:MS} (h:MO a b) (k:MO b c):MO a c :=
 ⟨fun x y e => k.ext x y (h.ext x y e),fun x y e => by
  rcases k.new x y e with e | e
  ·rcases h.new x y e with e | e
   ·exact .inl e
   ·exact .inr (k.sub _ e)
  ·exact .inr e,fun p e => k.sub p (h.sub p e)⟩
theorem bind_ok {s s':MS} {b b':Nat} (e:s.bind b b'=some s'):MO s s'∧s'.σ.get b=some b':=by
 unfold MS.bind at e;split at e
 ·rename_i x hx;split at e
  ·rename_i hb;cases e;have:=Nat.eq_of_beq_eq_true hb;subst this;exact ⟨MO.refl _,hx⟩
  ·cases e
 ·rename_i hx;cases e;refine ⟨⟨fun c x hc => ?_,fun c x hc => ?_,fun p hp => List.mem_cons_of_mem _ hp⟩,T.get_put_same _ _ _⟩
  ·show (s.σ.put b (some b')).get c=some x;rw [T.get_put,if_neg (by rintro rfl;rw [hx] at hc;cases hc)];exact hc
  ·have hc2:(s.σ.put b (some b')).get c=some x:=hc;rw [T.get_put] at hc2;by_cases hcb:c=b
   ·rw [if_pos hcb] at hc2;cases hc2;rw [hcb];exact .inr (List.mem_cons_self ..)
   ·rw [if_neg hcb] at hc2;exact .inl hc2
theorem sameKind_eq {j k:IntKind} (h:sameKind j k=true):j=k:=by cases j <;> cases k <;> first | rfl | cases h
theorem match_ok:∀ (n:Nat),(∀ c a s s',mV n c a s=some s'→MO s s'∧∀ σ:Ren,(∀ b x,s'.σ.get b=some x→σ b=some x)→ren σ n c=some a) ∧
 ∀ c a s s',mVs n c a s=some s'→MO s s'∧∀ σ:Ren,(∀ b x,s'.σ.get b=some x→σ b=some x)→rens σ n c=some a:=by
 intro n;induction n with
 | zero => exact ⟨fun c a s s' h => by simp [mV] at h,fun c a s s' h => by simp [mVs] at h⟩
 | succ n ih =>
  obtain ⟨i1,i2⟩:=ih;constructor
  ·intro c a s s' e;unfold mV at e;split at e
   ·split at e
    ·split at e
     ·rename_i h1;split at e
      ·rename_i h2;cases e;have:=sameKind_eq h2;rw [eqI_eq,beq_iff_eq] at h1;subst_vars;exact ⟨MO.refl _,fun σ _ => rfl⟩
      ·cases e
     ·cases e
    ·cases e
   ·split at e
    ·split at e <;> first | (cases e;exact ⟨MO.refl _,fun σ _ => rfl⟩) | cases e
    ·cases e
   ·split at e
    ·split at e
     ·rename_i h1;cases e;have:=bytes_ext ((beqU_iff _ _).1 h1);subst this;exact ⟨MO.refl _,fun σ _ => rfl⟩
     ·cases e
    ·cases e
   ·split at e
    ·cases e;exact ⟨MO.refl _,fun σ _ => rfl⟩
    ·cases e
   ·split at e
    ·split at e
     ·rename_i h1;have:=Nat.eq_of_beq_eq_true h1;subst this;obtain ⟨k1,k2⟩:=bind_ok e;exact ⟨k1,fun σ hσ => by simp only [ren,hσ _ _ k2]⟩
     ·cases e
    ·cases e
   ·split at e
    ·split at e
     ·rename_i h1 h2;cases e;have:=Nat.eq_of_beq_eq_true h1;have:=Nat.eq_of_beq_eq_true h2;subst_vars;exact ⟨MO.refl _,fun σ _ => rfl⟩
     ·cases e
    ·cases e
   ·split at e
    ·split at e
     ·rename_i h1;split at e
      ·rename_i h2 h3;have:=Nat.eq_of_beq_eq_true h1;have:=Nat.eq_of_beq_eq_true h2;have:=Nat.eq_of_beq_eq_true h3;subst_vars;obtain ⟨k1,k2⟩:=bind_ok e;exact ⟨k1,fun σ hσ => by simp only [ren,hσ _ _ k2]⟩
      ·cases e
     ·cases e
    ·cases e
   ·split at e
    ·cases e;exact ⟨MO.refl _,fun σ _ => rfl⟩
    ·cases e
   ·split at e
    ·obtain ⟨k1,k2⟩:=bind_ok e;exact ⟨k1,fun σ hσ => by simp only [ren,hσ _ _ k2]⟩
    ·cases e
   ·split at e
    ·cases e;exact ⟨MO.refl _,fun σ _ => rfl⟩
    ·cases e
   ·split at e
    ·cases e;exact ⟨MO.refl _,fun σ _ => rfl⟩
    ·cases e
   ·split at e
    ·split at e
     ·rename_i h1;split at e
      ·rename_i s1 hs1;have:=Nat.eq_of_beq_eq_true h1;subst this;obtain ⟨k1,k2⟩:=i2 _ _ _ _ hs1;obtain ⟨k3,k4⟩:=i2 _ _ _ _ e;exact ⟨k1.trans k3,fun σ hσ => by simp only [ren,k2 σ fun b x h => hσ b x (k3.ext b x h),k4 σ hσ]⟩
      ·cases e
     ·cases e
    ·cases e
   ·split at e
    ·split at e
     ·rename_i h1;have:=Nat.eq_of_beq_eq_true h1;subst this;obtain ⟨k1,k2⟩:=i1 _ _ _ _ e;exact ⟨k1,fun σ hσ => by simp only [ren,k2 σ hσ]⟩
     ·cases e
    ·cases e
   ·split at e
    ·obtain ⟨k1,k2⟩:=i2 _ _ _ _ e;exact ⟨k1,fun σ hσ => by simp only [ren,k2 σ hσ]⟩
    ·cases e
   ·split at e
    ·obtain ⟨k1,k2⟩:=i2 _ _ _ _ e;exact ⟨k1,fun σ hσ => by simp only [ren,k2 σ hσ]⟩
    ·cases e
   ·cases e
  ·intro c a s s' e;unfold mVs at e;split at e
   ·split at e
    ·cases e;exact ⟨MO.refl _,fun σ _ => rfl⟩
    ·cases e
   ·split at e
    ·split at e
     ·rename_i s1 hs1;obtain ⟨k1,k2⟩:=i1 _ _ _ _ hs1;obtain ⟨k3,k4⟩:=i2 _ _ _ _ e;exact ⟨k1.trans k3,fun σ hσ => by simp only [rens,k2 σ fun b x h => hσ b x (k3.ext b x h),k4 σ hσ]⟩
     ·cases e
    ·cases e
def Done (m:Memo) (h:H) (σ:T Nat) (b b':Nat):Prop :=
 ∃ c cs an es rw,m.g ≤ b∧m.cbs[b - m.g]?=some c∧h.blks.get b'=some (.cells cs an es rw)∧c.es=es∧rens σ.get 400 c.cs=some cs
theorem mBlks_ok (m : Memo) (h:H):∀ (n:Nat) (s:MS) (σ:T Nat),mBlks m.g m.cbs h n s=some σ→(∀ b x,s.σ.get b=some x→σ.get b=some x) ∧
 ∀ b b',σ.get b=some b'→(s.σ.get b=some b'∧(b,b') ∉ s.todo) ∨ Done m h σ b b':=by
 intro n;induction n with
 | zero => intro s σ e;simp [mBlks] at e
 | succ n ih =>
  intro s σ e;unfold mBlks at e;split at e
  ·rename_i ht;cases e;exact ⟨fun b x h => h,fun b b' hb => .inl ⟨hb,by rw [ht];exact fun h => by cases h⟩⟩
  ·rename_i b b' r ht;split at e
   ·cases e
   ·rename_i hg;split at e
    ·rename_i c hc;split at e
     ·rename_i cs an es rw hb';split at e
      ·rename_i hes;split at e
       ·rename_i s1 hs1;obtain ⟨k1,k2⟩:=(match_ok 400).2 _ _ _ _ hs1;obtain ⟨k3,k4⟩:=ih s1 σ e;refine ⟨fun b x hb => k3 b x (k1.ext b x hb),fun x x' hx => ?_⟩;rcases k4 x x' hx with ⟨q1,q2⟩ | q
        ·rcases k1.new x x' q1 with q3 | q3
         ·by_cases heq:(x,x')=(b,b')
          ·cases heq;refine .inr ⟨c,cs,an,es,rw,ble_iff.1 hg,by rw [← nth_eq];exact hc,hb',Nat.eq_of_beq_eq_true hes,k2 _ fun b x hb => k3 b x hb⟩
          ·refine .inl ⟨q3,fun hmem => ?_⟩;rw [ht] at hmem;rcases List.mem_cons.1 hmem with h1 | h1
           ·exact heq h1
           ·exact q2 (k1.sub _ h1)
         ·exact absurd q3 q2
        ·exact .inr q
       ·cases e
      ·cases e
     ·cases e
    ·cases e
theorem try_ok {m:Memo} {args:List Value} {h h':H} {v:Value} (e:m.try_ args h=some (v,h')):∃ σ:T Nat,rens σ.get 400 m.args=some args∧(∀ b b',σ.get b=some b'→Done m h σ b b') ∧
 ren (sig σ m.base h.next m.ids) 400 m.res=some v∧renBs (sig σ m.base h.next m.ids) m.news h=some h':=by
 unfold Memo.try_ at e;split at e
 ·cases e
 ·rename_i s hs;split at e
  ·cases e
  ·rename_i σ hσ;split at e
   ·cases e
   ·rename_i v1 hv;split at e
    ·cases e
    ·rename_i h1 hh;cases e;obtain ⟨k1,k2⟩:=(match_ok 400).2 _ _ _ _ hs;obtain ⟨k3,k4⟩:=mBlks_ok m h _ _ _ hσ;refine ⟨σ,k2 _ fun b x hb => k3 b x hb,fun b b' hb => ?_,hv,hh⟩;rcases k4 b b' hb with ⟨q1,q2⟩ | q
     ·rcases k1.new b b' q1 with q3 | q3
      ·simp [T.get] at q3
      ·exact absurd q3 q2
     ·exact q
end Go.Ab
namespace Go.Ab
theorem cellsR_list {ρ:Names} {w:World} {n:Nm}:∀ {cs:List Value} {o:Nat},(∀ (i:Nat) (v:Value),cs[i]?=some v→notAgg v=true∧∃ v',cell w n.cb (o + i)=some v'∧VR ρ v v') →
 ∃ xs,VRs ρ cs xs∧(∀ (i:Nat) (x:Value),xs[i]?=some x→cell w n.cb (o + i)=some x)∧∀ v,v ∈ cs→notAgg v=true
 | [],_,_ => ⟨[],.nil,fun i x h => by simp at h,fun v h => by cases h⟩
 | c :: cs,o,h => by
  obtain ⟨a,v',h1,h2⟩:=h 0 c rfl;obtain ⟨xs,k1,k2,k3⟩:=cellsR_list (cs:=cs) (o:=o + 1) fun i v hv => by have:=h (i + 1) v (by simpa using hv);rw [show o + 1 + i=o + (i + 1) from by omega];exact this
  refine ⟨v' :: xs,.cons _ _ _ _ h2 k1,fun i x hx => ?_,fun v hv => ?_⟩
  ·cases i with
   | zero => simp at hx;subst hx;exact h1
   | succ i => have:=k2 i x (by simpa using hx);rw [show o + (i + 1)=o + 1 + i from by omega];exact this
  ·rcases List.mem_cons.1 hv with rfl | hv
   ·exact a
   ·exact k3 v hv
theorem cellsR_of {ρ:Names} {w:World} {n:Nm} {cs xs:List Value} (h:VRs ρ cs xs) (hx:∀ (i:Nat) (x:Value),xs[i]?=some x→cell w n.cb (n.co + i)=some x) (hn:∀ v,v ∈ cs→notAgg v=true):CellsR ρ w n cs:=by intro i v hv;obtain ⟨v',h1,h2⟩:=h.get hv;exact ⟨hn v (List.mem_of_getElem? hv),v',hx i v' h1,h2⟩
theorem rowsT_get:∀ (l:List CB) (i:Nat) (t:T Blk) (b:Nat),(rowsT i l t).get b=if i ≤ b then match l[b - i]? with | some c => some (.cells c.cs [] c.es false) | none => t.get b else t.get b
 | [],i,t,b => by simp [rowsT]
 | c :: l,i,t,b => by
  simp only [rowsT];rw [rowsT_get l (Nat.succ i),T.get_put];by_cases h:i ≤ b
  ·rw [if_pos h];by_cases h2:b=i
   ·subst h2;rw [if_neg (by omega),if_pos rfl];simp
   ·rw [if_pos (by omega),if_neg h2];rw [show b - i=(b - Nat.succ i) + 1 from by omega];simp
  ·rw [if_neg h,if_neg (by omega),if_neg (by omega)]
theorem idx_ok {b:Nat}:∀ {l:List Nat} {n x:Nat},idx b l n=some x→∃ k,l[k]?=some b∧x=n + k
 | [],_,_,h => by simp [idx] at h
 | y :: l,n,x,h => by
  simp only [idx] at h;split at h
  ·rename_i hb;cases h;exact ⟨0,by simp [Nat.eq_of_beq_eq_true hb],rfl⟩
  ·obtain ⟨k,h1,h2⟩:=idx_ok h;exact ⟨k + 1,by simpa using h1,by omega⟩
theorem getAll_ok {t:T Blk}:∀ {ids:List Nat} {news:List Blk},getAll t ids=someAll news→ids.length=news.length∧∀ (k b:Nat) (x:Blk),ids[k]?=some b→news[k]?=some x→t.get b=some x
 | [],[],_ => ⟨rfl,fun k b x h => by simp at h⟩
 | [],_ :: _,h => by simp [getAll,someAll] at h
 | _ :: _,[],h => by simp [getAll,someAll] at h
 | a :: ids,y :: news,h => by
  simp only [getAll,someAll,List.cons.injEq] at h;obtain ⟨k1,k2⟩:=getAll_ok h.2;refine ⟨by simp [k1],fun k b x h1 h2 => ?_⟩;cases k with
  | zero => simp at h1 h2;subst h1;subst h2;exact h.1
  | succ k => exact k2 k b x (by simpa using h1) (by simpa using h2)
theorem renBs_ok {σ:Ren}:∀ {l:List Blk} {h h':H},renBs σ l h=some h'→h'.next=h.next + l.length∧h'.base=h.base∧h'.wr=h.wr∧(∀ b,b < h.next ∨ h'.next ≤ b→h'.blks.get b=h.blks.get b) ∧
 ∀ (k:Nat) x,l[k]?=some x→∃ cs an es rw cs',x=.cells cs an es rw∧rens σ 400 cs=some cs'∧h'.blks.get (h.next + k)=some (.cells cs' [] es rw)
 | [],h,h',e => by cases e;exact ⟨rfl,rfl,rfl,fun _ _ => rfl,fun k x hx => by simp at hx⟩
 | .cells cs an es rw :: l,h,h',e => by
  simp only [renBs] at e;split at e
  ·rename_i cs' hcs;obtain ⟨k1,k2,k3,k4,k5⟩:=renBs_ok e;(have hn:(h.alloc (.cells cs' [] es rw)).next=h.next + 1:=rfl);rw [hn] at k1 k4 k5;(have hget:∀ b,(h.alloc (.cells cs' [] es rw)).blks.get b=if b=h.next then some (.cells cs' [] es rw) else h.blks.get b:=fun b => by simp [H.alloc,T.get_put]);refine ⟨by rw [k1];simp;omega,k2,k3,fun b hb => ?_,fun k x hx => ?_⟩
   ·rw [k4 b (by omega),hget,if_neg (by omega)]
   ·cases k with
    | zero => simp at hx;subst hx;exact ⟨cs,an,es,rw,cs',rfl,hcs,by rw [Nat.add_zero,k4 _ (.inl (by omega)),hget,if_pos rfl]⟩
    | succ k => obtain ⟨c1,a1,e1,r1,c2,q1,q2,q3⟩:=k5 k x (by simpa using hx);exact ⟨c1,a1,e1,r1,c2,q1,q2,by rw [show h.next + (k + 1)=h.next + 1 + k from by omega];exact q3⟩
  ·cases e
 | .map _ :: _,_,_,e => by simp [renBs] at e
 | .iter _ _ :: _,_,_,e => by simp [renBs] at e
 | .loop _ :: _,_,_,e => by simp [renBs] at e
 | .defs _ :: _,_,_,e => by simp [renBs] at e
theorem newsOk_ok {ids:List Nat}:∀ {l:List Blk},newsOk ids l=true→∀ cs an es rw,.cells cs an es rw ∈ l→∀ a,a ∈ an→a ∉ ids
 | [],_,_,_,_,_,h => by cases h
 | .cells cs0 an0 es0 rw0 :: l,h,cs,an,es,rw,hm => by
  have no:∀ {an:List Nat},noneOf ids an=true→∀ a,a ∈ an→a ∉ ids:=by
   intro an;induction an with
   | nil => intro _ a ha;cases ha
   | cons x an ih =>
    intro hh a ha hid;simp only [noneOf] at hh;split at hh
    ·cases hh
    ·rename_i hx;rcases List.mem_cons.1 ha with rfl | ha
     ·rw [(memN_iff _ _).2 hid] at hx;cases hx
     ·exact ih hh a ha hid
  simp only [newsOk] at h;split at h
  ·rename_i hx;rcases List.mem_cons.1 hm with hm | hm
   ·cases hm;exact no hx
   ·exact newsOk_ok h cs an es rw hm
  ·cases h
 | .map _ :: _,h,_,_,_,_,_ => by simp [newsOk] at h
 | .iter _ _ :: _,h,_,_,_,_,_ => by simp [newsOk] at h
 | .loop _ :: _,h,_,_,_,_,_ => by simp [newsOk] at h
 | .defs _ :: _,h,_,_,_,_,_ => by simp [newsOk] at h
theorem lowIds_ok {base:Nat}:∀ {l:List Nat},lowIds base l=true→∀ a,a ∈ l→base ≤ a
 | [],_,_,h => by cases h
 | x :: l,h,a,ha => by
  simp only [lowIds] at h;split at h
  ·rename_i hx;rcases List.mem_cons.1 ha with rfl | ha
   ·exact ble_iff.1 hx
   ·exact lowIds_ok h a ha
  ·cases h
theorem noDup_ok:∀ {l:List Nat},noDup l=true→∀ {i j a:Nat},l[i]?=some a→l[j]?=some a→i=j
 | [],_,i,j,a,h,_ => by simp at h
 | x :: l,h,i,j,a,h1,h2 => by
  simp only [noDup] at h;split at h
  ·cases h
  ·rename_i hx;(have hx:x ∉ l:=fun hm => by rw [(memN_iff _ _).2 hm] at hx;cases hx);cases i with
   | zero =>
    cases j with
    | zero => rfl
    | succ j => simp at h1 h2;subst h1;exact absurd (List.mem_of_getElem? h2) hx
   | succ i =>
    cases j with
    | zero => simp at h1 h2;subst h2;exact absurd (List.mem_of_getElem? h1) hx
    | succ j => rw [noDup_ok h (show l[i]?=some a by simpa using h1) (show l[j]?=some a by simpa using h2)]
structure MemoOk (E:Env) (m:Memo):Prop where
 fine:m.fine E=true
 ran:∃ n d,m.run E n d=some (m.res,someAll m.news,[])
theorem memo_ok {E E1:Env} (hP:E1.P=E.P) (g:GoodC E) (hst:StubOk E) {m:Memo} (ok:MemoOk E m) {args:List Value} {h h':H} {v:Value} (e:m.try_ args h=some (v,h')) {ρ:Names} {w:World} {args':List Value}
 (r:HR E1 ρ h w) (hg:GlobR E1 ρ) (ha:VRs ρ args args') :
 (callFunc m.f args'.toArray).run E1.P w=.ok (.enter m.f args'.toArray) w∧Calls E1.P m.f args'.toArray w (CallPost E1 ρ h w v h'):=by
 obtain ⟨σ,m1,m2,m3,m4⟩:=try_ok e;obtain ⟨hf,n,d,hrun⟩:=ok;simp only [Memo.fine,Bool.and_eq_true,Option.isNone_iff_eq_none] at hf;obtain ⟨⟨⟨⟨f1,f2⟩,f3⟩,f4⟩,f5⟩:=hf;have f3:=Nat.eq_of_beq_eq_true f3;have hbase:m.base=m.g + m.cbs.length:=rfl;have hdone:∀ b b',σ.get b=some b'→m.g ≤ b∧b < m.base∧b' < h.next:=by intro b b' hb;obtain ⟨c,cs,an,es,rw,q1,q2,q3,_⟩:=m2 b b' hb;have:=(List.getElem?_eq_some_iff.1 q2).1;exact ⟨q1,by omega,r.live b' _ q3⟩
 let ρc:Names:=fun b => if b < m.g then ρ b else if b < m.base then (σ.get b).bind ρ else none;have hσc:∀ b b' x,σ.get b=some b'→ρ b'=some x→ρc b=some x:=by intro b b' x hb hx;obtain ⟨q1,q2,_⟩:=hdone b b' hb;show (if b < m.g then ρ b else if b < m.base then (σ.get b).bind ρ else none)=some x;rw [if_neg (by omega),if_pos q2,hb];exact hx
 have hc_inv:∀ b n,ρc b=some n→(b < m.g∧ρ b=some n) ∨ (m.g ≤ b∧b < m.base∧∃ b',σ.get b=some b'∧ρ b'=some n):=by
  intro b n hb;have hb:(if b < m.g then ρ b else if b < m.base then (σ.get b).bind ρ else none)=some n:=hb;split at hb
  ·exact .inl ⟨by assumption,hb⟩
  ·split at hb
   ·cases hx:σ.get b with
    | none => rw [hx] at hb;cases hb
    | some b' => rw [hx] at hb;exact .inr ⟨by omega,by assumption,b',rfl,hb⟩
   ·cases hb
 have hargs:=((unren_ok hσc 400).2 _ _ _ m1 ha).1;have hheap:∀ b x,m.heap.blks.get b=some x→m.g ≤ b∧∃ c,m.cbs[b - m.g]?=some c∧x=.cells c.cs [] c.es false:=by
  intro b x hx;have hx:(rowsT m.g m.cbs .leaf).get b=some x:=hx;rw [rowsT_get] at hx;split at hx
  ·rename_i hle;split at hx
   ·rename_i c hc;cases hx;exact ⟨hle,c,hc,rfl⟩
   ·cases hx
  ·cases hx
 have rc:HR E ρc m.heap w:=by
  refine ⟨fun b x hx => ?_,fun b cs an es rw hx a hm => ?_,fun b n hb => ?_,fun b n x hb hx => ?_,fun b c p q x y hne hb hc hx hy => ?_,Nat.le_refl _,fun b hb => by cases hb⟩
  ·obtain ⟨q1,c,q2,_⟩:=hheap b x hx;have:=(List.getElem?_eq_some_iff.1 q2).1;show b < m.base;omega
  ·obtain ⟨q1,c,q2,q3⟩:=hheap b _ hx;cases q3;cases hm
  ·rcases hc_inv b n hb with ⟨q1,q2⟩ | ⟨q1,q2,b',q3,q4⟩
   ·exact ⟨by show b < m.base;omega,(r.dom b n q2).2⟩
   ·exact ⟨q2,(r.dom b' n q4).2⟩
  ·obtain ⟨q1,c,q2,rfl⟩:=hheap b x hx;rcases hc_inv b n hb with ⟨q3,_⟩ | ⟨_,_,b',q3,q4⟩
   ·omega
   ·obtain ⟨c',cs,an,es,rw,z1,z2,z3,z4,z5⟩:=m2 b b' q3;rw [q2] at z2;cases z2;obtain ⟨k1,k2,k3⟩:=r.blk b' n _ q4 z3;obtain ⟨xs,y1,y2,y3⟩:=cellsR_list (o:=n.co) k1;obtain ⟨u1,u2⟩:=(unren_ok hσc 400).2 _ _ _ z5 y1;exact ⟨cellsR_of u1 y2 (u2 y3),by rw [z4];exact k2,fun hh => by cases hh⟩
  ·obtain ⟨_,c1,_,rfl⟩:=hheap b x hx;obtain ⟨_,c2,_,rfl⟩:=hheap c y hy;exact trivial
 have gc:GlobR E ρc:=by intro b hb;obtain ⟨n,h1,h2,h3⟩:=hg b (by rw [hP];exact hb);refine ⟨n,?_,h2,h3⟩;show (if b < m.g then ρ b else if b < m.base then (σ.get b).bind ρ else none)=some n;rw [if_pos (by omega)];exact h1
 unfold Memo.run at hrun;split at hrun
 ·rename_i v0 u0 hc' hcall;simp only [Option.some.injEq,Prod.mk.injEq] at hrun;obtain ⟨rfl,hids,hwr⟩:=hrun;obtain ⟨hlen,hnews⟩:=getAll_ok hids;obtain ⟨c1,c2⟩:=call_ok g hst f4 hcall rc gc hargs;rw [hP];refine ⟨c1,c2.mono ?_⟩;rintro en w' ⟨ρ1,v',rfl,R1,E1',V1⟩;obtain ⟨n1,n2,n3,n4,n5⟩:=renBs_ok m4;let ρ':Names:=fun b => if b < h.next then ρ b else (m.ids[b - h.next]?).bind ρ1;have hρ_old:∀ b,b < h.next→ρ' b=ρ b:=fun b hb => by show (if b < h.next then _ else _)=_;rw [if_pos hb]
  have hρ_new:∀ (k id:Nat),m.ids[k]?=some id→ρ' (h.next + k)=ρ1 id:=fun k id hk => by show (if h.next + k < h.next then _ else (m.ids[h.next + k - h.next]?).bind ρ1)=_;rw [if_neg (by omega),show h.next + k - h.next=k from by omega,hk];rfl
  have hρ_inv:∀ b n,ρ' b=some n→(b < h.next∧ρ b=some n) ∨ ∃ (k id:Nat),b=h.next + k∧m.ids[k]?=some id∧ρ1 id=some n:=by
   intro b n hb;by_cases hlt:b < h.next
   ·rw [hρ_old b hlt] at hb;exact .inl ⟨hlt,hb⟩
   ·have hb:(if b < h.next then ρ b else (m.ids[b - h.next]?).bind ρ1)=some n:=hb;rw [if_neg hlt] at hb;cases hk:m.ids[b - h.next]? with
    | none => rw [hk] at hb;cases hb
    | some id => rw [hk] at hb;exact .inr ⟨b - h.next,id,by omega,hk,hb⟩
  have hle:ρ.le ρ':=fun b n hb => by rw [hρ_old b (r.dom b n hb).1];exact hb
  have hσ':∀ b b' x,sig σ m.base h.next m.ids b=some b'→ρ1 b=some x→ρ' b'=some x:=by
   intro b b' x hb hx;unfold sig at hb;split at hb
   ·obtain ⟨k,k1,rfl⟩:=idx_ok hb;rw [hρ_new k b k1];exact hx
   ·rename_i hlt;obtain ⟨q1,q2,q3⟩:=hdone b b' hb;rw [hρ_old b' q3];cases hy:ρ b' with
    | none => (have hcn:ρc b=none:=by show (if b < m.g then ρ b else if b < m.base then (σ.get b).bind ρ else none)=none;rw [if_neg (by omega),if_pos q2,hb];exact hy);have:=E1'.fresh b x hx hcn;have:m.base ≤ b:=this;omega
    | some y => have:=E1'.le b y (hσc b b' y hb hy);rw [hx] at this;exact this.symm
  obtain ⟨s1,s2⟩:=E1'.same (fun b => b < w.heap.size) (fun b n hb hor => by
   rcases hor with hor | hor
   ·have:=(rc.dom b n hb).1;have hor:m.base ≤ b:=hor;have this:b < m.base:=this;omega
   ·rw [hwr] at hor;cases hor) (fun b hb => hb)
  have hlow:=lowIds_ok f2;have hfreshcb:∀ (k id:Nat) (n:Nm),m.ids[k]?=some id→ρ1 id=some n→w.heap.size ≤ n.cb:=by intro k id n hk hn;have:=s1 id n hn (.inl (hlow id (List.mem_of_getElem? hk)));omega
  have hblk:∀ (k id:Nat),m.ids[k]?=some id→∃ cs an es rw cs',m.news[k]?=some (.cells cs an es rw)∧hc'.blks.get id=some (.cells cs an es rw)∧rens (sig σ m.base h.next m.ids) 400 cs=some cs'∧h'.blks.get (h.next + k)=some (.cells cs' [] es rw):=by intro k id hk;have hlt:=(List.getElem?_eq_some_iff.1 hk).1;(have hx:m.news[k]?=some m.news[k]:=by simp [show k < m.news.length by omega]);obtain ⟨cs,an,es,rw,cs',q1,q2,q3⟩:=n5 k _ hx;rw [q1] at hx;exact ⟨cs,an,es,rw,cs',hx,hnews k id _ hk hx,q2,q3⟩
  refine ⟨ρ',v',rfl,?_,?_,((ren_ok hσ' 400).1 _ _ _ m3 V1).1⟩
  ·refine ⟨fun b x hx => ?_,fun b cs an es rw hx a hm => ?_,fun b n hb => ?_,fun b n x hb hx => ?_,fun b c p q x y hne hb hc hx hy => ?_,by rw [n2,n1];have:=r.base;omega,fun b hb => by rw [n3] at hb;rw [n2];exact r.wr b hb⟩
   ·by_cases h1:b < h'.next
    ·exact h1
    ·rw [n4 b (.inr (by omega))] at hx;have:=r.live b x hx;omega
   ·by_cases h1:b < h.next
    ·rw [n4 b (.inl h1)] at hx;exact r.anc b cs an es rw hx a hm
    ·by_cases h2:b < h'.next
     ·(have hk:m.ids[b - h.next]?=some m.ids[b - h.next]:=by simp [show b - h.next < m.ids.length by omega]);obtain ⟨_,_,_,_,cs',_,_,_,q⟩:=hblk _ _ hk;rw [show h.next + (b - h.next)=b from by omega,hx] at q;cases q;cases hm
     ·rw [n4 b (.inr (by omega))] at hx;exact r.anc b cs an es rw hx a hm
   ·rcases hρ_inv b n hb with ⟨q1,q2⟩ | ⟨k,id,rfl,q1,q2⟩
    ·have:=r.dom b n q2;exact ⟨by omega,Nat.lt_of_lt_of_le this.2 E1'.size⟩
    ·have:=(List.getElem?_eq_some_iff.1 q1).1;exact ⟨by omega,(R1.dom id n q2).2⟩
   ·rcases hρ_inv b n hb with ⟨q1,q2⟩ | ⟨k,id,rfl,q1,q2⟩
    ·rw [n4 b (.inl q1)] at hx;exact (r.blk b n x q2 hx).same hle (s2 _ (r.dom b n q2).2)
    ·obtain ⟨cs,an,es,rw,cs',z1,z2,z3,z4⟩:=hblk k id q1;rw [z4] at hx;cases hx;obtain ⟨k1,k2,k3⟩:=R1.blk id n _ q2 z2;obtain ⟨xs,y1,y2,y3⟩:=cellsR_list (o:=n.co) k1;obtain ⟨u1,u2⟩:=(ren_ok hσ' 400).2 _ _ _ z3 y1;refine ⟨cellsR_of u1 y2 (u2 y3),k2,fun hh => ?_⟩;obtain ⟨k4,k5⟩:=k3 hh;exact ⟨k4,by rw [rens_len _ _ _ z3];exact k5⟩
   ·rcases hρ_inv b p hb with ⟨q1,q2⟩ | ⟨k,id,rfl,q1,q2⟩
    ·rw [n4 b (.inl q1)] at hx;rcases hρ_inv c q hc with ⟨t1,t2⟩ | ⟨k,id,rfl,t1,t2⟩
     ·rw [n4 c (.inl t1)] at hy;exact r.sep b c p q x y hne q2 t2 hx hy
     ·refine Sep.of_cb ?_;have:=(r.dom b p q2).2;have:=hfreshcb k id q t1 t2;omega
    ·rcases hρ_inv c q hc with ⟨t1,t2⟩ | ⟨k',id',rfl,t1,t2⟩
     ·refine Sep.of_cb ?_;have:=(r.dom c q t2).2;have:=hfreshcb k id p q1 q2;omega
     ·obtain ⟨cs,an,es,rw,cs',z1,z2,z3,z4⟩:=hblk k id q1;obtain ⟨ds,bn,fs,sw,ds',y1,y2,y3,y4⟩:=hblk k' id' t1;rw [z4] at hx;cases hx;rw [y4] at hy;cases hy;(have hid:id ≠ id':=by rintro rfl;have:=noDup_ok f5 q1 t1;exact hne (by omega));have hsep:=R1.sep id id' p q _ _ hid q2 t2 z2 y2;cases rw with
      | false => exact trivial
      | true =>
       rcases hsep with ⟨hm,_⟩ | hoff
       ·exact absurd (List.mem_of_getElem? t1) (newsOk_ok f1 cs an es true (List.mem_of_getElem? z1) id' hm)
       ·refine .inr ?_;rcases hoff with hoff | hoff | hoff
        ·exact .inl hoff
        ·exact .inr (.inl hoff)
        ·refine .inr (.inr ?_);cases sw with
         | true => exact hoff
         | false => have hl:=rens_len _ _ _ y3;show q.co + ds'.length ≤ p.co;rw [hl];exact hoff
  ·exact
    { le:=hle
      fresh:=fun b n hb h0 => by
       rcases hρ_inv b n hb with ⟨q1,q2⟩ | ⟨k,id,rfl,_,_⟩
       ·rw [h0] at q2;cases q2
       ·omega
      named:=fun b h1 h2 => by (have hk:m.ids[b - h.next]?=some m.ids[b - h.next]:=by simp [show b - h.next < m.ids.length by omega]);obtain ⟨cs,an,es,rw,cs',z1,z2,z3,z4⟩:=hblk _ _ hk;have:=E1'.named _ (hlow _ (List.mem_of_getElem? hk)) (R1.live _ _ z2);have hb:=hρ_new _ _ hk;rw [show h.next + (b - h.next)=b from by omega] at hb;rw [hb];exact this
      next:=by omega
      base:=n2
      wr:=fun b hb => by rw [n3];exact hb
      keep:=fun b hb _ => n4 b (.inl (by have:=r.base;omega))
      size:=E1'.size
      out:=E1'.out
      same:=fun Pr h1 h2 => by
       refine ⟨fun b n hb hor => ?_,fun b hb => s2 b (h2 b hb)⟩;rcases hρ_inv b n hb with ⟨q1,q2⟩ | ⟨k,id,rfl,q1,q2⟩
       ·exact h1 b n q2 hor
       ·intro hp;have:=h2 _ hp;have:=hfreshcb k id n q1 q2;omega }
 ·cases hrun
end Go.Ab
namespace Go.Ab
section
variable {E E1:Env}
theorem okO_congr (hP:E1.P=E.P) (x:Operand):okO E1 x=okO E x:=by cases x <;> simp [okO,hP]
theorem okCode_congr (hP:E1.P=E.P):∀ (c:Code),okCode E1 c=okCode E c:=by
 have hO:okO E1=okO E:=funext (okO_congr hP);have hOp:okOper E1=okOper E:=by funext o;unfold okOper;rw [hO]
 intro c;induction c with
 | region id ops draw => simp [okCode,hOp]
 | seq a b iha ihb => simp [okCode,iha,ihb]
 | cond c a b iha ihb => simp [okCode,hO,iha,ihb]
 | block id b ih => simp [okCode,ih]
 | loop b ih => simp [okCode,ih]
 | rangeFunc f ps a b iha ihb => simp [okCode,hO,iha,ihb]
 | scope b ih => simp [okCode,ih]
 | _ => simp [okCode]
theorem loopR_congr (hP:E1.P=E.P) (hΓ:E1.Γ=E.Γ) {ρ:Names} {l:ALoop} {r:Loop} (h:loopR ρ E1 l r):loopR ρ E l r:=by
 have hs:szOf E1 l.fn=szOf E l.fn:=by unfold szOf;rw [hΓ]
 unfold loopR at h ⊢;rw [hs,okCode_congr hP,okCode_congr hP] at h;obtain ⟨h1,h2,h3,h4,h5,h6,h7,h8,h9,h10,h11⟩:=h;exact ⟨h1,h2,h3,h4,h5,h6,h7,h8,h9,h10,fun c hc => by rw [← okCode_congr hP];exact h11 c hc⟩
theorem BR_congr (hP:E1.P=E.P) (hΓ:E1.Γ=E.Γ) {ρ:Names} {w:World} {n:Nm} {x:Blk} (h:BR ρ E1 w n x):BR ρ E w n x:=by
 cases x with
 | loop l => obtain ⟨r,h1,h2⟩:=h;exact ⟨r,h1,loopR_congr hP hΓ h2⟩
 | defs ds => cases ds <;> exact h
 | _ => exact h
theorem HR_congr (hP:E1.P=E.P) (hΓ:E1.Γ=E.Γ) {ρ:Names} {h:H} {w:World} (r:HR E1 ρ h w):HR E ρ h w :=
 ⟨r.live,r.anc,r.dom,fun b n x hb hx => BR_congr hP hΓ (r.blk b n x hb hx),r.sep,r.base,r.wr⟩
theorem GlobR_congr (hP:E1.P=E.P) {ρ:Names} (h:GlobR E1 ρ):GlobR E ρ:=fun b hb => h b (by rw [hP];exact hb)
end
def Env.with (E:Env) (st:Stub):Env:={ E with stub:=st }
theorem goodC_with {E:Env} (g:GoodC E) (st:Stub):GoodC (E.with st) where
 ctx:=g.ctx
 zero:=g.zero
 fields:=g.fields
 code:=fun f fn c hf hb => by rw [show okCode (E.with st) c=okCode E c from okCode_congr (E:=E) (E1:=E.with st) rfl c];exact g.code f fn c hf hb
 mixed:=g.mixed
def StubAt (P:Program) (Γ:Ctx) (f:Nat) (args:List Value) (h:H) (v:Value) (h':H):Prop :=
 ∀ E:Env,E.P=P→E.Γ=Γ→∀ ρ w args',HR E ρ h w→GlobR E ρ→VRs ρ args args' →
  (∃ ρ' w' v',(callFunc f args'.toArray).run P w=.ok (.value v') w'∧HR E ρ' h' w'∧Ev ρ h w ρ' h' w'∧VR ρ' v v') ∨
  ((callFunc f args'.toArray).run P w=.ok (.enter f args'.toArray) w∧Calls P f args'.toArray w (CallPost E ρ h w v h'))
def StubSays (P:Program) (Γ:Ctx) (st:Stub):Prop:=∀ f args h v h',st f args h=some (some (v,h'))→StubAt P Γ f args h v h'
theorem stubOk_of {E:Env} (h:StubSays E.P E.Γ E.stub):StubOk E:=by intro f args h1 v h' e ρ w args' r hg ha;exact h f args h1 v h' e E rfl rfl ρ w args' r hg ha
def Stands (P:Program) (Γ:Ctx) (m:Memo):Prop:=∃ E:Env,E.P=P∧E.Γ=Γ∧GoodC E∧StubOk E∧MemoOk E m
theorem tryAll_ok {args:List Value} {h h':H} {v:Value}:∀ {l:List Memo},tryAll args h l=some (v,h')→∃ m,m ∈ l∧m.try_ args h=some (v,h')
 | [],e => by cases e
 | m :: l,e => by
  simp only [tryAll] at e;split at e
  ·rename_i r hr;cases e;exact ⟨m,List.mem_cons_self ..,hr⟩
  ·obtain ⟨m',h1,h2⟩:=tryAll_ok e;exact ⟨m',List.mem_cons_of_mem _ h1,h2⟩
theorem memoStub_ok {P:Program} {Γ:Ctx} {st:Stub} (hst:StubSays P Γ st) {ms:T (List Memo)} (hms:∀ f l m,ms.get f=some l→m ∈ l→m.f=f∧Stands P Γ m):StubSays P Γ (memoStub ms st):=by
 intro f args h v h' e;unfold memoStub at e;split at e
 ·exact hst f args h v h' e
 ·rename_i l hl;split at e
  ·rename_i r hr;cases e;obtain ⟨m,h1,h2⟩:=tryAll_ok hr;obtain ⟨hf,E0,hP,hΓ,g,hs,ok⟩:=hms f l m hl h1;subst hf;intro E hEP _ ρ w args' rr hg ha;refine .inr ?_;have:=memo_ok (E:=E0) (E1:=E) (hEP.trans hP.symm) g hs ok h2 rr hg ha;rw [hEP] at this;exact this
  ·exact hst f args h v h' e
end Go.Ab
namespace Go.Ab
def zeroOkB (i:TypeInfo):Bool:=match i.zero with | some z => closedV 20 z | none => true
def fieldsOkB (P:Program) (i:TypeInfo):Bool:=match (tyOf P i).desc with
 | .struct fs => fs.toList.all fun f => (P.info? f.type).isSome
 | _ => true
def funcOkB (E:Env) (fn:Func):Bool:=match fn.body with | none => true | some c => okCode E c
theorem goodC_of {P:Program} {st:Stub} (hm:P.follows .mixedOrders=true) (hz:P.types.toList.all zeroOkB=true) (hf:P.types.toList.all (fieldsOkB P)=true)
 (hc:P.funcs.toList.all (funcOkB ⟨P,ctxOf P,noStub⟩)=true):GoodC ⟨P,ctxOf P,st⟩:=by
 have tget:∀ t ti,tiG (ctxOf P) t=some ti→∃ i,i ∈ P.types.toList∧ti=tyOf P i:=by
  intro t ti h;unfold tiG at h;split at h
  ·rename_i x hx;have hx:(T.ofList (P.types.toList.map (tyOf P))).get t=some x:=hx;rw [T.get_ofList,List.getElem?_map] at hx;cases hi:P.types.toList[t]? with
   | none => rw [hi] at hx;cases hx
   | some i =>
    rw [hi] at hx;(have:x=tyOf P i:=by simpa using hx.symm);split at h
    ·cases h
    ·cases h;exact ⟨i,List.mem_of_getElem? hi,this⟩
  ·cases h
 have hinfo:∀ i:TypeInfo,(tyOf P i).info=i:=by intro i;unfold tyOf;split <;> rfl
 refine { ctx:=rfl,zero:=fun t ti z h hz' => ?_,fields:=fun t fs h f hf' => ?_,code:=fun f fn c hfn hb => ?_,mixed:=hm }
 ·obtain ⟨i,h1,rfl⟩:=tget t ti h;have:=List.all_eq_true.1 hz i h1;rw [hinfo] at hz';unfold zeroOkB at this;rw [hz'] at this;exact this
 ·unfold descT at h;split at h
  ·rename_i ti hti;obtain ⟨i,h1,rfl⟩:=tget t ti hti;(have hd:(tyOf P i).desc=.struct fs:=by simpa using h);have:=List.all_eq_true.1 hf i h1;unfold fieldsOkB at this;rw [hd] at this;exact List.all_eq_true.1 this f hf'
  ·cases h
 ·have:=List.all_eq_true.1 hc fn (List.mem_of_getElem? (by rw [Array.getElem?_toList];exact hfn));unfold funcOkB at this;rw [hb] at this;rw [okCode_congr (E:=⟨P,ctxOf P,noStub⟩) (E1:=⟨P,ctxOf P,st⟩) rfl c];exact this
end Go.Ab
