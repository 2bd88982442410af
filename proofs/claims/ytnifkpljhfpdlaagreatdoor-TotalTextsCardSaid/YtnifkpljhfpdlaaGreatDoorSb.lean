/- What is proved: a part of the soundness of the abstract machine (a run of it stands for the run of the model, whatever the tape). Conditions stand in each theorem. -/
import Derived.Test.YtnifkpljhfpdlaaGreatDoorSa
import Derived.Laws.Tables
import Derived.Great.BuildSlice
set_option linter.unusedVariables false
set_option linter.unusedSimpArgs false
namespace Go.Ab
inductive PR (ρ:Names):List (Nat × Value)→List (Nat × Value)→Prop
 | nil:PR ρ [] []
 | cons (i:Nat) (v v':Value) (l l':List (Nat × Value)) (h:VR ρ v v') (hs:PR ρ l l'):PR ρ ((i,v) :: l) ((i,v') :: l')
theorem fold_set:∀ (l:List Value) (k off:Nat) (cs:Array Value),off + k + l.length ≤ cs.size →
 ((l.zipIdx k).foldl (fun (cs:Array Value) (x:Value × Nat) => cs.setIfInBounds (off + x.2) x.1) cs).toList=setAt cs.toList (off + k) l:=by
 intro l;induction l with
 | nil =>
  intro k off cs _;simp only [List.zipIdx_nil,List.foldl_nil];refine List.ext_getElem? fun i => ?_;by_cases h:off + k + ([]:List Value).length ≤ cs.toList.length
  ·rw [setAt_get _ _ _ _ h,if_neg (by simp)]
  ·rename_i hh;exact absurd (by simpa using hh) h
 | cons v l ih =>
  intro k off cs h;simp only [List.length_cons] at h;simp only [List.zipIdx_cons,List.foldl_cons];rw [ih (k + 1) off (cs.setIfInBounds (off + k) v) (by simp;omega)];refine List.ext_getElem? fun i => ?_;rw [setAt_get _ _ _ _ (by simp;omega),setAt_get _ _ _ _ (by simp;omega)];simp only [List.length_cons];by_cases h1:off + (k + 1) ≤ i∧i < off + (k + 1) + l.length
  ·rw [if_pos h1,if_pos ⟨by omega,by omega⟩,show i - (off + k)=(i - (off + (k + 1))) + 1 from by omega];simp
  ·rw [if_neg h1];simp only [Array.getElem?_toList,Array.getElem?_setIfInBounds];by_cases h2:off + k=i
   ·subst h2;rw [if_pos rfl,if_pos (by omega),if_pos ⟨Nat.le_refl _,by omega⟩];simp
   ·rw [if_neg h2,if_neg (by omega)]
theorem zip_arr (v:Array Value) (off:Nat) (cs:Array Value) :
 v.zipIdx.foldl (fun (cs:Array Value) (x:Value × Nat) => cs.setIfInBounds (off + x.2) x.1) cs=(v.toList.zipIdx 0).foldl (fun (cs:Array Value) (x:Value × Nat) => cs.setIfInBounds (off + x.2) x.1) cs:=by
 rw [← Array.foldl_toList,Array.toList_zipIdx]
theorem setAt_VRs {ρ:Names} {cs cs' l l':List Value} (h:VRs ρ cs cs') (k:VRs ρ l l') (o:Nat) (hb:o + l.length ≤ cs.length):VRs ρ (setAt cs o l) (setAt cs' o l'):=by
 have h1:=h.length;have h2:=k.length;refine VRs.of_get (by rw [setAt_len,setAt_len,h1]) fun i v v' e e' => ?_;rw [setAt_get _ _ _ _ hb] at e;rw [setAt_get _ _ _ _ (by omega)] at e';by_cases hi:o ≤ i∧i < o + l.length
 ·rw [if_pos hi] at e;rw [if_pos (by omega)] at e';obtain ⟨w,a,b⟩:=VRs.get k e;rw [e'] at a;cases a;exact b
 ·rw [if_neg hi] at e;rw [if_neg (by omega)] at e';obtain ⟨w,a,b⟩:=VRs.get h e;rw [e'] at a;cases a;exact b
theorem setAt_mem (cs l:List Value) (o:Nat) (hb:o + l.length ≤ cs.length) (p:Value→Prop) (h:∀ v,v ∈ cs→p v) (k:∀ v,v ∈ l→p v):∀ v,v ∈ setAt cs o l→p v:=by
 intro v hv;obtain ⟨i,hi⟩:=List.mem_iff_getElem?.1 hv;rw [setAt_get _ _ _ _ hb] at hi;split at hi
 ·exact k v (List.mem_of_getElem? hi)
 ·exact h v (List.mem_of_getElem? hi)
theorem fill_ok {ρ:Names} {placeA place:Nat→Option (Nat × Nat)} (hp:∀ i x,placeA i=some x→place i=some x) :
 ∀ {ps ps':List (Nat × Value)} {cs r:List Value} {cells:Array Value},PR ρ ps ps'→VRs ρ cs cells.toList→(∀ v,v ∈ cs→notAgg v=true)→fillA placeA cs ps=some r →
  ∃ cells',Instr.fill place cells ps'=some cells'∧VRs ρ r cells'.toList∧(∀ v,v ∈ r→notAgg v=true)∧r.length=cs.length:=by
 intro ps;induction ps with
 | nil => intro ps' cs r cells hpr hv hn e;cases hpr;simp only [fillA] at e;cases e;exact ⟨cells,rfl,hv,hn,rfl⟩
 | cons p ps ih =>
  intro ps' cs r cells hpr hv hn e;cases hpr with
  | cons i v v' _ l' hvv hs =>
   simp only [fillA] at e;split at e
   ·cases e
   ·rename_i o s hpl;split at e
    ·rename_i hc;simp only [Bool.and_eq_true] at hc;obtain ⟨⟨c1,c2⟩,c3⟩:=hc;have c1:=beq_iff.1 c1;have c2:=ble_iff.1 c2;have hcells:=hvv.cells;have hlen:=hcells.length;have hlv:=hv.length;have hno:=hvv.cellsNo c3;(have hsz:v'.cells.size=s:=by rw [← Array.length_toList,← hlen];exact c1);(have hb:o + (cellsL v).length ≤ cs.length:=by rw [c1];exact c2);simp only [Instr.fill,hp _ _ hpl];rw [if_neg (by simp only [hsz,ne_eq,not_true_eq_false,decide_false,Bool.false_or,decide_eq_true_eq];have:o.add s=o + s:=rfl;(have:cells.size=cells.toList.length:=by simp);omega)];(have hfs:(v'.cells.zipIdx.foldl (fun (cs:Array Value) (x:Value × Nat) => cs.setIfInBounds (o + x.2) x.1) cells).toList=setAt cells.toList o v'.cells.toList:=by rw [zip_arr,fold_set _ 0 o cells (by simp at hlen hlv ⊢;omega)];rfl);obtain ⟨cells',g1,g2,g3,g4⟩:=ih (cells:=v'.cells.zipIdx.foldl (fun (cs:Array Value) (x:Value × Nat) => cs.setIfInBounds (o + x.2) x.1) cells) hs
      (by rw [hfs];exact setAt_VRs hv hcells o hb) (setAt_mem _ _ _ hb _ hn hno) e
     exact ⟨cells',g1,g2,g3,by rw [g4,setAt_len]⟩
    ·cases e
theorem places_ok (P:Program):∀ (fs:List Field),(∀ f,f ∈ fs→(P.info? f.type).isSome=true) →
 ∃ places:List (Nat × Nat),fs.mapM (fun (f:Field) => (P.info? f.type).map fun i => (f.offset,i.size))=some places ∧
  ∀ (k:Nat) (f:Field) (i:TypeInfo),fs[k]?=some f→P.info? f.type=some i→places[k]?=some (f.offset,i.size)
 | [],_ => ⟨[],by simp,fun k f i h => by simp at h⟩
 | f :: fs,h => by
  obtain ⟨places,h1,h2⟩:=places_ok P fs fun x hx => h x (List.mem_cons_of_mem _ hx);obtain ⟨i,hi⟩:=Option.isSome_iff_exists.1 (h f (List.mem_cons_self ..));refine ⟨(f.offset,i.size) :: places,by simp [List.mapM_cons,hi,h1],fun k f' i' hk hi' => ?_⟩;cases k with
  | zero => simp at hk;subst hk;rw [hi] at hi';cases hi';rfl
  | succ k => simp at hk ⊢;exact h2 k f' i' hk hi'
theorem zero_no {E:Env} (g:Good E) {t:Nat} {z:Value} (h:zeroT E.Γ t=some z) (hn:noTup z=true) (ρ:Names) :
 VRs ρ (cellsL z) z.cells.toList∧∀ x,x ∈ cellsL z→notAgg x=true:=by
 have hz:=closed_VR ρ 20 z (zeroT_ok g h).2;exact ⟨hz.cells,hz.cellsNo hn⟩
theorem aBuild_ok {E:Env} (g:Good E) {ρ:Names} {w:World} {t:Nat} {ps:List (Nat × Value)} {ps':Array (Nat × Value)} {v:Value} (hp:PR ρ ps ps'.toList) (e:aBuild E.Γ t ps=some v) :
 ∃ v',(Instr.build t ps').run E.P w=.ok v' w∧VR ρ v v':=by
 unfold aBuild at e;split at e
 ·rename_i z fs hz hd;split at e
  ·rename_i hnt;split at e
   ·rename_i l hl;cases e;obtain ⟨⟨i,hi,hiz⟩,_⟩:=zeroT_ok g hz;obtain ⟨hzz,hno⟩:=zero_no g hz hnt ρ;obtain ⟨places,h1,h2⟩:=places_ok E.P fs.toList (g.fields _ _ hd);obtain ⟨cells',g1,g2,g3,_⟩:=fill_ok (ρ:=ρ) (place:=(places.toArray[·]?)) (fun k x hk => by
     unfold placeS at hk;rw [nth_eq] at hk;split at hk
     ·rename_i f hf;split at hk
      ·rename_i s hs;cases hk;obtain ⟨i',hi',rfl⟩:=sizeT_ok g hs;simpa using h2 k f i' hf hi'
      ·cases hk
     ·cases hk) hp hzz hno hl
    refine ⟨_,Go.run_build w t ps' cells' ?_,.agg _ _ g2 g3⟩;unfold Program.built;rw [hi,descT_ok g hd];simp only [hiz,h1];exact g1
   ·cases e
  ·cases e
 ·rename_i z n el hz hd;split at e
  ·rename_i s hs hnt;split at e
   ·rename_i l hl;cases e;obtain ⟨⟨i,hi,hiz⟩,_⟩:=zeroT_ok g hz;obtain ⟨hzz,hno⟩:=zero_no g hz hnt ρ;obtain ⟨ie,hie,rfl⟩:=sizeT_ok g hs;obtain ⟨cells',g1,g2,g3,_⟩:=fill_ok (ρ:=ρ) (place:=fun i => some (i * ie.size,ie.size)) (fun k x hk => hk) hp hzz hno hl;refine ⟨_,Go.run_build w t ps' cells' ?_,.agg _ _ g2 g3⟩;unfold Program.built;rw [hi,descT_ok g hd];simp only [hiz,hie];exact g1
   ·cases e
  ·cases e
 ·cases e
theorem repL_len (l:List Value):∀ n,(repL l n).length=n * l.length
 | 0 => by simp [repL]
 | n + 1 => by simp [repL,repL_len l n,Nat.succ_mul,Nat.add_comm]
theorem repL_get (l:List Value):∀ (n i:Nat),i < n * l.length→(repL l n)[i]?=l[i % l.length]?
 | 0,i,h => by simp at h
 | n + 1,i,h => by
  simp only [repL];by_cases hi:i < l.length
  ·rw [List.getElem?_append_left hi,Nat.mod_eq_of_lt hi]
  ·rw [List.getElem?_append_right (by omega),repL_get l n (i - l.length) (by rw [Nat.succ_mul] at h;omega)];rw [← Nat.mod_eq_sub_mod (by omega)]
theorem repL_mem (l:List Value) (n:Nat):∀ v,v ∈ repL l n→v ∈ l:=by
 induction n with
 | zero => intro v h;simp [repL] at h
 | succ n ih =>
  intro v h;simp only [repL,List.mem_append] at h;rcases h with h | h
  ·exact h
  ·exact ih v h
theorem zeros_eq (z:Array Value) (n s:Nat) (hz:z.size=s) :
 ((Array.range (n * s)).map (z[· % z.size]!)).toList=repL z.toList n:=by
 have hl:z.toList.length=s:=by simpa using hz
 refine List.ext_getElem? fun i => ?_;by_cases hi:i < n * s
 ·rw [repL_get _ _ _ (by rw [hl];exact hi)];simp only [Array.toList_map,List.getElem?_map,Array.toList_range,List.getElem?_range,hi,Option.map_some,hl,hz];have hs:0 < s:=by
   rcases Nat.eq_zero_or_pos s with h | h
   ·subst h;simp at hi
   ·exact h
  have:i % s < z.size:=by rw [hz];exact Nat.mod_lt _ hs
  rw [getElem!_pos z (i % s) this];simp [this]
 ·rw [List.getElem?_eq_none (by simp;omega),List.getElem?_eq_none (by rw [repL_len,hl];omega)]
theorem repL_VRs {ρ:Names} {l l':List Value} (h:VRs ρ l l'):∀ n,VRs ρ (repL l n) (repL l' n)
 | 0 => .nil
 | n + 1 => h.append (repL_VRs h n)
theorem aBuildSlice_ok {E:Env} (g:Good E) {ρ:Names} {h h':H} {w:World} (r:HR E ρ h w) {t n:Nat} {ps:List (Nat × Value)} {ps':Array (Nat × Value)} {v:Value} (hp:PR ρ ps ps'.toList)
 (e:aBuildSlice E.Γ t n ps h=some (.val v h')) :
 ∃ ρ' w' v',(Instr.buildSlice t n ps').run E.P w=.ok v' w'∧HR E ρ' h' w'∧Ev ρ h w ρ' h' w'∧VR ρ' v v':=by
 unfold aBuildSlice at e;split at e
 ·rename_i el hd;split at e
  ·rename_i s z hs hz;simp only at e;split at e
   ·rename_i hc;simp only [Bool.and_eq_true] at hc;obtain ⟨⟨⟨c1,c2⟩,c3⟩,c4⟩:=hc;have c1:=ble_iff.1 c1;have c2:=beq_iff.1 c2;have c4:=ble_iff.1 c4;split at e
    ·rename_i l hl;cases e;obtain ⟨⟨i,hi,hiz⟩,_⟩:=zeroT_ok g hz;obtain ⟨hzz,hno⟩:=zero_no g hz c3 ρ;obtain ⟨ie,hie,rfl⟩:=sizeT_ok g hs;rw [hi] at hie;cases hie;have hu:=descT_ok g hd;(have hzs:z.cells.size=i.size:=by rw [← Array.length_toList,← hzz.length];exact c2);(have hlen0:(repL (cellsL z) n).length=n * i.size:=by rw [repL_len,c2]);have hmul:n.mul i.size=n * i.size:=rfl;have hn24:n ≤ 16777216:=by
      rcases Nat.lt_or_ge 16777216 n with hlt | hge
      ·have:=Nat.mul_le_mul_left n c4;rw [hmul] at c1;omega
      ·exact hge
     (have hcap:∀ m:Nm,capOk m 0 n n n:=by intro m;unfold capOk knownCap;rw [if_pos (ble_iff.2 (by omega))];exact ⟨Nat.le_refl _,rfl⟩);by_cases hpos:n * i.size=0
     ·have hn:fillA (fun k => some (Nat.mul k i.size,i.size)) (repL (cellsL z) n) ps=some l:=hl;obtain ⟨cells',g1,g2,g3,g4⟩:=fill_ok (ρ:=ρ) (place:=fun k => some (k * i.size,i.size)) (cells:=#[]) (fun k x hk => hk) hp
       (by have:repL (cellsL z) n=[]:=List.length_eq_zero_iff.1 (by rw [hlen0];exact hpos)
           rw [this];exact .nil) (fun x hx => hno x (repL_mem _ _ x hx)) hn
      have hc0:l=[]:=List.length_eq_zero_iff.1 (by rw [g4,hlen0];exact hpos);(have hr:(Instr.buildSlice t n ps').run E.P w=.ok (.slice (some ⟨w.heap.size,0,none⟩) n n) (wpush w (.cells cells' el (0,0))):=by (have hr0:(Array.range (n * i.size))=#[]:=by rw [hpos];rfl);simp [Instr.buildSlice,run_und hu,run_size hi,hpos,newRow,newObj];rw [show Array.map (fun _ => (default:Value)) (Array.range 0)=#[] from (by simp [Array.range]),g1];rfl);(have hsz:cells'.size=l.length:=by rw [← Array.length_toList,g2.length]);obtain ⟨k1,k2⟩:=r.newRow l cells' el i.size (by rw [List.take_of_length_le (by simp [hsz])];exact g2) (by omega) g3;exact ⟨_,_,_,hr,k1,k2,.slice _ _ _ _ _ _ _ (Names.add_same _ _ _) (hcap _) (.inl rfl)⟩
     ·have hz0:(((Array.range (n * i.size)).map (z.cells[· % z.cells.size]!))).toList=repL z.cells.toList n:=zeros_eq _ _ _ hzs;obtain ⟨cells',g1,g2,g3,g4⟩:=fill_ok (ρ:=ρ) (place:=fun k => some (k * i.size,i.size)) (cells:=(Array.range (n * i.size)).map (z.cells[· % z.cells.size]!)) (fun k x hk => hk) hp
       (by rw [hz0];exact repL_VRs hzz n) (fun x hx => hno x (repL_mem _ _ x hx)) hl
      have hrun:=Go.run_buildSlice w t el n ps' cells' i z hu hi hiz (by omega) hpos g1;(have hsz:cells'.size=l.length:=by rw [← Array.length_toList,g2.length]);obtain ⟨k1,k2⟩:=r.newRow l cells' el i.size (by rw [List.take_of_length_le (by simp [hsz])];exact g2) (by omega) g3;exact ⟨_,_,_,hrun,k1,k2,.slice _ _ _ _ _ _ _ (Names.add_same _ _ _) (hcap _) (.inl rfl)⟩
    ·cases e
   ·cases e
  ·cases e
 ·cases e
end Go.Ab
