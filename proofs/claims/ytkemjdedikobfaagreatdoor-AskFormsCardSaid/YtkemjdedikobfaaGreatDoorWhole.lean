/- What is proved: AskForms returns true at every input and leaves its arguments as they read; the tied card. Conditions: the row's own cells. -/
import Derived.Test.YtkemjdedikobfaaGreatDoorRun
import Derived.Test.YtkemjdedikobfaaGreatDoorPf
import Derived.Test.YtkemjdedikobfaaGreatDoorShut
import Derived.Carry
import Derived.ChangeSame
import Derived.ChangeVars
import Derived.JoinedOf
import Derived.JoinedAt
import Derived.RowKit
import Derived.RowKit3
import Derived.RowKitTokens
import Derived.Lib.SmallJoins
import Derived.LaidLaws
import Derived.LaidHandle
import Derived.Lay
import Derived.MakeChecks
import Derived.HandedShaped
import Derived.SevenTiedAt
import Derived.OpenShut
import Derived.ShutString
import Derived.ChangeOld
import Derived.SizedLaws
set_option linter.unusedVariables false
set_option linter.unusedSimpArgs false
namespace Go.Ab
open Go.Proofs Go.RowKit
def rho0:Names:=fun g => if g < 6 then some ⟨g,0,0,0⟩ else none
theorem globals6:Tryz.prog.globals.size=6:=by kernel_rfl
theorem start_ok {E:Env} (hP:E.P=Tryz.prog) {w:World} (hw:6 ≤ w.heap.size):HR E rho0 (h0 6) w∧GlobR E rho0:=by
 have hinv:∀ b n,rho0 b=some n→b < 6∧n=⟨b,0,0,0⟩:=by
  intro b n h;unfold rho0 at h;split at h
  ·cases h;exact ⟨by assumption,rfl⟩
  ·cases h
 refine ⟨⟨fun b x hx => (by simp [h0,T.get] at hx),fun b cs an es rw hx => (by simp [h0,T.get] at hx),fun b n hb => ?_,fun b n x _ hx => (by simp [h0,T.get] at hx),fun b c m n x y _ _ _ hx => (by simp [h0,T.get] at hx),Nat.le_refl _,fun b hb => by cases hb⟩,fun g hg => ?_⟩
 ·obtain ⟨h1,rfl⟩:=hinv b n hb;exact ⟨h1,by show b < w.heap.size;omega⟩
 ·rw [hP,globals6] at hg;exact ⟨⟨g,0,0,0⟩,by unfold rho0;rw [if_pos hg],rfl,rfl⟩
theorem calls_of {E:Env} (hP:E.P=Tryz.prog) (g:GoodC E) (hst:StubOk E) {n d f:Nat} {args args':List Value} {v:Value} {u:Mode?} {h':H} (hs:E.stub f args (h0 6)=none) (e:call E n d f args (h0 6)=some (.ret v,u,h'))
 (hwr:h'.wr=[]) (ha:∀ ρ,VRs ρ args args') {w:World} (hw:6 ≤ w.heap.size) {v1:Value} (hv:∀ ρ v',VR ρ v v'→v'=v1) :
 Calls Tryz.prog f args'.toArray w fun e w' => e=.returned v1∧Below w.heap.size w w':=by
 obtain ⟨r,hg⟩:=start_ok hP hw;have:=(call_ok g hst hs e r hg (ha _)).2;rw [hP] at this;refine this.mono ?_;rintro en w' ⟨ρ',v',rfl,_,ev,hvr⟩;rw [hv _ _ hvr];refine ⟨rfl,ev.out.1,ev.out.2.2,ev.out.2.1,ev.size,?_⟩;refine (ev.same (fun b => b < w.heap.size) (fun b n hb hor => ?_) (fun b hb => hb)).2;rw [hwr] at hor;rcases hor with hor | hor
 ·have:=(r.dom b n hb).1;have h6:(h0 6).base=6:=rfl;have h7:(h0 6).next=6:=rfl
  omega
 ·cases hor
theorem endsTrue_inv {x:Option (Ab.End × Mode? × H)} (h:endsTrue x=true):∃ u h',x=some (.ret (.bool true),u,h')∧h'.wr=[]:=by
 unfold endsTrue at h;split at h
 ·rename_i u h';split at h
  ·rename_i hw;exact ⟨u,h',rfl,hw⟩
  ·cases h
 ·cases h
theorem sane_of {E:Env} (hP:E.P=Tryz.prog) (g:GoodC E) (hst:StubOk E) {n d:Nat} (hs:E.stub 6 [] (h0 6)=none) (h:endsTrue (call E n d 6 [] (h0 6))=true):∀ w:World,6 ≤ w.heap.size→Calls Tryz.prog 6 #[] w fun e w' => e=.returned (.bool true)∧Below w.heap.size w w':=by intro w hw;obtain ⟨u,h',e,hwr⟩:=endsTrue_inv h;exact calls_of (args':=[]) hP g hst hs e hwr (fun _ => .nil) hw (fun ρ v' hv => by cases hv;rfl)
theorem sane:∀ w:World,6 ≤ w.heap.size→Calls Tryz.prog 6 #[] w fun e w' => e=.returned (.bool true)∧Below w.heap.size w w':=sane_of rfl (goodC _) stubX (by kernel_rfl) ranX
end Go.Ab
namespace Go.Proofs.YtkemjdedikobfaaGreatDoor
open Go.ChangeShapes Go.WideShapes Go.ChangeAt Go.RowKit Go.Joins
open Go.ChangeMaps (open_string shut_string)
theorem own:ownKnob Tryz.prog.godebug=none:=by kernel_rfl
theorem globTab:Tryz.prog.globalNamed "math/bits.deBruijn64tab"=some 5:=by kernel_rfl
theorem size_of_laid {W:World} (h:laidMet Tryz.prog Rows.askFormsRow.laid W):6 ≤ W.heap.size:=by
 obtain ⟨ps,hv,_⟩:=h;obtain ⟨_,_,_,_,_,_,_,_,_,_,hrest,_⟩:=hv;obtain ⟨_,_,cs,_,_,_,_,_,hvar,_⟩:=hrest;have hc:=World.var?_cell globTab hvar;unfold World.var? at hvar;rw [globTab] at hvar;simp only [Option.bind_some] at hvar;cases hx:W.heap[5]? with
 | none => rw [hx] at hvar;cases hvar
 | some o => have:=(Array.getElem?_eq_some_iff.1 hx).1;omega
theorem laidOut:laidOutB Tryz.prog=true:=by kernel_rfl
set_option maxRecDepth 100000 in
theorem open_arg {H:Type} {enc:TypeId × Value→H} {W:World} {base:Nat} {r:Reach} {v:Value} {d:DataW H} {ps:List MemPlace} (hval:Value.okWide Tryz.prog W r base 24 v) (h:DataW.Trod enc Tryz.prog W 0 (fun _ => true) true 24 v d ps) :
 (∃ c A n k,v=Sem.fm c A n k)∧Sem.FormV0 W v:=by
 unfold Value.okWide at hval;rw [Tryz.underlying24] at hval;obtain ⟨cs,rfl,hn,_⟩:=hval;obtain ⟨fuel,h⟩:=h;obtain ⟨c,A,m,k,e,hf⟩:=Sem.open_form h;have e':cs=#[.int .i64 c,.slice A m k]:=by have:cs.toList=[.int .i64 c,.slice A m k]:=e;cases cs;simp_all
 subst e';exact ⟨⟨c,A,m,k,rfl⟩,hf⟩
set_option maxRecDepth 100000 in
theorem lifted (os:Os) (started:os.Started) (H:Type) (enc:TypeId × Value→H) :
 ReturnsInHanded {} Tryz.checked os 3 .any (fun w args => (Rows.askFormsSpec.pre enc Tryz.prog Tryz.f3 [] false w args∧laidMetH Tryz.prog Rows.askFormsRow.laid w)∧sizedMet enc Tryz.prog Tryz.f3 (OpenSpec.ofChange Rows.askFormsSpec) false w args)
  (Rows.askFormsSpec.post enc Tryz.prog Tryz.f3 false true false false):=by
 refine returnsInHanded_of_change_and (C:=Tryz.checked) (X:=fun w _ => laidMetH Tryz.prog Rows.askFormsRow.laid w) (fun _ _ _ hh h => h.of_heap hh) own started (by kernel_rfl) Tryz.func3
  (ChangeSpec.witness_shaped (enc:=enc) (C:=Tryz.checked) (os:=os) (X:=fun w _ => laidMetH Tryz.prog Rows.askFormsRow.laid w) false (World.laidAll Tryz.prog os Rows.askFormsRow.laid) #[.agg #[.int .i64 0,.slice none 0 0],.agg #[.int .i64 0,.slice none 0 0],.int .i64 0] 8 (World.laidAll_os _ _ _)
   (World.shaped_of_ZipB (by kernel_rfl) (by kernel_rfl)) (by kernel_rfl) (by kernel_rfl) (by kernel_rfl)
   (by rw [MakeChecks.laidMetH_plain _ _ _ (by kernel_rfl)];exact laidMet_laidAll _ (by kernel_rfl) (by kernel_rfl))) ?_
 intro W base args ds gs before hval0 hW hcnd hsz0 hL _;have hval:∀ (j:Nat) t v,Tryz.f3.params[j]?=some t→args[j]?=some v→Value.okWide Tryz.prog W .any base t v:=hval0;have hW':=hW;obtain ⟨p,q,hA0,hV,rfl,_,_⟩:=hW;have hA:DataW.TrodAll enc Tryz.prog W 0 (fun _ => true) true Tryz.f3.params.toList args.toList ds p:=hA0;rw [Tryz.params3] at hA hval;obtain ⟨v0,vs0,d0,ds0,p0,q0,hargs,rfl,rfl,h0,r0⟩:=trodAll_cons hA;obtain ⟨v1,vs1,d1,ds1,p1,q1,rfl,rfl,rfl,h1,r1⟩:=trodAll_cons r0;obtain ⟨v2,vs2,d2,ds2,p2,q2,rfl,rfl,rfl,h2,r2⟩:=trodAll_cons r1;obtain ⟨rfl,rfl,rfl⟩:=trodAll_nil r2;obtain rfl:args=#[v0,v1,v2]:=by cases args;simp_all
 obtain ⟨rfl,rfl⟩:=trodVars_none hV;have hlt:∀ x ∈ p0 ++ (p1 ++ (p2 ++ [])),x.block < W.heap.size:=fun x hx => by simpa using hW'.lt x (by simpa using hx)
 obtain ⟨a0,F0⟩:=open_arg (hval 0 24 v0 rfl rfl) h0;obtain ⟨a1,F1⟩:=open_arg (hval 1 24 v1 rfl rfl) h1;obtain ⟨c0,A0,n0,k0,rfl⟩:=a0;obtain ⟨c1,A1,n1,k1,rfl⟩:=a1;obtain ⟨i2,rfl,rfl,rfl,w2⟩:=open_int Tryz.underlying3 (hval 2 3 v2 rfl rfl) h2;clear hA0 hval0 hsz0;rw [MakeChecks.laidMetH_plain _ _ _ (by kernel_rfl)] at hL;have hsz:=size_of_laid hL;refine (Sem.walkF Go.Ab.sane c0 c1 i2 A0 A1 n0 n1 k0 k1 W hsz F0 F1).mono fun e W' ⟨he,bel⟩ => ?_;subst he;have kp:∀ {t:TypeId} {v:Value} {d:DataW H} {ps:List MemPlace},Tryz.prog.readableRec t=true→t < Tryz.prog.types.size→DataW.Trod enc Tryz.prog W 0 (fun _ => true) true t v d ps→(∀ x ∈ ps,x.block < W.heap.size)→DataW.Trod enc Tryz.prog W' 0 (fun b => decide (b < W.heap.size)) true t v d ps:=fun hr hs h hl => Below.trod laidOut hr hs h bel hl;exact ⟨_,rfl,_,_,_,[],_,[],hW',trodAll_mk1 (shut_bool Tryz.underlying4 _),
  trodAll_cons_mk (kp (by kernel_rfl) (of_decide_eq_true (by kernel_rfl)) h0 fun x hx => hlt x (by simp [hx])) (trodAll_cons_mk (kp (by kernel_rfl) (of_decide_eq_true (by kernel_rfl)) h1 fun x hx => hlt x (by simp [hx])) (trodAll_cons_mk (shut_int Tryz.underlying3 w2) trodAll_mk0)),
  rfl,bel.frame _,fun h => by cases h⟩
theorem said:Rows.AskFormsSaid :=
 OpenClaim.holds_of_wide 3 Tryz.f3 rfl rfl rfl rfl rfl rfl rfl ⟨rfl,rfl,rfl,rfl,rfl⟩ rfl rfl rfl rfl rfl named Tryz.func3 closed inst wrap
  (fun os started H enc _ => lifted os started H enc)
theorem askForms_holds:Rows.AskFormsCardSaid :=
 Claim7.holds_tied_plain_at .later [] [.data,.data,.data,.data,.pinned] true (true, "d02640f45e992c16605511064798ef803b706b4c5db77012d658fe766327cdf1") true said (fun _ h => by cases h) wfText (fun _ h => by cases h) askForms_row_tie rfl ⟨rfl,rfl⟩ mainIs rfl
  (fun f fn hf hfn => by
   obtain rfl:f=3:=Option.some.inj (named.symm.trans hf) |>.symm;obtain rfl:fn=Tryz.f3:=(Option.some.inj (Tryz.func3.symm.trans hfn)).symm;exact ⟨looks,fun j t ht => by
    rw [Tryz.params3] at ht;(have hm:t ∈ [24,24,3]:=by simpa using Array.mem_of_getElem? ht);simp only [List.mem_cons,List.mem_nil_iff,or_false] at hm;rcases hm with rfl | rfl | rfl
    ·exact wants24
    ·exact wants24
    ·exact wants3⟩)
  goesBy
end Go.Proofs.YtkemjdedikobfaaGreatDoor
