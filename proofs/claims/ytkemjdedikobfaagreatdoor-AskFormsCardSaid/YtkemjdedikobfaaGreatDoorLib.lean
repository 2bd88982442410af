/- What is proved: what this program's library functions do (slices.Sorted at the keys of a map, strings.Join, two entries of internal/bytealg). Conditions stand in each theorem. -/
import Derived.Test.YtkemjdedikobfaaGreatDoorSj
import Derived.Shelf.SlIterI.Nil
import Derived.Shelf.SortM.Plain
import Derived.Shelf.SortM.SortNone
import Derived.Shelf.Strings.OnBuilder
import Derived.Ground.GgzProg
import Derived.Ground.SlgmProg
import Derived.Test.YtkemjdedikobfaaGreatDoorProg
import Derived.KernelRfl
set_option linter.unusedVariables false
set_option linter.unusedSimpArgs false
namespace Go.Proofs
open Go.Shelf
def Tryz.sortedA_ren:Go.Shelf.Ren:=⟨fun | 6 => 158 | 8 => 222 | 9 => 223 | 11 => 273 | 12 => 274 | 13 => 275 | 14 => 316 | 15 => 317 | 16 => 318 | 17 => 319 | 18 => 320 | 19 => 321 | 20 => 276 | 21 => 322 | 22 => 323 | 23 => 324 | 24 => 288 | 25 => 350 | 26 => 351 | 27 => 352 | 28 => 353 | 29 => 354 | 30 => 123 | 31 => 363 | n => n,fun | 24 => 199 | 26 => 3 | 28 => 192 | 33 => 83 | 37 => 306 | 39 => 438 | 40 => 439 | 45 => 126 | 48 => 405 | 50 => 362 | 51 => 473 | 55 => 145 | 57 => 485 | 58 => 486 | n => n,fun | n => n⟩
theorem Tryz.sortedA:Go.Proofs.SlLaysZI.n6 Tryz.prog Tryz.sortedA_ren:={
 mixed:=by kernel_rfl
 f6:=⟨Tryz.f158.name,by decide,Tryz.func158.trans (congrArg some (by kernel_rfl))⟩
 f8:=⟨Tryz.f222.name,by decide,Tryz.func222.trans (congrArg some (by kernel_rfl))⟩
 f11:=⟨Tryz.f273.name,by decide,Tryz.func273.trans (congrArg some (by kernel_rfl))⟩
 t0:=Tryz.underlying0
 a0:=Tryz.isAgg0
 z0:=Tryz.sizeOf0
 v0:=Tryz.zeroValue0
 t24:=Tryz.underlying199
 a24:=Tryz.isAgg199
 z24:=Tryz.sizeOf199
 v24:=Tryz.zeroValue199
 t26:=Tryz.underlying3
 a26:=Tryz.isAgg3
 z26:=Tryz.sizeOf3
 v26:=Tryz.zeroValue3
 t28:=Tryz.underlying192
 a28:=Tryz.isAgg192
 z28:=Tryz.sizeOf192
 v28:=Tryz.zeroValue192
 i26:=by kernel_rfl }
def Tryz.keysA_ren:Go.Shelf.Ren:=⟨fun | 7 => 159 | 10 => 224 | n => n,fun | 3 => 4 | 23 => 277 | 26 => 3 | 27 => 191 | 28 => 192 | 33 => 83 | n => n,fun | n => n⟩
theorem Tryz.keysA:Go.Proofs.SlLaysZI.n7 Tryz.prog Tryz.keysA_ren:={
 mixed:=by kernel_rfl
 f7:=⟨Tryz.f159.name,by decide,Tryz.func159.trans (congrArg some (by kernel_rfl))⟩
 f10:=⟨Tryz.f224.name,by decide,Tryz.func224.trans (congrArg some (by kernel_rfl))⟩
 t0:=Tryz.underlying0
 a0:=Tryz.isAgg0
 z0:=Tryz.sizeOf0
 v0:=Tryz.zeroValue0
 t4:=Tryz.underlying4
 a4:=Tryz.isAgg4
 z4:=Tryz.sizeOf4
 v4:=Tryz.zeroValue4
 t23:=Tryz.underlying277
 a23:=Tryz.isAgg277
 z23:=Tryz.sizeOf277
 v23:=Tryz.zeroValue277
 t26:=Tryz.underlying3
 a26:=Tryz.isAgg3
 z26:=Tryz.sizeOf3
 v26:=Tryz.zeroValue3
 t27:=Tryz.underlying191
 a27:=Tryz.isAgg191
 z27:=Tryz.sizeOf191
 v27:=Tryz.zeroValue191
 t28:=Tryz.underlying192
 a28:=Tryz.isAgg192
 z28:=Tryz.sizeOf192
 v28:=Tryz.zeroValue192
 t33:=Tryz.underlying83
 a33:=Tryz.isAgg83
 z33:=Tryz.sizeOf83
 v33:=Tryz.zeroValue83 }
def Tryz.keysB_ren:Go.Shelf.Ren:=⟨fun | 7 => 163 | 10 => 225 | n => n,fun | 3 => 281 | 23 => 275 | 26 => 3 | 27 => 191 | 28 => 192 | 33 => 83 | n => n,fun | n => n⟩
theorem Tryz.keysB:Go.Proofs.SlLaysZI.n7 Tryz.prog Tryz.keysB_ren:={
 mixed:=by kernel_rfl
 f7:=⟨Tryz.f163.name,by decide,Tryz.func163.trans (congrArg some (by kernel_rfl))⟩
 f10:=⟨Tryz.f225.name,by decide,Tryz.func225.trans (congrArg some (by kernel_rfl))⟩
 t0:=Tryz.underlying0
 a0:=Tryz.isAgg0
 z0:=Tryz.sizeOf0
 v0:=Tryz.zeroValue0
 t4:=Tryz.underlying4
 a4:=Tryz.isAgg4
 z4:=Tryz.sizeOf4
 v4:=Tryz.zeroValue4
 t23:=Tryz.underlying275
 a23:=Tryz.isAgg275
 z23:=Tryz.sizeOf275
 v23:=Tryz.zeroValue275
 t26:=Tryz.underlying3
 a26:=Tryz.isAgg3
 z26:=Tryz.sizeOf3
 v26:=Tryz.zeroValue3
 t27:=Tryz.underlying191
 a27:=Tryz.isAgg191
 z27:=Tryz.sizeOf191
 v27:=Tryz.zeroValue191
 t28:=Tryz.underlying192
 a28:=Tryz.isAgg192
 z28:=Tryz.sizeOf192
 v28:=Tryz.zeroValue192
 t33:=Tryz.underlying83
 a33:=Tryz.isAgg83
 z33:=Tryz.sizeOf83
 v33:=Tryz.zeroValue83 }
def Tryz.sortA_ren:Go.Shelf.Ren:=⟨fun | 5 => 223 | 7 => 274 | 8 => 275 | 10 => 316 | 11 => 317 | 12 => 318 | 13 => 319 | 14 => 320 | 15 => 321 | 16 => 276 | 17 => 322 | 18 => 323 | 19 => 324 | 20 => 288 | 30 => 350 | 31 => 351 | 32 => 352 | 33 => 353 | 34 => 354 | 35 => 123 | 40 => 363 | n => n,fun | 22 => 199 | 23 => 199 | 25 => 3 | 32 => 306 | 35 => 438 | 36 => 439 | 41 => 126 | 44 => 405 | 46 => 362 | 53 => 473 | 57 => 145 | 63 => 485 | 64 => 486 | n => n,fun | n => n⟩
theorem Tryz.sortA:Go.Proofs.SlLaysM.n5 Tryz.prog Tryz.sortA_ren:={
 mixed:=by kernel_rfl
 f5:=⟨Tryz.f223.name,by decide,Tryz.func223.trans (congrArg some (by kernel_rfl))⟩
 f7:=⟨Tryz.f274.name,by decide,Tryz.func274.trans (congrArg some (by kernel_rfl))⟩
 f8:=Tryz.func275.trans (congrArg some (by kernel_rfl))
 f10:=⟨Tryz.f316.name,by decide,Tryz.func316.trans (congrArg some (by kernel_rfl))⟩
 f11:=⟨Tryz.f317.name,by decide,Tryz.func317.trans (congrArg some (by kernel_rfl))⟩
 f12:=⟨Tryz.f318.name,by decide,Tryz.func318.trans (congrArg some (by kernel_rfl))⟩
 f13:=⟨Tryz.f319.name,by decide,Tryz.func319.trans (congrArg some (by kernel_rfl))⟩
 f14:=⟨Tryz.f320.name,by decide,Tryz.func320.trans (congrArg some (by kernel_rfl))⟩
 f15:=⟨Tryz.f321.name,by decide,Tryz.func321.trans (congrArg some (by kernel_rfl))⟩
 f16:=⟨Tryz.f276.name,by decide,Tryz.func276.trans (congrArg some (by kernel_rfl))⟩
 f17:=⟨Tryz.f322.name,by decide,Tryz.func322.trans (congrArg some (by kernel_rfl))⟩
 f18:=⟨Tryz.f323.name,by decide,Tryz.func323.trans (congrArg some (by kernel_rfl))⟩
 f19:=Tryz.func324.trans (congrArg some (by kernel_rfl))
 f20:=Tryz.func288.trans (congrArg some (by kernel_rfl))
 f30:=⟨Tryz.f350.name,by decide,Tryz.func350.trans (congrArg some (by kernel_rfl))⟩
 f31:=Tryz.func351.trans (congrArg some (by kernel_rfl))
 f32:=Tryz.func352.trans (congrArg some (by kernel_rfl))
 f33:=⟨Tryz.f353.name,by decide,Tryz.func353.trans (congrArg some (by kernel_rfl))⟩
 f34:=⟨Tryz.f354.name,by decide,Tryz.func354.trans (congrArg some (by kernel_rfl))⟩
 f35:=⟨Tryz.f123.name,by decide,Tryz.func123.trans (congrArg some (by kernel_rfl))⟩
 f40:=⟨Tryz.f363.name,by decide,Tryz.func363.trans (congrArg some (by kernel_rfl))⟩
 t0:=Tryz.underlying0
 a0:=Tryz.isAgg0
 z0:=Tryz.sizeOf0
 v0:=Tryz.zeroValue0
 t3:=Tryz.underlying3
 a3:=Tryz.isAgg3
 z3:=Tryz.sizeOf3
 v3:=Tryz.zeroValue3
 t4:=Tryz.underlying4
 a4:=Tryz.isAgg4
 z4:=Tryz.sizeOf4
 v4:=Tryz.zeroValue4
 t5:=Tryz.underlying5
 a5:=Tryz.isAgg5
 z5:=Tryz.sizeOf5
 v5:=Tryz.zeroValue5
 t9:=Tryz.underlying9
 a9:=Tryz.isAgg9
 z9:=Tryz.sizeOf9
 v9:=Tryz.zeroValue9
 t22:=Tryz.underlying199
 a22:=Tryz.isAgg199
 z22:=Tryz.sizeOf199
 v22:=Tryz.zeroValue199
 t23:=Tryz.underlying199
 a23:=Tryz.isAgg199
 z23:=Tryz.sizeOf199
 v23:=Tryz.zeroValue199
 t25:=Tryz.underlying3
 a25:=Tryz.isAgg3
 z25:=Tryz.sizeOf3
 v25:=Tryz.zeroValue3
 t32:=Tryz.underlying306
 a32:=Tryz.isAgg306
 z32:=Tryz.sizeOf306
 v32:=Tryz.zeroValue306
 t35:=Tryz.underlying438
 a35:=Tryz.isAgg438
 z35:=Tryz.sizeOf438
 v35:=Tryz.zeroValue438
 t36:=Tryz.underlying439
 a36:=Tryz.isAgg439
 z36:=Tryz.sizeOf439
 v36:=Tryz.zeroValue439
 t41:=Tryz.underlying126
 a41:=Tryz.isAgg126
 z41:=Tryz.sizeOf126
 v41:=Tryz.zeroValue126
 t44:=Tryz.underlying405
 a44:=Tryz.isAgg405
 z44:=Tryz.sizeOf405
 v44:=Tryz.zeroValue405
 t46:=Tryz.underlying362
 a46:=Tryz.isAgg362
 z46:=Tryz.sizeOf362
 v46:=Tryz.zeroValue362
 t53:=Tryz.underlying473
 a53:=Tryz.isAgg473
 z53:=Tryz.sizeOf473
 v53:=Tryz.zeroValue473
 t57:=Tryz.underlying145
 a57:=Tryz.isAgg145
 z57:=Tryz.sizeOf145
 v57:=Tryz.zeroValue145
 t63:=Tryz.underlying485
 a63:=Tryz.isAgg485
 z63:=Tryz.sizeOf485
 v63:=Tryz.zeroValue485
 t64:=Tryz.underlying486
 a64:=Tryz.isAgg486
 z64:=Tryz.sizeOf486
 v64:=Tryz.zeroValue486 }
def Tryz.lays156_ren:Go.Shelf.Ren:=⟨fun | 156 => 98 | 165 => 134 | 166 => 135 | 169 => 136 | 240 => 190 | 241 => 191 | 276 => 246 | 277 => 247 | n => n,fun | 31 => 149 | 37 => 249 | 70 => 248 | 72 => 251 | 75 => 254 | 76 => 255 | 80 => 51 | 127 => 314 | 164 => 367 | n => n,fun | n => n⟩
theorem Tryz.lays156:Go.Proofs.Lays.n156 Tryz.prog Tryz.lays156_ren:={
 mixed:=by kernel_rfl
 f156:=Tryz.func98.trans (congrArg some (by kernel_rfl))
 f165:=Tryz.func134.trans (congrArg some (by kernel_rfl))
 f166:=Tryz.func135.trans (congrArg some (by kernel_rfl))
 f169:=Tryz.func136.trans (congrArg some (by kernel_rfl))
 f240:=Tryz.func190.trans (congrArg some (by kernel_rfl))
 f241:=Tryz.func191.trans (congrArg some (by kernel_rfl))
 f276:=Tryz.func246.trans (congrArg some (by kernel_rfl))
 f277:=Tryz.func247.trans (congrArg some (by kernel_rfl))
 t0:=Tryz.underlying0
 a0:=Tryz.isAgg0
 z0:=Tryz.sizeOf0
 v0:=Tryz.zeroValue0
 t3:=Tryz.underlying3
 a3:=Tryz.isAgg3
 z3:=Tryz.sizeOf3
 v3:=Tryz.zeroValue3
 t4:=Tryz.underlying4
 a4:=Tryz.isAgg4
 z4:=Tryz.sizeOf4
 v4:=Tryz.zeroValue4
 t9:=Tryz.underlying9
 a9:=Tryz.isAgg9
 z9:=Tryz.sizeOf9
 v9:=Tryz.zeroValue9
 t20:=Tryz.underlying20
 a20:=Tryz.isAgg20
 z20:=Tryz.sizeOf20
 v20:=Tryz.zeroValue20
 t31:=Tryz.underlying149
 a31:=Tryz.isAgg149
 z31:=Tryz.sizeOf149
 v31:=Tryz.zeroValue149
 t37:=Tryz.underlying249
 a37:=Tryz.isAgg249
 z37:=Tryz.sizeOf249
 v37:=Tryz.zeroValue249
 t70:=Tryz.underlying248
 a70:=Tryz.isAgg248
 z70:=Tryz.sizeOf248
 v70:=Tryz.zeroValue248
 t72:=Tryz.underlying251
 a72:=Tryz.isAgg251
 z72:=Tryz.sizeOf251
 v72:=Tryz.zeroValue251
 t75:=Tryz.underlying254
 a75:=Tryz.isAgg254
 z75:=Tryz.sizeOf254
 v75:=Tryz.zeroValue254
 t76:=Tryz.underlying255
 a76:=Tryz.isAgg255
 z76:=Tryz.sizeOf255
 v76:=Tryz.zeroValue255
 t127:=Tryz.underlying314
 a127:=Tryz.isAgg314
 z127:=Tryz.sizeOf314
 v127:=Tryz.zeroValue314
 t164:=Tryz.underlying367
 a164:=Tryz.isAgg367
 z164:=Tryz.sizeOf367
 v164:=Tryz.zeroValue367 }
end Go.Proofs
namespace Go.Proofs
open Go.RowKit Go.Maps Go.Sort Go.Shelf Go.WideElems Go.ChangeShapes Go.WideShapes
theorem Tryz.Builder_Extra_156:Builder.Extra Tryz.prog Tryz.lays156_ren:={
 sizeBuilder:=by kernel_rfl
 liesBuilder:=by kernel_rfl
 t5:=Tryz.underlying5
 a5:=Tryz.isAgg5
 z5:=Tryz.sizeOf5
 v5:=Tryz.zeroValue5
 infoByte:=by kernel_rfl
 cellsByte:=by kernel_rfl
 sizeByte:=by kernel_rfl
 neB5:=by decide }
theorem Tryz.sortsA (m:Nat):AnyZI.SortsIn Tryz.prog Tryz.sortedA_ren Fence.wide m :=
 ⟨fun blk off cap ss W hH hblk hsz => callsIn_wide.2 (AnyM.slices_Sort_int Tryz.sortA blk off cap ss W hH hblk hsz),
  fun p cap W => callsIn_wide.2 (AnyM.slices_Sort_int_none Tryz.sortA p cap W)⟩
end Go.Proofs
namespace Go.Ab
open Go.Proofs Go.RowKit Go.Maps Go.Sort Go.Shelf Go.WideElems Go.ChangeShapes Go.WideShapes
def anyR:Value→Option (DataW Unit × List MemPlace):=fun _ => some (.nil,[])
theorem wf64 {n:Int} (h:fits64 n=true):(Lit.int .i64 n).wf=true:=by
 unfold fits64 at h;show (decide (IntKind.i64.min ≤ n) && decide (n ≤ IntKind.i64.max))=true;have e1:IntKind.i64.min=-9223372036854775808:=by decide
 have e2:IntKind.i64.max=9223372036854775807:=by decide
 rw [e1,e2];cases n with
 | ofNat m => have:=ble_iff.1 h;simp;omega
 | negSucc m => have:=ble_iff.1 h;simp;omega
section
variable {P:Program} {k:TypeId} {es:Array MapEntry} {clock:Nat} {w:World} {b:Nat}
theorem rd_of (hk:P.underlying k=some (.int .i64)) {x:MapEntry} {n:Int} (hx:x.key=.int .i64 n) (hf:fits64 n=true):WideElems.rd P k anyR x=some (.int .i64 n,.nil):=by
 unfold WideElems.rd;rw [hx];have:keyOf P k (.int .i64 n)=some (.int .i64 n):=by simp [keyOf,hk,mapKey,wf64 hf]
 rw [this];rfl
theorem ownsMap_of (hk:P.underlying k=some (.int .i64)) (hb:w.heap[b]?=some (.map es clock)) (hs:MapKept.Stamped es clock) (hz:es.size ≤ 1000000) (he:∀ x,x ∈ es.toList→∃ n:Int,x.key=.int .i64 n∧fits64 n=true) :
 w.ownsMap P k anyR b es.size (.map ((es.toList.map (rg P k anyR)).foldr DataW.insert [])) :=
 ⟨es,clock,hb,⟨by unfold maxLen;omega,hs,fun x hx => by obtain ⟨n,h1,h2⟩:=he x hx;exact ⟨_,rd_of hk h1 h2⟩⟩,Nat.le_refl _,rfl⟩
theorem size_of:Maps.size (.map ((es.toList.map (rg P k anyR)).foldr DataW.insert []):DataW Unit)=es.size:=by show ((es.toList.map (rg P k anyR)).foldr DataW.insert []).length=_;rw [(sorted_perm _).length_eq];simp
theorem keys_of (hk:P.underlying k=some (.int .i64)) (he:∀ x,x ∈ es.toList→∃ n:Int,x.key=.int .i64 n∧fits64 n=true) {ss:List Int}
 (h:ss.Perm (intKeys (.map ((es.toList.map (rg P k anyR)).foldr DataW.insert []):DataW Unit))):(ss.map encZ).Perm (es.toList.map (·.key)):=by
 have h:ss.Perm (((es.toList.map (rg P k anyR)).foldr DataW.insert []).map fun p => Go.intOf p.1):=h;have h1:=(h.map encZ).trans (((sorted_perm (es.toList.map (rg P k anyR))).map fun p => Go.intOf p.1).map encZ);refine h1.trans (.of_eq ?_);rw [List.map_map,List.map_map];refine List.map_congr_left fun x hx => ?_;obtain ⟨n,h1,h2⟩:=he x hx;show encZ (Go.intOf (rg P k anyR x).1)=x.key;unfold rg;rw [rd_of hk h1 h2,h1];rfl
end
def ix:Ix:=⟨158,[224,225],280,329,98⟩
theorem lib_sorted (g:Nat) (hg:g ∈ ix.keys) (Bm b:Nat) (es:Array MapEntry) (clock:Nat) (w:World) (hm:w.cell? ⟨Bm,0,none⟩=some (.map (some b))) (hb:w.heap[b]?=some (.map es clock)) (hs:MapKept.Stamped es clock) (hz:es.size ≤ 1000000)
 (he:∀ x,x ∈ es.toList→∃ n:Int,x.key=.int .i64 n∧fits64 n=true) (hBm:Bm < w.heap.size) :
 Calls Tryz.prog 158 #[.func (.func g) #[] #[.pointer (some ⟨Bm,0,none⟩)]] w fun e w' => ∃ (v:Value) (ss:List Int) (t:Nat),e=.returned v∧(ss.map encZ).Perm (es.toList.map (·.key)) ∧
  w'.ownsRow w.heap.size t 1 v ss.length ((ss.mergeSort leI).map encZ)∧(v=.slice none 0 0 ↔ ss=[])∧Below w.heap.size w w':=by
 have hu:Tryz.prog.underlying 3=some (.int .i64):=by kernel_rfl
 have hown:=ownsMap_of hu hb hs hz he;have hsize:=size_of (P:=Tryz.prog) (k:=3) (es:=es);have fin:SeqGives Fence.wide 2 Tryz.prog g #[.pointer (some ⟨Bm,0,none⟩)] encZ (fun ss => ss.Perm (intKeys (.map ((es.toList.map (rg Tryz.prog 3 anyR)).foldr DataW.insert []):DataW Unit))) (Maps.size (.map ((es.toList.map (rg Tryz.prog 3 anyR)).foldr DataW.insert []):DataW Unit)) w→(∀ args w,(callFunc g args).run Tryz.prog w=.ok (.enter g args) w) →
  Calls Tryz.prog 158 #[.func (.func g) #[] #[.pointer (some ⟨Bm,0,none⟩)]] w fun e w' => ∃ (v:Value) (ss:List Int) (t:Nat),e=.returned v∧(ss.map encZ).Perm (es.toList.map (·.key)) ∧
  w'.ownsRow w.heap.size t 1 v ss.length ((ss.mergeSort leI).map encZ)∧(v=.slice none 0 0 ↔ ss=[])∧Below w.heap.size w w':=fun hseq eg => by
  have cS:=AnyZI.sorted_in Tryz.sortedA Fence.wide 5 trivial trivial trivial trivial rfl (by omega) (Tryz.sortsA _) (enters_of Tryz.func223 (by kernel_rfl) rfl) g #[.pointer (some ⟨Bm,0,none⟩)] trivial eg _ _ (by rw [hsize];unfold maxLen;omega) (by rw [hsize];omega) w hseq;change CallsIn _ _ Tryz.prog 158 _ _ _ at cS;refine (callsIn_wide.1 cS).mono ?_;rintro e w' ⟨v,ss,rfl,h1,h2,h3,h4⟩;exact ⟨v,ss,3,rfl,keys_of hu he h1,h2,h3,h4⟩
 have hg:g=224 ∨ g=225:=by simpa [ix] using hg
 rcases hg with rfl | rfl
 ·exact fin (AnyZI.keys_gives (ρ:=Tryz.keysA_ren) { Tryz.keysA with } Fence.wide _ trivial rfl (by omega) Bm b _ _ w hBm hm hown) (enters_of Tryz.func224 (by kernel_rfl) rfl)
 ·exact fin (AnyZI.keys_gives (ρ:=Tryz.keysB_ren) { Tryz.keysB with } Fence.wide _ trivial rfl (by omega) Bm b _ _ w hBm hm hown) (enters_of Tryz.func225 (by kernel_rfl) rfl)
theorem lib_sortedNil (g:Nat) (hg:g ∈ ix.keys) (Bm:Nat) (w:World) (hm:w.cell? ⟨Bm,0,none⟩=some (.map none)) (hBm:Bm < w.heap.size) :
 Calls Tryz.prog 158 #[.func (.func g) #[] #[.pointer (some ⟨Bm,0,none⟩)]] w fun e w' => e=.returned (.slice none 0 0)∧Below w.heap.size w w':=by
 have fin:SeqGives Fence.wide 2 Tryz.prog g #[.pointer (some ⟨Bm,0,none⟩)] encZ (fun ss:List Int => ss=[]) 0 w→(∀ args w,(callFunc g args).run Tryz.prog w=.ok (.enter g args) w) →
  Calls Tryz.prog 158 #[.func (.func g) #[] #[.pointer (some ⟨Bm,0,none⟩)]] w fun e w' => e=.returned (.slice none 0 0)∧Below w.heap.size w w':=fun hseq eg => by
  have cS:=AnyZI.sorted_in Tryz.sortedA Fence.wide 5 trivial trivial trivial trivial rfl (by omega) (Tryz.sortsA _) (enters_of Tryz.func223 (by kernel_rfl) rfl) g #[.pointer (some ⟨Bm,0,none⟩)] trivial eg _ 0 (Nat.zero_le _) (by omega) w hseq;change CallsIn _ _ Tryz.prog 158 _ _ _ at cS;refine (callsIn_wide.1 cS).mono ?_;rintro e w' ⟨v,ss,rfl,rfl,h2,h3,h4⟩;obtain rfl:v=.slice none 0 0:=h3.2 rfl;exact ⟨rfl,h4⟩
 have hg:g=224 ∨ g=225:=by simpa [ix] using hg
 rcases hg with rfl | rfl
 ·exact fin (AnyZI.keys_gives_nil (ρ:=Tryz.keysA_ren) { Tryz.keysA with } Fence.wide _ trivial rfl Bm w hBm hm) (enters_of Tryz.func224 (by kernel_rfl) rfl)
 ·exact fin (AnyZI.keys_gives_nil (ρ:=Tryz.keysB_ren) { Tryz.keysB with } Fence.wide _ trivial rfl Bm w hBm hm) (enters_of Tryz.func225 (by kernel_rfl) rfl)
set_option maxRecDepth 1000000 in
theorem libFacts:LibFacts Tryz.prog ix where
 idx:=fun args w => run_callFunc_extern Tryz.func280 (by kernel_rfl) (by kernel_rfl) (by kernel_rfl) (by kernel_rfl) args w
 cnt:=fun args w => run_callFunc_extern Tryz.func329 (by kernel_rfl) (by kernel_rfl) (by kernel_rfl) (by kernel_rfl) args w
 entS:=enters_of Tryz.func158 (by kernel_rfl) rfl
 entJ:=enters_of Tryz.func98 (by kernel_rfl) rfl
 sorted:=lib_sorted
 sortedNil:=lib_sortedNil
 joinNone:=fun a c sep w => Any.strings_Join_none Tryz.lays156 Tryz.Builder_Extra_156 a c sep w
 join:=fun bk o c xs sep w h1 h2 h3 h4 h5 => Any.strings_Join Tryz.lays156 Tryz.Builder_Extra_156 bk o c xs sep w h1 h2 h3 h4 h5
end Go.Ab
