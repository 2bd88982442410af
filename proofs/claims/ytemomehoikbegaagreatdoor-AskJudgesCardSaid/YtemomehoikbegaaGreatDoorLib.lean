/- What is proved: what this program's library functions do (slices.Sorted at the keys of a map, strings.Join, two entries of internal/bytealg). Conditions stand in each theorem. -/
import Derived.Test.YtemomehoikbegaaGreatDoorSj
import Derived.Shelf.SlIterI.Nil
import Derived.Shelf.SortM.Plain
import Derived.Shelf.SortM.SortNone
import Derived.Shelf.Strings.OnBuilder
import Derived.Ground.GgzProg
import Derived.Ground.SlgmProg
import Derived.Test.YtemomehoikbegaaGreatDoorProg
import Derived.KernelRfl
namespace Go.Proofs
open Go.Shelf
def Tryz.sortedA_ren : Go.Shelf.Ren := ⟨fun | 6 => 132 | 8 => 201 | 9 => 202 | 11 => 254 | 12 => 255 | 13 => 256 | 14 => 300 | 15 => 301 | 16 => 302 | 17 => 303 | 18 => 304 | 19 => 305 | 20 => 257 | 21 => 306 | 22 => 307 | 23 => 308 | 24 => 269 | 25 => 335 | 26 => 336 | 27 => 337 | 28 => 338 | 29 => 339 | 30 => 275 | 31 => 349 | n => n, fun | 24 => 174 | 26 => 3 | 28 => 167 | 33 => 30 | 37 => 285 | 39 => 426 | 40 => 427 | 45 => 102 | 48 => 391 | 50 => 344 | 51 => 461 | 55 => 114 | 57 => 473 | 58 => 474 | n => n, fun | n => n⟩
theorem Tryz.sortedA : Go.Proofs.SlLaysZI.n6 Tryz.prog Tryz.sortedA_ren := {
  mixed := by kernel_rfl
  f6 := ⟨Tryz.f132.name, by decide, Tryz.func132.trans (congrArg some (by kernel_rfl))⟩
  f8 := ⟨Tryz.f201.name, by decide, Tryz.func201.trans (congrArg some (by kernel_rfl))⟩
  f11 := ⟨Tryz.f254.name, by decide, Tryz.func254.trans (congrArg some (by kernel_rfl))⟩
  t0 := Tryz.underlying0
  a0 := Tryz.isAgg0
  z0 := Tryz.sizeOf0
  v0 := Tryz.zeroValue0
  t24 := Tryz.underlying174
  a24 := Tryz.isAgg174
  z24 := Tryz.sizeOf174
  v24 := Tryz.zeroValue174
  t26 := Tryz.underlying3
  a26 := Tryz.isAgg3
  z26 := Tryz.sizeOf3
  v26 := Tryz.zeroValue3
  t28 := Tryz.underlying167
  a28 := Tryz.isAgg167
  z28 := Tryz.sizeOf167
  v28 := Tryz.zeroValue167
  i26 := by kernel_rfl }
def Tryz.keysA_ren : Go.Shelf.Ren := ⟨fun | 7 => 133 | 10 => 203 | n => n, fun | 3 => 4 | 23 => 254 | 26 => 3 | 27 => 166 | 28 => 167 | 33 => 30 | n => n, fun | n => n⟩
theorem Tryz.keysA : Go.Proofs.SlLaysZI.n7 Tryz.prog Tryz.keysA_ren := {
  mixed := by kernel_rfl
  f7 := ⟨Tryz.f133.name, by decide, Tryz.func133.trans (congrArg some (by kernel_rfl))⟩
  f10 := ⟨Tryz.f203.name, by decide, Tryz.func203.trans (congrArg some (by kernel_rfl))⟩
  t0 := Tryz.underlying0
  a0 := Tryz.isAgg0
  z0 := Tryz.sizeOf0
  v0 := Tryz.zeroValue0
  t4 := Tryz.underlying4
  a4 := Tryz.isAgg4
  z4 := Tryz.sizeOf4
  v4 := Tryz.zeroValue4
  t23 := Tryz.underlying254
  a23 := Tryz.isAgg254
  z23 := Tryz.sizeOf254
  v23 := Tryz.zeroValue254
  t26 := Tryz.underlying3
  a26 := Tryz.isAgg3
  z26 := Tryz.sizeOf3
  v26 := Tryz.zeroValue3
  t27 := Tryz.underlying166
  a27 := Tryz.isAgg166
  z27 := Tryz.sizeOf166
  v27 := Tryz.zeroValue166
  t28 := Tryz.underlying167
  a28 := Tryz.isAgg167
  z28 := Tryz.sizeOf167
  v28 := Tryz.zeroValue167
  t33 := Tryz.underlying30
  a33 := Tryz.isAgg30
  z33 := Tryz.sizeOf30
  v33 := Tryz.zeroValue30 }
def Tryz.keysB_ren : Go.Shelf.Ren := ⟨fun | 7 => 137 | 10 => 204 | n => n, fun | 3 => 258 | 23 => 252 | 26 => 3 | 27 => 166 | 28 => 167 | 33 => 30 | n => n, fun | n => n⟩
theorem Tryz.keysB : Go.Proofs.SlLaysZI.n7 Tryz.prog Tryz.keysB_ren := {
  mixed := by kernel_rfl
  f7 := ⟨Tryz.f137.name, by decide, Tryz.func137.trans (congrArg some (by kernel_rfl))⟩
  f10 := ⟨Tryz.f204.name, by decide, Tryz.func204.trans (congrArg some (by kernel_rfl))⟩
  t0 := Tryz.underlying0
  a0 := Tryz.isAgg0
  z0 := Tryz.sizeOf0
  v0 := Tryz.zeroValue0
  t4 := Tryz.underlying4
  a4 := Tryz.isAgg4
  z4 := Tryz.sizeOf4
  v4 := Tryz.zeroValue4
  t23 := Tryz.underlying252
  a23 := Tryz.isAgg252
  z23 := Tryz.sizeOf252
  v23 := Tryz.zeroValue252
  t26 := Tryz.underlying3
  a26 := Tryz.isAgg3
  z26 := Tryz.sizeOf3
  v26 := Tryz.zeroValue3
  t27 := Tryz.underlying166
  a27 := Tryz.isAgg166
  z27 := Tryz.sizeOf166
  v27 := Tryz.zeroValue166
  t28 := Tryz.underlying167
  a28 := Tryz.isAgg167
  z28 := Tryz.sizeOf167
  v28 := Tryz.zeroValue167
  t33 := Tryz.underlying30
  a33 := Tryz.isAgg30
  z33 := Tryz.sizeOf30
  v33 := Tryz.zeroValue30 }
def Tryz.sortA_ren : Go.Shelf.Ren := ⟨fun | 5 => 202 | 7 => 255 | 8 => 256 | 10 => 300 | 11 => 301 | 12 => 302 | 13 => 303 | 14 => 304 | 15 => 305 | 16 => 257 | 17 => 306 | 18 => 307 | 19 => 308 | 20 => 269 | 30 => 335 | 31 => 336 | 32 => 337 | 33 => 338 | 34 => 339 | 35 => 275 | 40 => 349 | n => n, fun | 22 => 174 | 23 => 174 | 25 => 3 | 32 => 285 | 35 => 426 | 36 => 427 | 41 => 102 | 44 => 391 | 46 => 344 | 53 => 461 | 57 => 114 | 63 => 473 | 64 => 474 | n => n, fun | n => n⟩
theorem Tryz.sortA : Go.Proofs.SlLaysM.n5 Tryz.prog Tryz.sortA_ren := {
  mixed := by kernel_rfl
  f5 := ⟨Tryz.f202.name, by decide, Tryz.func202.trans (congrArg some (by kernel_rfl))⟩
  f7 := ⟨Tryz.f255.name, by decide, Tryz.func255.trans (congrArg some (by kernel_rfl))⟩
  f8 := Tryz.func256.trans (congrArg some (by kernel_rfl))
  f10 := ⟨Tryz.f300.name, by decide, Tryz.func300.trans (congrArg some (by kernel_rfl))⟩
  f11 := ⟨Tryz.f301.name, by decide, Tryz.func301.trans (congrArg some (by kernel_rfl))⟩
  f12 := ⟨Tryz.f302.name, by decide, Tryz.func302.trans (congrArg some (by kernel_rfl))⟩
  f13 := ⟨Tryz.f303.name, by decide, Tryz.func303.trans (congrArg some (by kernel_rfl))⟩
  f14 := ⟨Tryz.f304.name, by decide, Tryz.func304.trans (congrArg some (by kernel_rfl))⟩
  f15 := ⟨Tryz.f305.name, by decide, Tryz.func305.trans (congrArg some (by kernel_rfl))⟩
  f16 := ⟨Tryz.f257.name, by decide, Tryz.func257.trans (congrArg some (by kernel_rfl))⟩
  f17 := ⟨Tryz.f306.name, by decide, Tryz.func306.trans (congrArg some (by kernel_rfl))⟩
  f18 := ⟨Tryz.f307.name, by decide, Tryz.func307.trans (congrArg some (by kernel_rfl))⟩
  f19 := Tryz.func308.trans (congrArg some (by kernel_rfl))
  f20 := Tryz.func269.trans (congrArg some (by kernel_rfl))
  f30 := ⟨Tryz.f335.name, by decide, Tryz.func335.trans (congrArg some (by kernel_rfl))⟩
  f31 := Tryz.func336.trans (congrArg some (by kernel_rfl))
  f32 := Tryz.func337.trans (congrArg some (by kernel_rfl))
  f33 := ⟨Tryz.f338.name, by decide, Tryz.func338.trans (congrArg some (by kernel_rfl))⟩
  f34 := ⟨Tryz.f339.name, by decide, Tryz.func339.trans (congrArg some (by kernel_rfl))⟩
  f35 := ⟨Tryz.f275.name, by decide, Tryz.func275.trans (congrArg some (by kernel_rfl))⟩
  f40 := ⟨Tryz.f349.name, by decide, Tryz.func349.trans (congrArg some (by kernel_rfl))⟩
  t0 := Tryz.underlying0
  a0 := Tryz.isAgg0
  z0 := Tryz.sizeOf0
  v0 := Tryz.zeroValue0
  t3 := Tryz.underlying3
  a3 := Tryz.isAgg3
  z3 := Tryz.sizeOf3
  v3 := Tryz.zeroValue3
  t4 := Tryz.underlying4
  a4 := Tryz.isAgg4
  z4 := Tryz.sizeOf4
  v4 := Tryz.zeroValue4
  t5 := Tryz.underlying5
  a5 := Tryz.isAgg5
  z5 := Tryz.sizeOf5
  v5 := Tryz.zeroValue5
  t9 := Tryz.underlying9
  a9 := Tryz.isAgg9
  z9 := Tryz.sizeOf9
  v9 := Tryz.zeroValue9
  t22 := Tryz.underlying174
  a22 := Tryz.isAgg174
  z22 := Tryz.sizeOf174
  v22 := Tryz.zeroValue174
  t23 := Tryz.underlying174
  a23 := Tryz.isAgg174
  z23 := Tryz.sizeOf174
  v23 := Tryz.zeroValue174
  t25 := Tryz.underlying3
  a25 := Tryz.isAgg3
  z25 := Tryz.sizeOf3
  v25 := Tryz.zeroValue3
  t32 := Tryz.underlying285
  a32 := Tryz.isAgg285
  z32 := Tryz.sizeOf285
  v32 := Tryz.zeroValue285
  t35 := Tryz.underlying426
  a35 := Tryz.isAgg426
  z35 := Tryz.sizeOf426
  v35 := Tryz.zeroValue426
  t36 := Tryz.underlying427
  a36 := Tryz.isAgg427
  z36 := Tryz.sizeOf427
  v36 := Tryz.zeroValue427
  t41 := Tryz.underlying102
  a41 := Tryz.isAgg102
  z41 := Tryz.sizeOf102
  v41 := Tryz.zeroValue102
  t44 := Tryz.underlying391
  a44 := Tryz.isAgg391
  z44 := Tryz.sizeOf391
  v44 := Tryz.zeroValue391
  t46 := Tryz.underlying344
  a46 := Tryz.isAgg344
  z46 := Tryz.sizeOf344
  v46 := Tryz.zeroValue344
  t53 := Tryz.underlying461
  a53 := Tryz.isAgg461
  z53 := Tryz.sizeOf461
  v53 := Tryz.zeroValue461
  t57 := Tryz.underlying114
  a57 := Tryz.isAgg114
  z57 := Tryz.sizeOf114
  v57 := Tryz.zeroValue114
  t63 := Tryz.underlying473
  a63 := Tryz.isAgg473
  z63 := Tryz.sizeOf473
  v63 := Tryz.zeroValue473
  t64 := Tryz.underlying474
  a64 := Tryz.isAgg474
  z64 := Tryz.sizeOf474
  v64 := Tryz.zeroValue474 }
def Tryz.lays156_ren : Go.Shelf.Ren := ⟨fun | 156 => 65 | 165 => 104 | 166 => 105 | 169 => 106 | 240 => 163 | 241 => 164 | 276 => 224 | 277 => 225 | n => n, fun | 31 => 118 | 37 => 223 | 70 => 222 | 72 => 225 | 75 => 228 | 76 => 229 | 80 => 34 | 127 => 291 | 164 => 349 | n => n, fun | n => n⟩
theorem Tryz.lays156 : Go.Proofs.Lays.n156 Tryz.prog Tryz.lays156_ren := {
  mixed := by kernel_rfl
  f156 := Tryz.func65.trans (congrArg some (by kernel_rfl))
  f165 := Tryz.func104.trans (congrArg some (by kernel_rfl))
  f166 := Tryz.func105.trans (congrArg some (by kernel_rfl))
  f169 := Tryz.func106.trans (congrArg some (by kernel_rfl))
  f240 := Tryz.func163.trans (congrArg some (by kernel_rfl))
  f241 := Tryz.func164.trans (congrArg some (by kernel_rfl))
  f276 := Tryz.func224.trans (congrArg some (by kernel_rfl))
  f277 := Tryz.func225.trans (congrArg some (by kernel_rfl))
  t0 := Tryz.underlying0
  a0 := Tryz.isAgg0
  z0 := Tryz.sizeOf0
  v0 := Tryz.zeroValue0
  t3 := Tryz.underlying3
  a3 := Tryz.isAgg3
  z3 := Tryz.sizeOf3
  v3 := Tryz.zeroValue3
  t4 := Tryz.underlying4
  a4 := Tryz.isAgg4
  z4 := Tryz.sizeOf4
  v4 := Tryz.zeroValue4
  t9 := Tryz.underlying9
  a9 := Tryz.isAgg9
  z9 := Tryz.sizeOf9
  v9 := Tryz.zeroValue9
  t20 := Tryz.underlying20
  a20 := Tryz.isAgg20
  z20 := Tryz.sizeOf20
  v20 := Tryz.zeroValue20
  t31 := Tryz.underlying118
  a31 := Tryz.isAgg118
  z31 := Tryz.sizeOf118
  v31 := Tryz.zeroValue118
  t37 := Tryz.underlying223
  a37 := Tryz.isAgg223
  z37 := Tryz.sizeOf223
  v37 := Tryz.zeroValue223
  t70 := Tryz.underlying222
  a70 := Tryz.isAgg222
  z70 := Tryz.sizeOf222
  v70 := Tryz.zeroValue222
  t72 := Tryz.underlying225
  a72 := Tryz.isAgg225
  z72 := Tryz.sizeOf225
  v72 := Tryz.zeroValue225
  t75 := Tryz.underlying228
  a75 := Tryz.isAgg228
  z75 := Tryz.sizeOf228
  v75 := Tryz.zeroValue228
  t76 := Tryz.underlying229
  a76 := Tryz.isAgg229
  z76 := Tryz.sizeOf229
  v76 := Tryz.zeroValue229
  t127 := Tryz.underlying291
  a127 := Tryz.isAgg291
  z127 := Tryz.sizeOf291
  v127 := Tryz.zeroValue291
  t164 := Tryz.underlying349
  a164 := Tryz.isAgg349
  z164 := Tryz.sizeOf349
  v164 := Tryz.zeroValue349 }
end Go.Proofs

namespace Go.Proofs
open Go.RowKit Go.Maps Go.Sort Go.Shelf Go.WideElems Go.ChangeShapes Go.WideShapes
theorem Tryz.Builder_Extra_156 : Builder.Extra Tryz.prog Tryz.lays156_ren := {
  sizeBuilder := by kernel_rfl
  liesBuilder := by kernel_rfl
  t5 := Tryz.underlying5
  a5 := Tryz.isAgg5
  z5 := Tryz.sizeOf5
  v5 := Tryz.zeroValue5
  infoByte := by kernel_rfl
  cellsByte := by kernel_rfl
  sizeByte := by kernel_rfl
  neB5 := by decide }
theorem Tryz.sortsA (m : Nat) : AnyZI.SortsIn Tryz.prog Tryz.sortedA_ren Fence.wide m :=
  ⟨fun blk off cap ss W hH hblk hsz => callsIn_wide.2 (AnyM.slices_Sort_int Tryz.sortA blk off cap ss W hH hblk hsz),
   fun p cap W => callsIn_wide.2 (AnyM.slices_Sort_int_none Tryz.sortA p cap W)⟩
end Go.Proofs
namespace Go.Ab
open Go.Proofs Go.RowKit Go.Maps Go.Sort Go.Shelf Go.WideElems Go.ChangeShapes Go.WideShapes
/-- how the values of a map read: it does not matter -/
def anyR : Value → Option (DataW Unit × List MemPlace) := fun _ => some (.nil, [])
theorem wf64 {n : Int} (h : fits64 n = true) : (Lit.int .i64 n).wf = true := by
  unfold fits64 at h
  show (decide (IntKind.i64.min ≤ n) && decide (n ≤ IntKind.i64.max)) = true
  have e1 : IntKind.i64.min = -9223372036854775808 := by decide
  have e2 : IntKind.i64.max = 9223372036854775807 := by decide
  rw [e1, e2]
  cases n with
  | ofNat m => have := ble_iff.1 h; simp; omega
  | negSucc m => have := ble_iff.1 h; simp; omega
section
variable {P : Program} {k : TypeId} {es : Array MapEntry} {clock : Nat} {w : World} {b : Nat}
theorem rd_of (hk : P.underlying k = some (.int .i64)) {x : MapEntry} {n : Int} (hx : x.key = .int .i64 n) (hf : fits64 n = true) : WideElems.rd P k anyR x = some (.int .i64 n, .nil) := by
  unfold WideElems.rd
  rw [hx]
  have : keyOf P k (.int .i64 n) = some (.int .i64 n) := by simp [keyOf, hk, mapKey, wf64 hf]
  rw [this]; rfl
theorem ownsMap_of (hk : P.underlying k = some (.int .i64)) (hb : w.heap[b]? = some (.map es clock)) (hs : MapKept.Stamped es clock) (hz : es.size ≤ 1000000) (he : ∀ x, x ∈ es.toList → ∃ n : Int, x.key = .int .i64 n ∧ fits64 n = true) :
    w.ownsMap P k anyR b es.size (.map ((es.toList.map (rg P k anyR)).foldr DataW.insert [])) :=
  ⟨es, clock, hb, ⟨by unfold maxLen; omega, hs, fun x hx => by obtain ⟨n, h1, h2⟩ := he x hx; exact ⟨_, rd_of hk h1 h2⟩⟩, Nat.le_refl _, rfl⟩
theorem size_of : Maps.size (.map ((es.toList.map (rg P k anyR)).foldr DataW.insert []) : DataW Unit) = es.size := by
  show ((es.toList.map (rg P k anyR)).foldr DataW.insert []).length = _
  rw [(sorted_perm _).length_eq]; simp
theorem keys_of (hk : P.underlying k = some (.int .i64)) (he : ∀ x, x ∈ es.toList → ∃ n : Int, x.key = .int .i64 n ∧ fits64 n = true) {ss : List Int}
    (h : ss.Perm (intKeys (.map ((es.toList.map (rg P k anyR)).foldr DataW.insert []) : DataW Unit))) : (ss.map encZ).Perm (es.toList.map (·.key)) := by
  have h : ss.Perm (((es.toList.map (rg P k anyR)).foldr DataW.insert []).map fun p => Go.intOf p.1) := h
  have h1 := (h.map encZ).trans (((sorted_perm (es.toList.map (rg P k anyR))).map fun p => Go.intOf p.1).map encZ)
  refine h1.trans (.of_eq ?_)
  rw [List.map_map, List.map_map]
  refine List.map_congr_left fun x hx => ?_
  obtain ⟨n, h1, h2⟩ := he x hx
  show encZ (Go.intOf (rg P k anyR x).1) = x.key
  unfold rg
  rw [rd_of hk h1 h2, h1]; rfl
end
def ix : Ix := ⟨132, [203, 204], 261, 313, 65⟩
theorem lib_sorted (g : Nat) (hg : g ∈ ix.keys) (Bm b : Nat) (es : Array MapEntry) (clock : Nat) (w : World) (hm : w.cell? ⟨Bm, 0, none⟩ = some (.map (some b))) (hb : w.heap[b]? = some (.map es clock)) (hs : MapKept.Stamped es clock) (hz : es.size ≤ 1000000)
    (he : ∀ x, x ∈ es.toList → ∃ n : Int, x.key = .int .i64 n ∧ fits64 n = true) (hBm : Bm < w.heap.size) :
    Calls Tryz.prog 132 #[.func (.func g) #[] #[.pointer (some ⟨Bm, 0, none⟩)]] w fun e w' => ∃ (v : Value) (ss : List Int) (t : Nat), e = .returned v ∧ (ss.map encZ).Perm (es.toList.map (·.key)) ∧
      w'.ownsRow w.heap.size t 1 v ss.length ((ss.mergeSort leI).map encZ) ∧ (v = .slice none 0 0 ↔ ss = []) ∧ Below w.heap.size w w' := by
  have hu : Tryz.prog.underlying 3 = some (.int .i64) := by kernel_rfl
  have hown := ownsMap_of hu hb hs hz he
  have hsize := size_of (P := Tryz.prog) (k := 3) (es := es)
  have fin : SeqGives Fence.wide 2 Tryz.prog g #[.pointer (some ⟨Bm, 0, none⟩)] encZ (fun ss => ss.Perm (intKeys (.map ((es.toList.map (rg Tryz.prog 3 anyR)).foldr DataW.insert []) : DataW Unit))) (Maps.size (.map ((es.toList.map (rg Tryz.prog 3 anyR)).foldr DataW.insert []) : DataW Unit)) w → (∀ args w, (callFunc g args).run Tryz.prog w = .ok (.enter g args) w) →
      Calls Tryz.prog 132 #[.func (.func g) #[] #[.pointer (some ⟨Bm, 0, none⟩)]] w fun e w' => ∃ (v : Value) (ss : List Int) (t : Nat), e = .returned v ∧ (ss.map encZ).Perm (es.toList.map (·.key)) ∧
      w'.ownsRow w.heap.size t 1 v ss.length ((ss.mergeSort leI).map encZ) ∧ (v = .slice none 0 0 ↔ ss = []) ∧ Below w.heap.size w w' := fun hseq eg => by
    have cS := AnyZI.sorted_in Tryz.sortedA Fence.wide 5 trivial trivial trivial trivial rfl (by omega) (Tryz.sortsA _) (enters_of Tryz.func202 (by kernel_rfl) rfl) g #[.pointer (some ⟨Bm, 0, none⟩)] trivial eg _ _ (by rw [hsize]; unfold maxLen; omega) (by rw [hsize]; omega) w hseq
    change CallsIn _ _ Tryz.prog 132 _ _ _ at cS
    refine (callsIn_wide.1 cS).mono ?_
    rintro e w' ⟨v, ss, rfl, h1, h2, h3, h4⟩
    exact ⟨v, ss, 3, rfl, keys_of hu he h1, h2, h3, h4⟩
  have hg : g = 203 ∨ g = 204 := by simpa [ix] using hg
  rcases hg with rfl | rfl
  · exact fin (AnyZI.keys_gives (ρ := Tryz.keysA_ren) { Tryz.keysA with } Fence.wide _ trivial rfl (by omega) Bm b _ _ w hBm hm hown) (enters_of Tryz.func203 (by kernel_rfl) rfl)
  · exact fin (AnyZI.keys_gives (ρ := Tryz.keysB_ren) { Tryz.keysB with } Fence.wide _ trivial rfl (by omega) Bm b _ _ w hBm hm hown) (enters_of Tryz.func204 (by kernel_rfl) rfl)
theorem lib_sortedNil (g : Nat) (hg : g ∈ ix.keys) (Bm : Nat) (w : World) (hm : w.cell? ⟨Bm, 0, none⟩ = some (.map none)) (hBm : Bm < w.heap.size) :
    Calls Tryz.prog 132 #[.func (.func g) #[] #[.pointer (some ⟨Bm, 0, none⟩)]] w fun e w' => e = .returned (.slice none 0 0) ∧ Below w.heap.size w w' := by
  have fin : SeqGives Fence.wide 2 Tryz.prog g #[.pointer (some ⟨Bm, 0, none⟩)] encZ (fun ss : List Int => ss = []) 0 w → (∀ args w, (callFunc g args).run Tryz.prog w = .ok (.enter g args) w) →
      Calls Tryz.prog 132 #[.func (.func g) #[] #[.pointer (some ⟨Bm, 0, none⟩)]] w fun e w' => e = .returned (.slice none 0 0) ∧ Below w.heap.size w w' := fun hseq eg => by
    have cS := AnyZI.sorted_in Tryz.sortedA Fence.wide 5 trivial trivial trivial trivial rfl (by omega) (Tryz.sortsA _) (enters_of Tryz.func202 (by kernel_rfl) rfl) g #[.pointer (some ⟨Bm, 0, none⟩)] trivial eg _ 0 (Nat.zero_le _) (by omega) w hseq
    change CallsIn _ _ Tryz.prog 132 _ _ _ at cS
    refine (callsIn_wide.1 cS).mono ?_
    rintro e w' ⟨v, ss, rfl, rfl, h2, h3, h4⟩
    obtain rfl : v = .slice none 0 0 := h3.2 rfl
    exact ⟨rfl, h4⟩
  have hg : g = 203 ∨ g = 204 := by simpa [ix] using hg
  rcases hg with rfl | rfl
  · exact fin (AnyZI.keys_gives_nil (ρ := Tryz.keysA_ren) { Tryz.keysA with } Fence.wide _ trivial rfl Bm w hBm hm) (enters_of Tryz.func203 (by kernel_rfl) rfl)
  · exact fin (AnyZI.keys_gives_nil (ρ := Tryz.keysB_ren) { Tryz.keysB with } Fence.wide _ trivial rfl Bm w hBm hm) (enters_of Tryz.func204 (by kernel_rfl) rfl)
theorem libFacts : LibFacts Tryz.prog ix where
  idx := fun args w => run_callFunc_extern Tryz.func261 (by kernel_rfl) (by kernel_rfl) (by kernel_rfl) (by kernel_rfl) args w
  cnt := fun args w => run_callFunc_extern Tryz.func313 (by kernel_rfl) (by kernel_rfl) (by kernel_rfl) (by kernel_rfl) args w
  entS := enters_of Tryz.func132 (by kernel_rfl) rfl
  entJ := enters_of Tryz.func65 (by kernel_rfl) rfl
  sorted := lib_sorted
  sortedNil := lib_sortedNil
  joinNone := fun a c sep w => Any.strings_Join_none Tryz.lays156 Tryz.Builder_Extra_156 a c sep w
  join := fun bk o c xs sep w h1 h2 h3 h4 h5 => Any.strings_Join Tryz.lays156 Tryz.Builder_Extra_156 bk o c xs sep w h1 h2 h3 h4 h5
end Go.Ab
