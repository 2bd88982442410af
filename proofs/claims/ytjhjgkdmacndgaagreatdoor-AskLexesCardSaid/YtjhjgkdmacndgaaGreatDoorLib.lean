/- What is proved: what this program's library functions do (slices.Sorted at the keys of a map, strings.Join, two entries of internal/bytealg). Conditions stand in each theorem. -/
import Derived.Test.YtjhjgkdmacndgaaGreatDoorSj
import Derived.Shelf.SlIterI.Nil
import Derived.Shelf.SortM.Plain
import Derived.Shelf.SortM.SortNone
import Derived.Shelf.Strings.OnBuilder
import Derived.Ground.GgzProg
import Derived.Ground.SlgmProg
import Derived.Test.YtjhjgkdmacndgaaGreatDoorProg
import Derived.KernelRfl
set_option linter.unusedVariables false
set_option linter.unusedSimpArgs false
namespace Go.Proofs
open Go.Shelf
def Tryz.sortedA_ren : Go.Shelf.Ren := ⟨fun | 6 => 141 | 8 => 207 | 9 => 208 | 11 => 260 | 12 => 261 | 13 => 262 | 14 => 305 | 15 => 306 | 16 => 307 | 17 => 308 | 18 => 309 | 19 => 310 | 20 => 263 | 21 => 311 | 22 => 312 | 23 => 313 | 24 => 274 | 25 => 340 | 26 => 341 | 27 => 342 | 28 => 343 | 29 => 344 | 30 => 280 | 31 => 354 | n => n, fun | 24 => 183 | 26 => 3 | 28 => 176 | 33 => 107 | 37 => 223 | 39 => 434 | 40 => 435 | 45 => 75 | 48 => 399 | 50 => 352 | 51 => 467 | 55 => 124 | 57 => 479 | 58 => 480 | n => n, fun | n => n⟩
theorem Tryz.sortedA : Go.Proofs.SlLaysZI.n6 Tryz.prog Tryz.sortedA_ren := {
  mixed := by kernel_rfl
  f6 := ⟨Tryz.f141.name, by decide, Tryz.func141.trans (congrArg some (by kernel_rfl))⟩
  f8 := ⟨Tryz.f207.name, by decide, Tryz.func207.trans (congrArg some (by kernel_rfl))⟩
  f11 := ⟨Tryz.f260.name, by decide, Tryz.func260.trans (congrArg some (by kernel_rfl))⟩
  t0 := Tryz.underlying0
  a0 := Tryz.isAgg0
  z0 := Tryz.sizeOf0
  v0 := Tryz.zeroValue0
  t24 := Tryz.underlying183
  a24 := Tryz.isAgg183
  z24 := Tryz.sizeOf183
  v24 := Tryz.zeroValue183
  t26 := Tryz.underlying3
  a26 := Tryz.isAgg3
  z26 := Tryz.sizeOf3
  v26 := Tryz.zeroValue3
  t28 := Tryz.underlying176
  a28 := Tryz.isAgg176
  z28 := Tryz.sizeOf176
  v28 := Tryz.zeroValue176
  i26 := by kernel_rfl }
def Tryz.keysA_ren : Go.Shelf.Ren := ⟨fun | 7 => 142 | 10 => 209 | n => n, fun | 3 => 4 | 23 => 266 | 26 => 3 | 27 => 175 | 28 => 176 | 33 => 107 | n => n, fun | n => n⟩
theorem Tryz.keysA : Go.Proofs.SlLaysZI.n7 Tryz.prog Tryz.keysA_ren := {
  mixed := by kernel_rfl
  f7 := ⟨Tryz.f142.name, by decide, Tryz.func142.trans (congrArg some (by kernel_rfl))⟩
  f10 := ⟨Tryz.f209.name, by decide, Tryz.func209.trans (congrArg some (by kernel_rfl))⟩
  t0 := Tryz.underlying0
  a0 := Tryz.isAgg0
  z0 := Tryz.sizeOf0
  v0 := Tryz.zeroValue0
  t4 := Tryz.underlying4
  a4 := Tryz.isAgg4
  z4 := Tryz.sizeOf4
  v4 := Tryz.zeroValue4
  t23 := Tryz.underlying266
  a23 := Tryz.isAgg266
  z23 := Tryz.sizeOf266
  v23 := Tryz.zeroValue266
  t26 := Tryz.underlying3
  a26 := Tryz.isAgg3
  z26 := Tryz.sizeOf3
  v26 := Tryz.zeroValue3
  t27 := Tryz.underlying175
  a27 := Tryz.isAgg175
  z27 := Tryz.sizeOf175
  v27 := Tryz.zeroValue175
  t28 := Tryz.underlying176
  a28 := Tryz.isAgg176
  z28 := Tryz.sizeOf176
  v28 := Tryz.zeroValue176
  t33 := Tryz.underlying107
  a33 := Tryz.isAgg107
  z33 := Tryz.sizeOf107
  v33 := Tryz.zeroValue107 }
def Tryz.keysB_ren : Go.Shelf.Ren := ⟨fun | 7 => 146 | 10 => 210 | n => n, fun | 3 => 270 | 23 => 264 | 26 => 3 | 27 => 175 | 28 => 176 | 33 => 107 | n => n, fun | n => n⟩
theorem Tryz.keysB : Go.Proofs.SlLaysZI.n7 Tryz.prog Tryz.keysB_ren := {
  mixed := by kernel_rfl
  f7 := ⟨Tryz.f146.name, by decide, Tryz.func146.trans (congrArg some (by kernel_rfl))⟩
  f10 := ⟨Tryz.f210.name, by decide, Tryz.func210.trans (congrArg some (by kernel_rfl))⟩
  t0 := Tryz.underlying0
  a0 := Tryz.isAgg0
  z0 := Tryz.sizeOf0
  v0 := Tryz.zeroValue0
  t4 := Tryz.underlying4
  a4 := Tryz.isAgg4
  z4 := Tryz.sizeOf4
  v4 := Tryz.zeroValue4
  t23 := Tryz.underlying264
  a23 := Tryz.isAgg264
  z23 := Tryz.sizeOf264
  v23 := Tryz.zeroValue264
  t26 := Tryz.underlying3
  a26 := Tryz.isAgg3
  z26 := Tryz.sizeOf3
  v26 := Tryz.zeroValue3
  t27 := Tryz.underlying175
  a27 := Tryz.isAgg175
  z27 := Tryz.sizeOf175
  v27 := Tryz.zeroValue175
  t28 := Tryz.underlying176
  a28 := Tryz.isAgg176
  z28 := Tryz.sizeOf176
  v28 := Tryz.zeroValue176
  t33 := Tryz.underlying107
  a33 := Tryz.isAgg107
  z33 := Tryz.sizeOf107
  v33 := Tryz.zeroValue107 }
def Tryz.sortA_ren : Go.Shelf.Ren := ⟨fun | 5 => 208 | 7 => 261 | 8 => 262 | 10 => 305 | 11 => 306 | 12 => 307 | 13 => 308 | 14 => 309 | 15 => 310 | 16 => 263 | 17 => 311 | 18 => 312 | 19 => 313 | 20 => 274 | 30 => 340 | 31 => 341 | 32 => 342 | 33 => 343 | 34 => 344 | 35 => 280 | 40 => 354 | n => n, fun | 22 => 183 | 23 => 183 | 25 => 3 | 32 => 223 | 35 => 434 | 36 => 435 | 41 => 75 | 44 => 399 | 46 => 352 | 53 => 467 | 57 => 124 | 63 => 479 | 64 => 480 | n => n, fun | n => n⟩
theorem Tryz.sortA : Go.Proofs.SlLaysM.n5 Tryz.prog Tryz.sortA_ren := {
  mixed := by kernel_rfl
  f5 := ⟨Tryz.f208.name, by decide, Tryz.func208.trans (congrArg some (by kernel_rfl))⟩
  f7 := ⟨Tryz.f261.name, by decide, Tryz.func261.trans (congrArg some (by kernel_rfl))⟩
  f8 := Tryz.func262.trans (congrArg some (by kernel_rfl))
  f10 := ⟨Tryz.f305.name, by decide, Tryz.func305.trans (congrArg some (by kernel_rfl))⟩
  f11 := ⟨Tryz.f306.name, by decide, Tryz.func306.trans (congrArg some (by kernel_rfl))⟩
  f12 := ⟨Tryz.f307.name, by decide, Tryz.func307.trans (congrArg some (by kernel_rfl))⟩
  f13 := ⟨Tryz.f308.name, by decide, Tryz.func308.trans (congrArg some (by kernel_rfl))⟩
  f14 := ⟨Tryz.f309.name, by decide, Tryz.func309.trans (congrArg some (by kernel_rfl))⟩
  f15 := ⟨Tryz.f310.name, by decide, Tryz.func310.trans (congrArg some (by kernel_rfl))⟩
  f16 := ⟨Tryz.f263.name, by decide, Tryz.func263.trans (congrArg some (by kernel_rfl))⟩
  f17 := ⟨Tryz.f311.name, by decide, Tryz.func311.trans (congrArg some (by kernel_rfl))⟩
  f18 := ⟨Tryz.f312.name, by decide, Tryz.func312.trans (congrArg some (by kernel_rfl))⟩
  f19 := Tryz.func313.trans (congrArg some (by kernel_rfl))
  f20 := Tryz.func274.trans (congrArg some (by kernel_rfl))
  f30 := ⟨Tryz.f340.name, by decide, Tryz.func340.trans (congrArg some (by kernel_rfl))⟩
  f31 := Tryz.func341.trans (congrArg some (by kernel_rfl))
  f32 := Tryz.func342.trans (congrArg some (by kernel_rfl))
  f33 := ⟨Tryz.f343.name, by decide, Tryz.func343.trans (congrArg some (by kernel_rfl))⟩
  f34 := ⟨Tryz.f344.name, by decide, Tryz.func344.trans (congrArg some (by kernel_rfl))⟩
  f35 := ⟨Tryz.f280.name, by decide, Tryz.func280.trans (congrArg some (by kernel_rfl))⟩
  f40 := ⟨Tryz.f354.name, by decide, Tryz.func354.trans (congrArg some (by kernel_rfl))⟩
  t0 := Tryz.underlying0
  a0 := Tryz.isAgg0
  z0 := Tryz.sizeOf0
  v0 := Tryz.zeroValue0
  t3 := Tryz.underlying3
  a3 := Tryz.isAgg3
  z3 := Tryz.sizeOf3
  v3 := Tryz.zeroValue3
  t4 := Tryz.underlying4
  a4 := Tryz.isAgg4
  z4 := Tryz.sizeOf4
  v4 := Tryz.zeroValue4
  t5 := Tryz.underlying5
  a5 := Tryz.isAgg5
  z5 := Tryz.sizeOf5
  v5 := Tryz.zeroValue5
  t9 := Tryz.underlying9
  a9 := Tryz.isAgg9
  z9 := Tryz.sizeOf9
  v9 := Tryz.zeroValue9
  t22 := Tryz.underlying183
  a22 := Tryz.isAgg183
  z22 := Tryz.sizeOf183
  v22 := Tryz.zeroValue183
  t23 := Tryz.underlying183
  a23 := Tryz.isAgg183
  z23 := Tryz.sizeOf183
  v23 := Tryz.zeroValue183
  t25 := Tryz.underlying3
  a25 := Tryz.isAgg3
  z25 := Tryz.sizeOf3
  v25 := Tryz.zeroValue3
  t32 := Tryz.underlying223
  a32 := Tryz.isAgg223
  z32 := Tryz.sizeOf223
  v32 := Tryz.zeroValue223
  t35 := Tryz.underlying434
  a35 := Tryz.isAgg434
  z35 := Tryz.sizeOf434
  v35 := Tryz.zeroValue434
  t36 := Tryz.underlying435
  a36 := Tryz.isAgg435
  z36 := Tryz.sizeOf435
  v36 := Tryz.zeroValue435
  t41 := Tryz.underlying75
  a41 := Tryz.isAgg75
  z41 := Tryz.sizeOf75
  v41 := Tryz.zeroValue75
  t44 := Tryz.underlying399
  a44 := Tryz.isAgg399
  z44 := Tryz.sizeOf399
  v44 := Tryz.zeroValue399
  t46 := Tryz.underlying352
  a46 := Tryz.isAgg352
  z46 := Tryz.sizeOf352
  v46 := Tryz.zeroValue352
  t53 := Tryz.underlying467
  a53 := Tryz.isAgg467
  z53 := Tryz.sizeOf467
  v53 := Tryz.zeroValue467
  t57 := Tryz.underlying124
  a57 := Tryz.isAgg124
  z57 := Tryz.sizeOf124
  v57 := Tryz.zeroValue124
  t63 := Tryz.underlying479
  a63 := Tryz.isAgg479
  z63 := Tryz.sizeOf479
  v63 := Tryz.zeroValue479
  t64 := Tryz.underlying480
  a64 := Tryz.isAgg480
  z64 := Tryz.sizeOf480
  v64 := Tryz.zeroValue480 }
def Tryz.lays156_ren : Go.Shelf.Ren := ⟨fun | 156 => 71 | 165 => 113 | 166 => 114 | 169 => 115 | 240 => 169 | 241 => 170 | 276 => 230 | 277 => 231 | n => n, fun | 31 => 114 | 37 => 235 | 70 => 234 | 72 => 237 | 75 => 240 | 76 => 241 | 80 => 35 | 127 => 299 | 164 => 357 | n => n, fun | n => n⟩
theorem Tryz.lays156 : Go.Proofs.Lays.n156 Tryz.prog Tryz.lays156_ren := {
  mixed := by kernel_rfl
  f156 := Tryz.func71.trans (congrArg some (by kernel_rfl))
  f165 := Tryz.func113.trans (congrArg some (by kernel_rfl))
  f166 := Tryz.func114.trans (congrArg some (by kernel_rfl))
  f169 := Tryz.func115.trans (congrArg some (by kernel_rfl))
  f240 := Tryz.func169.trans (congrArg some (by kernel_rfl))
  f241 := Tryz.func170.trans (congrArg some (by kernel_rfl))
  f276 := Tryz.func230.trans (congrArg some (by kernel_rfl))
  f277 := Tryz.func231.trans (congrArg some (by kernel_rfl))
  t0 := Tryz.underlying0
  a0 := Tryz.isAgg0
  z0 := Tryz.sizeOf0
  v0 := Tryz.zeroValue0
  t3 := Tryz.underlying3
  a3 := Tryz.isAgg3
  z3 := Tryz.sizeOf3
  v3 := Tryz.zeroValue3
  t4 := Tryz.underlying4
  a4 := Tryz.isAgg4
  z4 := Tryz.sizeOf4
  v4 := Tryz.zeroValue4
  t9 := Tryz.underlying9
  a9 := Tryz.isAgg9
  z9 := Tryz.sizeOf9
  v9 := Tryz.zeroValue9
  t20 := Tryz.underlying20
  a20 := Tryz.isAgg20
  z20 := Tryz.sizeOf20
  v20 := Tryz.zeroValue20
  t31 := Tryz.underlying114
  a31 := Tryz.isAgg114
  z31 := Tryz.sizeOf114
  v31 := Tryz.zeroValue114
  t37 := Tryz.underlying235
  a37 := Tryz.isAgg235
  z37 := Tryz.sizeOf235
  v37 := Tryz.zeroValue235
  t70 := Tryz.underlying234
  a70 := Tryz.isAgg234
  z70 := Tryz.sizeOf234
  v70 := Tryz.zeroValue234
  t72 := Tryz.underlying237
  a72 := Tryz.isAgg237
  z72 := Tryz.sizeOf237
  v72 := Tryz.zeroValue237
  t75 := Tryz.underlying240
  a75 := Tryz.isAgg240
  z75 := Tryz.sizeOf240
  v75 := Tryz.zeroValue240
  t76 := Tryz.underlying241
  a76 := Tryz.isAgg241
  z76 := Tryz.sizeOf241
  v76 := Tryz.zeroValue241
  t127 := Tryz.underlying299
  a127 := Tryz.isAgg299
  z127 := Tryz.sizeOf299
  v127 := Tryz.zeroValue299
  t164 := Tryz.underlying357
  a164 := Tryz.isAgg357
  z164 := Tryz.sizeOf357
  v164 := Tryz.zeroValue357 }
end Go.Proofs
namespace Go.Proofs
open Go.RowKit Go.Maps Go.Sort Go.Shelf Go.WideElems Go.ChangeShapes Go.WideShapes
theorem Tryz.Builder_Extra_156 : Builder.Extra Tryz.prog Tryz.lays156_ren := {
  sizeBuilder := by kernel_rfl
  liesBuilder := by kernel_rfl
  t5 := Tryz.underlying5
  a5 := Tryz.isAgg5
  z5 := Tryz.sizeOf5
  v5 := Tryz.zeroValue5
  infoByte := by kernel_rfl
  cellsByte := by kernel_rfl
  sizeByte := by kernel_rfl
  neB5 := by decide }
theorem Tryz.sortsA (m : Nat) : AnyZI.SortsIn Tryz.prog Tryz.sortedA_ren Fence.wide m :=
  ⟨fun blk off cap ss W hH hblk hsz => callsIn_wide.2 (AnyM.slices_Sort_int Tryz.sortA blk off cap ss W hH hblk hsz),
   fun p cap W => callsIn_wide.2 (AnyM.slices_Sort_int_none Tryz.sortA p cap W)⟩
end Go.Proofs
namespace Go.Ab
open Go.Proofs Go.RowKit Go.Maps Go.Sort Go.Shelf Go.WideElems Go.ChangeShapes Go.WideShapes
/-- how the values of a map read: it does not matter -/
def anyR : Value → Option (DataW Unit × List MemPlace) := fun _ => some (.nil, [])
theorem wf64 {n : Int} (h : fits64 n = true) : (Lit.int .i64 n).wf = true := by
  unfold fits64 at h
  show (decide (IntKind.i64.min ≤ n) && decide (n ≤ IntKind.i64.max)) = true
  have e1 : IntKind.i64.min = -9223372036854775808 := by decide
  have e2 : IntKind.i64.max = 9223372036854775807 := by decide
  rw [e1, e2]
  cases n with
  | ofNat m => have := ble_iff.1 h; simp; omega
  | negSucc m => have := ble_iff.1 h; simp; omega
section
variable {P : Program} {k : TypeId} {es : Array MapEntry} {clock : Nat} {w : World} {b : Nat}
theorem rd_of (hk : P.underlying k = some (.int .i64)) {x : MapEntry} {n : Int} (hx : x.key = .int .i64 n) (hf : fits64 n = true) : WideElems.rd P k anyR x = some (.int .i64 n, .nil) := by
  unfold WideElems.rd
  rw [hx]
  have : keyOf P k (.int .i64 n) = some (.int .i64 n) := by simp [keyOf, hk, mapKey, wf64 hf]
  rw [this]; rfl
theorem ownsMap_of (hk : P.underlying k = some (.int .i64)) (hb : w.heap[b]? = some (.map es clock)) (hs : MapKept.Stamped es clock) (hz : es.size ≤ 1000000) (he : ∀ x, x ∈ es.toList → ∃ n : Int, x.key = .int .i64 n ∧ fits64 n = true) :
    w.ownsMap P k anyR b es.size (.map ((es.toList.map (rg P k anyR)).foldr DataW.insert [])) :=
  ⟨es, clock, hb, ⟨by unfold maxLen; omega, hs, fun x hx => by obtain ⟨n, h1, h2⟩ := he x hx; exact ⟨_, rd_of hk h1 h2⟩⟩, Nat.le_refl _, rfl⟩
theorem size_of : Maps.size (.map ((es.toList.map (rg P k anyR)).foldr DataW.insert []) : DataW Unit) = es.size := by
  show ((es.toList.map (rg P k anyR)).foldr DataW.insert []).length = _
  rw [(sorted_perm _).length_eq]; simp
theorem keys_of (hk : P.underlying k = some (.int .i64)) (he : ∀ x, x ∈ es.toList → ∃ n : Int, x.key = .int .i64 n ∧ fits64 n = true) {ss : List Int}
    (h : ss.Perm (intKeys (.map ((es.toList.map (rg P k anyR)).foldr DataW.insert []) : DataW Unit))) : (ss.map encZ).Perm (es.toList.map (·.key)) := by
  have h : ss.Perm (((es.toList.map (rg P k anyR)).foldr DataW.insert []).map fun p => Go.intOf p.1) := h
  have h1 := (h.map encZ).trans (((sorted_perm (es.toList.map (rg P k anyR))).map fun p => Go.intOf p.1).map encZ)
  refine h1.trans (.of_eq ?_)
  rw [List.map_map, List.map_map]
  refine List.map_congr_left fun x hx => ?_
  obtain ⟨n, h1, h2⟩ := he x hx
  show encZ (Go.intOf (rg P k anyR x).1) = x.key
  unfold rg
  rw [rd_of hk h1 h2, h1]; rfl
end
def ix : Ix := ⟨141, [209, 210], 219, 318, 71⟩
theorem lib_sorted (g : Nat) (hg : g ∈ ix.keys) (Bm b : Nat) (es : Array MapEntry) (clock : Nat) (w : World) (hm : w.cell? ⟨Bm, 0, none⟩ = some (.map (some b))) (hb : w.heap[b]? = some (.map es clock)) (hs : MapKept.Stamped es clock) (hz : es.size ≤ 1000000)
    (he : ∀ x, x ∈ es.toList → ∃ n : Int, x.key = .int .i64 n ∧ fits64 n = true) (hBm : Bm < w.heap.size) :
    Calls Tryz.prog 141 #[.func (.func g) #[] #[.pointer (some ⟨Bm, 0, none⟩)]] w fun e w' => ∃ (v : Value) (ss : List Int) (t : Nat), e = .returned v ∧ (ss.map encZ).Perm (es.toList.map (·.key)) ∧
      w'.ownsRow w.heap.size t 1 v ss.length ((ss.mergeSort leI).map encZ) ∧ (v = .slice none 0 0 ↔ ss = []) ∧ Below w.heap.size w w' := by
  have hu : Tryz.prog.underlying 3 = some (.int .i64) := by kernel_rfl
  have hown := ownsMap_of hu hb hs hz he
  have hsize := size_of (P := Tryz.prog) (k := 3) (es := es)
  have fin : SeqGives Fence.wide 2 Tryz.prog g #[.pointer (some ⟨Bm, 0, none⟩)] encZ (fun ss => ss.Perm (intKeys (.map ((es.toList.map (rg Tryz.prog 3 anyR)).foldr DataW.insert []) : DataW Unit))) (Maps.size (.map ((es.toList.map (rg Tryz.prog 3 anyR)).foldr DataW.insert []) : DataW Unit)) w → (∀ args w, (callFunc g args).run Tryz.prog w = .ok (.enter g args) w) →
      Calls Tryz.prog 141 #[.func (.func g) #[] #[.pointer (some ⟨Bm, 0, none⟩)]] w fun e w' => ∃ (v : Value) (ss : List Int) (t : Nat), e = .returned v ∧ (ss.map encZ).Perm (es.toList.map (·.key)) ∧
      w'.ownsRow w.heap.size t 1 v ss.length ((ss.mergeSort leI).map encZ) ∧ (v = .slice none 0 0 ↔ ss = []) ∧ Below w.heap.size w w' := fun hseq eg => by
    have cS := AnyZI.sorted_in Tryz.sortedA Fence.wide 5 trivial trivial trivial trivial rfl (by omega) (Tryz.sortsA _) (enters_of Tryz.func208 (by kernel_rfl) rfl) g #[.pointer (some ⟨Bm, 0, none⟩)] trivial eg _ _ (by rw [hsize]; unfold maxLen; omega) (by rw [hsize]; omega) w hseq
    change CallsIn _ _ Tryz.prog 141 _ _ _ at cS
    refine (callsIn_wide.1 cS).mono ?_
    rintro e w' ⟨v, ss, rfl, h1, h2, h3, h4⟩
    exact ⟨v, ss, 3, rfl, keys_of hu he h1, h2, h3, h4⟩
  have hg : g = 209 ∨ g = 210 := by simpa [ix] using hg
  rcases hg with rfl | rfl
  · exact fin (AnyZI.keys_gives (ρ := Tryz.keysA_ren) { Tryz.keysA with } Fence.wide _ trivial rfl (by omega) Bm b _ _ w hBm hm hown) (enters_of Tryz.func209 (by kernel_rfl) rfl)
  · exact fin (AnyZI.keys_gives (ρ := Tryz.keysB_ren) { Tryz.keysB with } Fence.wide _ trivial rfl (by omega) Bm b _ _ w hBm hm hown) (enters_of Tryz.func210 (by kernel_rfl) rfl)
theorem lib_sortedNil (g : Nat) (hg : g ∈ ix.keys) (Bm : Nat) (w : World) (hm : w.cell? ⟨Bm, 0, none⟩ = some (.map none)) (hBm : Bm < w.heap.size) :
    Calls Tryz.prog 141 #[.func (.func g) #[] #[.pointer (some ⟨Bm, 0, none⟩)]] w fun e w' => e = .returned (.slice none 0 0) ∧ Below w.heap.size w w' := by
  have fin : SeqGives Fence.wide 2 Tryz.prog g #[.pointer (some ⟨Bm, 0, none⟩)] encZ (fun ss : List Int => ss = []) 0 w → (∀ args w, (callFunc g args).run Tryz.prog w = .ok (.enter g args) w) →
      Calls Tryz.prog 141 #[.func (.func g) #[] #[.pointer (some ⟨Bm, 0, none⟩)]] w fun e w' => e = .returned (.slice none 0 0) ∧ Below w.heap.size w w' := fun hseq eg => by
    have cS := AnyZI.sorted_in Tryz.sortedA Fence.wide 5 trivial trivial trivial trivial rfl (by omega) (Tryz.sortsA _) (enters_of Tryz.func208 (by kernel_rfl) rfl) g #[.pointer (some ⟨Bm, 0, none⟩)] trivial eg _ 0 (Nat.zero_le _) (by omega) w hseq
    change CallsIn _ _ Tryz.prog 141 _ _ _ at cS
    refine (callsIn_wide.1 cS).mono ?_
    rintro e w' ⟨v, ss, rfl, rfl, h2, h3, h4⟩
    obtain rfl : v = .slice none 0 0 := h3.2 rfl
    exact ⟨rfl, h4⟩
  have hg : g = 209 ∨ g = 210 := by simpa [ix] using hg
  rcases hg with rfl | rfl
  · exact fin (AnyZI.keys_gives_nil (ρ := Tryz.keysA_ren) { Tryz.keysA with } Fence.wide _ trivial rfl Bm w hBm hm) (enters_of Tryz.func209 (by kernel_rfl) rfl)
  · exact fin (AnyZI.keys_gives_nil (ρ := Tryz.keysB_ren) { Tryz.keysB with } Fence.wide _ trivial rfl Bm w hBm hm) (enters_of Tryz.func210 (by kernel_rfl) rfl)
set_option maxRecDepth 1000000 in
theorem libFacts : LibFacts Tryz.prog ix where
  idx := fun args w => run_callFunc_extern Tryz.func219 (by kernel_rfl) (by kernel_rfl) (by kernel_rfl) (by kernel_rfl) args w
  cnt := fun args w => run_callFunc_extern Tryz.func318 (by kernel_rfl) (by kernel_rfl) (by kernel_rfl) (by kernel_rfl) args w
  entS := enters_of Tryz.func141 (by kernel_rfl) rfl
  entJ := enters_of Tryz.func71 (by kernel_rfl) rfl
  sorted := lib_sorted
  sortedNil := lib_sortedNil
  joinNone := fun a c sep w => Any.strings_Join_none Tryz.lays156 Tryz.Builder_Extra_156 a c sep w
  join := fun bk o c xs sep w h1 h2 h3 h4 h5 => Any.strings_Join Tryz.lays156 Tryz.Builder_Extra_156 bk o c xs sep w h1 h2 h3 h4 h5
end Go.Ab
