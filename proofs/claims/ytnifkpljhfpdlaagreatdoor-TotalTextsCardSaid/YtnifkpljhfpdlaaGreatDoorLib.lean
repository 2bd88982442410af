/- What is proved: what this program's library functions do (slices.Sorted at the keys of a map, strings.Join, two entries of internal/bytealg). Conditions stand in each theorem. -/
import Derived.Test.YtnifkpljhfpdlaaGreatDoorSj
import Derived.Shelf.SlIterI.Nil
import Derived.Shelf.SortM.Plain
import Derived.Shelf.SortM.SortNone
import Derived.Shelf.Strings.OnBuilder
import Derived.Ground.GgzProg
import Derived.Ground.SlgmProg
import Derived.Test.YtnifkpljhfpdlaaGreatDoorProg
import Derived.KernelRfl
set_option linter.unusedVariables false
set_option linter.unusedSimpArgs false
namespace Go.Proofs
open Go.Shelf
def Tryz.sortedA_ren : Go.Shelf.Ren := ⟨fun | 6 => 178 | 8 => 230 | 9 => 186 | 11 => 261 | 12 => 237 | 13 => 84 | 14 => 265 | 15 => 266 | 16 => 267 | 17 => 268 | 18 => 269 | 19 => 270 | 20 => 271 | 21 => 272 | 22 => 273 | 23 => 134 | 24 => 135 | 25 => 285 | 26 => 202 | 27 => 203 | 28 => 286 | 29 => 287 | 30 => 85 | 31 => 292 | n => n, fun | 24 => 58 | 26 => 3 | 28 => 271 | 33 => 145 | 37 => 161 | 39 => 215 | 40 => 216 | 45 => 127 | 48 => 222 | 50 => 224 | 51 => 297 | 55 => 301 | 57 => 341 | 58 => 342 | n => n, fun | n => n⟩
theorem Tryz.sortedA : Go.Proofs.SlLaysZI.n6 Tryz.prog Tryz.sortedA_ren := {
  mixed := by kernel_rfl
  f6 := ⟨Tryz.f178.name, by decide, Tryz.func178.trans (congrArg some (by kernel_rfl))⟩
  f8 := ⟨Tryz.f230.name, by decide, Tryz.func230.trans (congrArg some (by kernel_rfl))⟩
  f11 := ⟨Tryz.f261.name, by decide, Tryz.func261.trans (congrArg some (by kernel_rfl))⟩
  t0 := Tryz.underlying0
  a0 := Tryz.isAgg0
  z0 := Tryz.sizeOf0
  v0 := Tryz.zeroValue0
  t24 := Tryz.underlying58
  a24 := Tryz.isAgg58
  z24 := Tryz.sizeOf58
  v24 := Tryz.zeroValue58
  t26 := Tryz.underlying3
  a26 := Tryz.isAgg3
  z26 := Tryz.sizeOf3
  v26 := Tryz.zeroValue3
  t28 := Tryz.underlying271
  a28 := Tryz.isAgg271
  z28 := Tryz.sizeOf271
  v28 := Tryz.zeroValue271
  i26 := by kernel_rfl }
def Tryz.keysA_ren : Go.Shelf.Ren := ⟨fun | 7 => 179 | 10 => 231 | n => n, fun | 3 => 4 | 23 => 265 | 26 => 3 | 27 => 270 | 28 => 271 | 33 => 145 | n => n, fun | n => n⟩
theorem Tryz.keysA : Go.Proofs.SlLaysZI.n7 Tryz.prog Tryz.keysA_ren := {
  mixed := by kernel_rfl
  f7 := ⟨Tryz.f179.name, by decide, Tryz.func179.trans (congrArg some (by kernel_rfl))⟩
  f10 := ⟨Tryz.f231.name, by decide, Tryz.func231.trans (congrArg some (by kernel_rfl))⟩
  t0 := Tryz.underlying0
  a0 := Tryz.isAgg0
  z0 := Tryz.sizeOf0
  v0 := Tryz.zeroValue0
  t4 := Tryz.underlying4
  a4 := Tryz.isAgg4
  z4 := Tryz.sizeOf4
  v4 := Tryz.zeroValue4
  t23 := Tryz.underlying265
  a23 := Tryz.isAgg265
  z23 := Tryz.sizeOf265
  v23 := Tryz.zeroValue265
  t26 := Tryz.underlying3
  a26 := Tryz.isAgg3
  z26 := Tryz.sizeOf3
  v26 := Tryz.zeroValue3
  t27 := Tryz.underlying270
  a27 := Tryz.isAgg270
  z27 := Tryz.sizeOf270
  v27 := Tryz.zeroValue270
  t28 := Tryz.underlying271
  a28 := Tryz.isAgg271
  z28 := Tryz.sizeOf271
  v28 := Tryz.zeroValue271
  t33 := Tryz.underlying145
  a33 := Tryz.isAgg145
  z33 := Tryz.sizeOf145
  v33 := Tryz.zeroValue145 }
def Tryz.keysB_ren : Go.Shelf.Ren := ⟨fun | 7 => 233 | 10 => 262 | n => n, fun | 3 => 267 | 23 => 263 | 26 => 3 | 27 => 270 | 28 => 271 | 33 => 145 | n => n, fun | n => n⟩
theorem Tryz.keysB : Go.Proofs.SlLaysZI.n7 Tryz.prog Tryz.keysB_ren := {
  mixed := by kernel_rfl
  f7 := ⟨Tryz.f233.name, by decide, Tryz.func233.trans (congrArg some (by kernel_rfl))⟩
  f10 := ⟨Tryz.f262.name, by decide, Tryz.func262.trans (congrArg some (by kernel_rfl))⟩
  t0 := Tryz.underlying0
  a0 := Tryz.isAgg0
  z0 := Tryz.sizeOf0
  v0 := Tryz.zeroValue0
  t4 := Tryz.underlying4
  a4 := Tryz.isAgg4
  z4 := Tryz.sizeOf4
  v4 := Tryz.zeroValue4
  t23 := Tryz.underlying263
  a23 := Tryz.isAgg263
  z23 := Tryz.sizeOf263
  v23 := Tryz.zeroValue263
  t26 := Tryz.underlying3
  a26 := Tryz.isAgg3
  z26 := Tryz.sizeOf3
  v26 := Tryz.zeroValue3
  t27 := Tryz.underlying270
  a27 := Tryz.isAgg270
  z27 := Tryz.sizeOf270
  v27 := Tryz.zeroValue270
  t28 := Tryz.underlying271
  a28 := Tryz.isAgg271
  z28 := Tryz.sizeOf271
  v28 := Tryz.zeroValue271
  t33 := Tryz.underlying145
  a33 := Tryz.isAgg145
  z33 := Tryz.sizeOf145
  v33 := Tryz.zeroValue145 }
def Tryz.sortA_ren : Go.Shelf.Ren := ⟨fun | 5 => 186 | 7 => 237 | 8 => 84 | 10 => 265 | 11 => 266 | 12 => 267 | 13 => 268 | 14 => 269 | 15 => 270 | 16 => 271 | 17 => 272 | 18 => 273 | 19 => 134 | 20 => 135 | 30 => 285 | 31 => 202 | 32 => 203 | 33 => 286 | 34 => 287 | 35 => 85 | 40 => 292 | n => n, fun | 22 => 58 | 23 => 58 | 25 => 3 | 32 => 161 | 35 => 215 | 36 => 216 | 41 => 127 | 44 => 222 | 46 => 224 | 53 => 297 | 57 => 301 | 63 => 341 | 64 => 342 | n => n, fun | n => n⟩
theorem Tryz.sortA : Go.Proofs.SlLaysM.n5 Tryz.prog Tryz.sortA_ren := {
  mixed := by kernel_rfl
  f5 := ⟨Tryz.f186.name, by decide, Tryz.func186.trans (congrArg some (by kernel_rfl))⟩
  f7 := ⟨Tryz.f237.name, by decide, Tryz.func237.trans (congrArg some (by kernel_rfl))⟩
  f8 := Tryz.func84.trans (congrArg some (by kernel_rfl))
  f10 := ⟨Tryz.f265.name, by decide, Tryz.func265.trans (congrArg some (by kernel_rfl))⟩
  f11 := ⟨Tryz.f266.name, by decide, Tryz.func266.trans (congrArg some (by kernel_rfl))⟩
  f12 := ⟨Tryz.f267.name, by decide, Tryz.func267.trans (congrArg some (by kernel_rfl))⟩
  f13 := ⟨Tryz.f268.name, by decide, Tryz.func268.trans (congrArg some (by kernel_rfl))⟩
  f14 := ⟨Tryz.f269.name, by decide, Tryz.func269.trans (congrArg some (by kernel_rfl))⟩
  f15 := ⟨Tryz.f270.name, by decide, Tryz.func270.trans (congrArg some (by kernel_rfl))⟩
  f16 := ⟨Tryz.f271.name, by decide, Tryz.func271.trans (congrArg some (by kernel_rfl))⟩
  f17 := ⟨Tryz.f272.name, by decide, Tryz.func272.trans (congrArg some (by kernel_rfl))⟩
  f18 := ⟨Tryz.f273.name, by decide, Tryz.func273.trans (congrArg some (by kernel_rfl))⟩
  f19 := Tryz.func134.trans (congrArg some (by kernel_rfl))
  f20 := Tryz.func135.trans (congrArg some (by kernel_rfl))
  f30 := ⟨Tryz.f285.name, by decide, Tryz.func285.trans (congrArg some (by kernel_rfl))⟩
  f31 := Tryz.func202.trans (congrArg some (by kernel_rfl))
  f32 := Tryz.func203.trans (congrArg some (by kernel_rfl))
  f33 := ⟨Tryz.f286.name, by decide, Tryz.func286.trans (congrArg some (by kernel_rfl))⟩
  f34 := ⟨Tryz.f287.name, by decide, Tryz.func287.trans (congrArg some (by kernel_rfl))⟩
  f35 := ⟨Tryz.f85.name, by decide, Tryz.func85.trans (congrArg some (by kernel_rfl))⟩
  f40 := ⟨Tryz.f292.name, by decide, Tryz.func292.trans (congrArg some (by kernel_rfl))⟩
  t0 := Tryz.underlying0
  a0 := Tryz.isAgg0
  z0 := Tryz.sizeOf0
  v0 := Tryz.zeroValue0
  t3 := Tryz.underlying3
  a3 := Tryz.isAgg3
  z3 := Tryz.sizeOf3
  v3 := Tryz.zeroValue3
  t4 := Tryz.underlying4
  a4 := Tryz.isAgg4
  z4 := Tryz.sizeOf4
  v4 := Tryz.zeroValue4
  t5 := Tryz.underlying5
  a5 := Tryz.isAgg5
  z5 := Tryz.sizeOf5
  v5 := Tryz.zeroValue5
  t9 := Tryz.underlying9
  a9 := Tryz.isAgg9
  z9 := Tryz.sizeOf9
  v9 := Tryz.zeroValue9
  t22 := Tryz.underlying58
  a22 := Tryz.isAgg58
  z22 := Tryz.sizeOf58
  v22 := Tryz.zeroValue58
  t23 := Tryz.underlying58
  a23 := Tryz.isAgg58
  z23 := Tryz.sizeOf58
  v23 := Tryz.zeroValue58
  t25 := Tryz.underlying3
  a25 := Tryz.isAgg3
  z25 := Tryz.sizeOf3
  v25 := Tryz.zeroValue3
  t32 := Tryz.underlying161
  a32 := Tryz.isAgg161
  z32 := Tryz.sizeOf161
  v32 := Tryz.zeroValue161
  t35 := Tryz.underlying215
  a35 := Tryz.isAgg215
  z35 := Tryz.sizeOf215
  v35 := Tryz.zeroValue215
  t36 := Tryz.underlying216
  a36 := Tryz.isAgg216
  z36 := Tryz.sizeOf216
  v36 := Tryz.zeroValue216
  t41 := Tryz.underlying127
  a41 := Tryz.isAgg127
  z41 := Tryz.sizeOf127
  v41 := Tryz.zeroValue127
  t44 := Tryz.underlying222
  a44 := Tryz.isAgg222
  z44 := Tryz.sizeOf222
  v44 := Tryz.zeroValue222
  t46 := Tryz.underlying224
  a46 := Tryz.isAgg224
  z46 := Tryz.sizeOf224
  v46 := Tryz.zeroValue224
  t53 := Tryz.underlying297
  a53 := Tryz.isAgg297
  z53 := Tryz.sizeOf297
  v53 := Tryz.zeroValue297
  t57 := Tryz.underlying301
  a57 := Tryz.isAgg301
  z57 := Tryz.sizeOf301
  v57 := Tryz.zeroValue301
  t63 := Tryz.underlying341
  a63 := Tryz.isAgg341
  z63 := Tryz.sizeOf341
  v63 := Tryz.zeroValue341
  t64 := Tryz.underlying342
  a64 := Tryz.isAgg342
  z64 := Tryz.sizeOf342
  v64 := Tryz.zeroValue342 }
def Tryz.lays156_ren : Go.Shelf.Ren := ⟨fun | 156 => 28 | 165 => 63 | 166 => 64 | 169 => 65 | 240 => 91 | 241 => 92 | 276 => 142 | 277 => 143 | n => n, fun | 31 => 70 | 37 => 138 | 70 => 137 | 72 => 140 | 75 => 79 | 76 => 80 | 80 => 142 | 127 => 166 | 164 => 230 | n => n, fun | n => n⟩
theorem Tryz.lays156 : Go.Proofs.Lays.n156 Tryz.prog Tryz.lays156_ren := {
  mixed := by kernel_rfl
  f156 := Tryz.func28.trans (congrArg some (by kernel_rfl))
  f165 := Tryz.func63.trans (congrArg some (by kernel_rfl))
  f166 := Tryz.func64.trans (congrArg some (by kernel_rfl))
  f169 := Tryz.func65.trans (congrArg some (by kernel_rfl))
  f240 := Tryz.func91.trans (congrArg some (by kernel_rfl))
  f241 := Tryz.func92.trans (congrArg some (by kernel_rfl))
  f276 := Tryz.func142.trans (congrArg some (by kernel_rfl))
  f277 := Tryz.func143.trans (congrArg some (by kernel_rfl))
  t0 := Tryz.underlying0
  a0 := Tryz.isAgg0
  z0 := Tryz.sizeOf0
  v0 := Tryz.zeroValue0
  t3 := Tryz.underlying3
  a3 := Tryz.isAgg3
  z3 := Tryz.sizeOf3
  v3 := Tryz.zeroValue3
  t4 := Tryz.underlying4
  a4 := Tryz.isAgg4
  z4 := Tryz.sizeOf4
  v4 := Tryz.zeroValue4
  t9 := Tryz.underlying9
  a9 := Tryz.isAgg9
  z9 := Tryz.sizeOf9
  v9 := Tryz.zeroValue9
  t20 := Tryz.underlying20
  a20 := Tryz.isAgg20
  z20 := Tryz.sizeOf20
  v20 := Tryz.zeroValue20
  t31 := Tryz.underlying70
  a31 := Tryz.isAgg70
  z31 := Tryz.sizeOf70
  v31 := Tryz.zeroValue70
  t37 := Tryz.underlying138
  a37 := Tryz.isAgg138
  z37 := Tryz.sizeOf138
  v37 := Tryz.zeroValue138
  t70 := Tryz.underlying137
  a70 := Tryz.isAgg137
  z70 := Tryz.sizeOf137
  v70 := Tryz.zeroValue137
  t72 := Tryz.underlying140
  a72 := Tryz.isAgg140
  z72 := Tryz.sizeOf140
  v72 := Tryz.zeroValue140
  t75 := Tryz.underlying79
  a75 := Tryz.isAgg79
  z75 := Tryz.sizeOf79
  v75 := Tryz.zeroValue79
  t76 := Tryz.underlying80
  a76 := Tryz.isAgg80
  z76 := Tryz.sizeOf80
  v76 := Tryz.zeroValue80
  t127 := Tryz.underlying166
  a127 := Tryz.isAgg166
  z127 := Tryz.sizeOf166
  v127 := Tryz.zeroValue166
  t164 := Tryz.underlying230
  a164 := Tryz.isAgg230
  z164 := Tryz.sizeOf230
  v164 := Tryz.zeroValue230 }
end Go.Proofs
namespace Go.Proofs
open Go.RowKit Go.Maps Go.Sort Go.Shelf Go.WideElems Go.ChangeShapes Go.WideShapes
theorem Tryz.Builder_Extra_156 : Builder.Extra Tryz.prog Tryz.lays156_ren := {
  sizeBuilder := by kernel_rfl
  liesBuilder := by kernel_rfl
  t5 := Tryz.underlying5
  a5 := Tryz.isAgg5
  z5 := Tryz.sizeOf5
  v5 := Tryz.zeroValue5
  infoByte := by kernel_rfl
  cellsByte := by kernel_rfl
  sizeByte := by kernel_rfl
  neB5 := by decide }
theorem Tryz.sortsA (m : Nat) : AnyZI.SortsIn Tryz.prog Tryz.sortedA_ren Fence.wide m :=
  ⟨fun blk off cap ss W hH hblk hsz => callsIn_wide.2 (AnyM.slices_Sort_int Tryz.sortA blk off cap ss W hH hblk hsz),
   fun p cap W => callsIn_wide.2 (AnyM.slices_Sort_int_none Tryz.sortA p cap W)⟩
end Go.Proofs
namespace Go.Ab
open Go.Proofs Go.RowKit Go.Maps Go.Sort Go.Shelf Go.WideElems Go.ChangeShapes Go.WideShapes
def anyR : Value → Option (DataW Unit × List MemPlace) := fun _ => some (.nil, [])
theorem wf64 {n : Int} (h : fits64 n = true) : (Lit.int .i64 n).wf = true := by
  unfold fits64 at h
  show (decide (IntKind.i64.min ≤ n) && decide (n ≤ IntKind.i64.max)) = true
  have e1 : IntKind.i64.min = -9223372036854775808 := by decide
  have e2 : IntKind.i64.max = 9223372036854775807 := by decide
  rw [e1, e2]
  cases n with
  | ofNat m => have := ble_iff.1 h; simp; omega
  | negSucc m => have := ble_iff.1 h; simp; omega
section
variable {P : Program} {k : TypeId} {es : Array MapEntry} {clock : Nat} {w : World} {b : Nat}
theorem rd_of (hk : P.underlying k = some (.int .i64)) {x : MapEntry} {n : Int} (hx : x.key = .int .i64 n) (hf : fits64 n = true) : WideElems.rd P k anyR x = some (.int .i64 n, .nil) := by
  unfold WideElems.rd
  rw [hx]
  have : keyOf P k (.int .i64 n) = some (.int .i64 n) := by simp [keyOf, hk, mapKey, wf64 hf]
  rw [this]; rfl
theorem ownsMap_of (hk : P.underlying k = some (.int .i64)) (hb : w.heap[b]? = some (.map es clock)) (hs : MapKept.Stamped es clock) (hz : es.size ≤ 1000000) (he : ∀ x, x ∈ es.toList → ∃ n : Int, x.key = .int .i64 n ∧ fits64 n = true) :
    w.ownsMap P k anyR b es.size (.map ((es.toList.map (rg P k anyR)).foldr DataW.insert [])) :=
  ⟨es, clock, hb, ⟨by unfold maxLen; omega, hs, fun x hx => by obtain ⟨n, h1, h2⟩ := he x hx; exact ⟨_, rd_of hk h1 h2⟩⟩, Nat.le_refl _, rfl⟩
theorem size_of : Maps.size (.map ((es.toList.map (rg P k anyR)).foldr DataW.insert []) : DataW Unit) = es.size := by
  show ((es.toList.map (rg P k anyR)).foldr DataW.insert []).length = _
  rw [(sorted_perm _).length_eq]; simp
theorem keys_of (hk : P.underlying k = some (.int .i64)) (he : ∀ x, x ∈ es.toList → ∃ n : Int, x.key = .int .i64 n ∧ fits64 n = true) {ss : List Int}
    (h : ss.Perm (intKeys (.map ((es.toList.map (rg P k anyR)).foldr DataW.insert []) : DataW Unit))) : (ss.map encZ).Perm (es.toList.map (·.key)) := by
  have h : ss.Perm (((es.toList.map (rg P k anyR)).foldr DataW.insert []).map fun p => Go.intOf p.1) := h
  have h1 := (h.map encZ).trans (((sorted_perm (es.toList.map (rg P k anyR))).map fun p => Go.intOf p.1).map encZ)
  refine h1.trans (.of_eq ?_)
  rw [List.map_map, List.map_map]
  refine List.map_congr_left fun x hx => ?_
  obtain ⟨n, h1, h2⟩ := he x hx
  show encZ (Go.intOf (rg P k anyR x).1) = x.key
  unfold rg
  rw [rd_of hk h1 h2, h1]; rfl
end
def ix : Ix := ⟨178, [231, 262], 255, 146, 28⟩
theorem lib_sorted (g : Nat) (hg : g ∈ ix.keys) (Bm b : Nat) (es : Array MapEntry) (clock : Nat) (w : World) (hm : w.cell? ⟨Bm, 0, none⟩ = some (.map (some b))) (hb : w.heap[b]? = some (.map es clock)) (hs : MapKept.Stamped es clock) (hz : es.size ≤ 1000000)
    (he : ∀ x, x ∈ es.toList → ∃ n : Int, x.key = .int .i64 n ∧ fits64 n = true) (hBm : Bm < w.heap.size) :
    Calls Tryz.prog 178 #[.func (.func g) #[] #[.pointer (some ⟨Bm, 0, none⟩)]] w fun e w' => ∃ (v : Value) (ss : List Int) (t : Nat), e = .returned v ∧ (ss.map encZ).Perm (es.toList.map (·.key)) ∧
      w'.ownsRow w.heap.size t 1 v ss.length ((ss.mergeSort leI).map encZ) ∧ (v = .slice none 0 0 ↔ ss = []) ∧ Below w.heap.size w w' := by
  have hu : Tryz.prog.underlying 3 = some (.int .i64) := by kernel_rfl
  have hown := ownsMap_of hu hb hs hz he
  have hsize := size_of (P := Tryz.prog) (k := 3) (es := es)
  have fin : SeqGives Fence.wide 2 Tryz.prog g #[.pointer (some ⟨Bm, 0, none⟩)] encZ (fun ss => ss.Perm (intKeys (.map ((es.toList.map (rg Tryz.prog 3 anyR)).foldr DataW.insert []) : DataW Unit))) (Maps.size (.map ((es.toList.map (rg Tryz.prog 3 anyR)).foldr DataW.insert []) : DataW Unit)) w → (∀ args w, (callFunc g args).run Tryz.prog w = .ok (.enter g args) w) →
      Calls Tryz.prog 178 #[.func (.func g) #[] #[.pointer (some ⟨Bm, 0, none⟩)]] w fun e w' => ∃ (v : Value) (ss : List Int) (t : Nat), e = .returned v ∧ (ss.map encZ).Perm (es.toList.map (·.key)) ∧
      w'.ownsRow w.heap.size t 1 v ss.length ((ss.mergeSort leI).map encZ) ∧ (v = .slice none 0 0 ↔ ss = []) ∧ Below w.heap.size w w' := fun hseq eg => by
    have cS := AnyZI.sorted_in Tryz.sortedA Fence.wide 5 trivial trivial trivial trivial rfl (by omega) (Tryz.sortsA _) (enters_of Tryz.func186 (by kernel_rfl) rfl) g #[.pointer (some ⟨Bm, 0, none⟩)] trivial eg _ _ (by rw [hsize]; unfold maxLen; omega) (by rw [hsize]; omega) w hseq
    change CallsIn _ _ Tryz.prog 178 _ _ _ at cS
    refine (callsIn_wide.1 cS).mono ?_
    rintro e w' ⟨v, ss, rfl, h1, h2, h3, h4⟩
    exact ⟨v, ss, 3, rfl, keys_of hu he h1, h2, h3, h4⟩
  have hg : g = 231 ∨ g = 262 := by simpa [ix] using hg
  rcases hg with rfl | rfl
  · exact fin (AnyZI.keys_gives (ρ := Tryz.keysA_ren) { Tryz.keysA with } Fence.wide _ trivial rfl (by omega) Bm b _ _ w hBm hm hown) (enters_of Tryz.func231 (by kernel_rfl) rfl)
  · exact fin (AnyZI.keys_gives (ρ := Tryz.keysB_ren) { Tryz.keysB with } Fence.wide _ trivial rfl (by omega) Bm b _ _ w hBm hm hown) (enters_of Tryz.func262 (by kernel_rfl) rfl)
theorem lib_sortedNil (g : Nat) (hg : g ∈ ix.keys) (Bm : Nat) (w : World) (hm : w.cell? ⟨Bm, 0, none⟩ = some (.map none)) (hBm : Bm < w.heap.size) :
    Calls Tryz.prog 178 #[.func (.func g) #[] #[.pointer (some ⟨Bm, 0, none⟩)]] w fun e w' => e = .returned (.slice none 0 0) ∧ Below w.heap.size w w' := by
  have fin : SeqGives Fence.wide 2 Tryz.prog g #[.pointer (some ⟨Bm, 0, none⟩)] encZ (fun ss : List Int => ss = []) 0 w → (∀ args w, (callFunc g args).run Tryz.prog w = .ok (.enter g args) w) →
      Calls Tryz.prog 178 #[.func (.func g) #[] #[.pointer (some ⟨Bm, 0, none⟩)]] w fun e w' => e = .returned (.slice none 0 0) ∧ Below w.heap.size w w' := fun hseq eg => by
    have cS := AnyZI.sorted_in Tryz.sortedA Fence.wide 5 trivial trivial trivial trivial rfl (by omega) (Tryz.sortsA _) (enters_of Tryz.func186 (by kernel_rfl) rfl) g #[.pointer (some ⟨Bm, 0, none⟩)] trivial eg _ 0 (Nat.zero_le _) (by omega) w hseq
    change CallsIn _ _ Tryz.prog 178 _ _ _ at cS
    refine (callsIn_wide.1 cS).mono ?_
    rintro e w' ⟨v, ss, rfl, rfl, h2, h3, h4⟩
    obtain rfl : v = .slice none 0 0 := h3.2 rfl
    exact ⟨rfl, h4⟩
  have hg : g = 231 ∨ g = 262 := by simpa [ix] using hg
  rcases hg with rfl | rfl
  · exact fin (AnyZI.keys_gives_nil (ρ := Tryz.keysA_ren) { Tryz.keysA with } Fence.wide _ trivial rfl Bm w hBm hm) (enters_of Tryz.func231 (by kernel_rfl) rfl)
  · exact fin (AnyZI.keys_gives_nil (ρ := Tryz.keysB_ren) { Tryz.keysB with } Fence.wide _ trivial rfl Bm w hBm hm) (enters_of Tryz.func262 (by kernel_rfl) rfl)
set_option maxRecDepth 1000000 in
theorem libFacts : LibFacts Tryz.prog ix where
  idx := fun args w => run_callFunc_extern Tryz.func255 (by kernel_rfl) (by kernel_rfl) (by kernel_rfl) (by kernel_rfl) args w
  cnt := fun args w => run_callFunc_extern Tryz.func146 (by kernel_rfl) (by kernel_rfl) (by kernel_rfl) (by kernel_rfl) args w
  entS := enters_of Tryz.func178 (by kernel_rfl) rfl
  entJ := enters_of Tryz.func28 (by kernel_rfl) rfl
  sorted := lib_sorted
  sortedNil := lib_sortedNil
  joinNone := fun a c sep w => Any.strings_Join_none Tryz.lays156 Tryz.Builder_Extra_156 a c sep w
  join := fun bk o c xs sep w h1 h2 h3 h4 h5 => Any.strings_Join Tryz.lays156 Tryz.Builder_Extra_156 bk o c xs sep w h1 h2 h3 h4 h5
end Go.Ab
