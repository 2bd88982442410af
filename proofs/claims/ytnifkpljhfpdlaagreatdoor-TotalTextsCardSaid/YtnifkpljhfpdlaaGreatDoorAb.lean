/- What is here: an abstract machine, a deterministic reading of a translated program over abstract blocks; calls that it remembers. No condition. -/
import GoSem.Step
set_option linter.unusedVariables false
set_option linter.unusedSimpArgs false
namespace Go.Ab
inductive T (α : Type) where
  | leaf
  | node (v : Option α) (l r : T α)
namespace T
variable {α : Type}
def get : T α → Nat → Option α
  | .leaf, _ => none
  | .node v l r, k => match k with
    | 0 => v
    | k + 1 => match Nat.mod k 2 with
      | 0 => l.get (Nat.div k 2)
      | _ + 1 => r.get (Nat.div k 2)
def single : Nat → Nat → Option α → T α
  | 0, _, _ => .leaf
  | n + 1, k, v => match k with
    | 0 => .node v .leaf .leaf
    | k + 1 => match Nat.mod k 2 with
      | 0 => .node none (single n (Nat.div k 2) v) .leaf
      | _ + 1 => .node none .leaf (single n (Nat.div k 2) v)
def put : T α → Nat → Option α → T α
  | .leaf, k, v => single (Nat.succ k) k v
  | .node w l r, k, v => match k with
    | 0 => .node v l r
    | k + 1 => match Nat.mod k 2 with
      | 0 => .node w (l.put (Nat.div k 2) v) r
      | _ + 1 => .node w l (r.put (Nat.div k 2) v)
def evens : List α → List α
  | [] => []
  | [x] => [x]
  | x :: _ :: l => x :: evens l
def odds : List α → List α
  | [] => []
  | [_] => []
  | _ :: y :: l => y :: odds l
def ofListN : Nat → List α → T α
  | 0, _ => .leaf
  | n + 1, l => match l with
    | [] => .leaf
    | x :: xs => .node (some x) (ofListN n (evens xs)) (ofListN n (odds xs))
def ofList (l : List α) : T α := ofListN (Nat.succ l.length) l
end T
def ltI : Int → Int → Bool
  | .ofNat m, .ofNat n => Nat.ble (Nat.succ m) n
  | .negSucc _, .ofNat _ => true
  | .ofNat _, .negSucc _ => false
  | .negSucc m, .negSucc n => Nat.ble (Nat.succ n) m
def eqI : Int → Int → Bool
  | .ofNat m, .ofNat n => Nat.beq m n
  | .negSucc m, .negSucc n => Nat.beq m n
  | _, _ => false
def fits64 : Int → Bool
  | .ofNat m => Nat.ble m 9223372036854775807
  | .negSucc m => Nat.ble m 9223372036854775807
def wrapQ (k : IntKind) (n : Int) : Int :=
  match k with
  | .i64 => match fits64 n with | true => n | false => IntKind.wrap .i64 n
  | k => k.wrap n
structure TI where
  info : TypeInfo
  desc : TypeDesc
structure Ctx where
  types : T TI
  funcs : T Func
def tiOf (P : Program) (t : Nat) : Option TI :=
  match P.info? t, P.underlying t with
  | some i, some d => some ⟨i, d⟩
  | _, _ => none
def mapIdx {α β : Type} (f : Nat → α → β) : Nat → List α → List β
  | _, [] => []
  | n, x :: l => f n x :: mapIdx f (Nat.succ n) l
def tyOf (P : Program) (i : TypeInfo) : TI :=
  match i.desc with
  | .named _ u => ⟨i, ((P.info? u).map (·.desc)).getD .invalid⟩
  | d => ⟨i, d⟩
def ctxOf (P : Program) : Ctx := ⟨T.ofList (P.types.toList.map (tyOf P)), T.ofList P.funcs.toList⟩
def TI.size (t : TI) : Nat := t.info.size
def aggD : TypeDesc → Bool
  | .struct _ => true
  | .array _ _ => true
  | _ => false
structure ALoop where
  state : LoopState
  pending : Option Code
  fn : Nat
  tm : T Value
  params : List Nat
  assign : Code
  body : Code
  defers : Nat
inductive Blk where
  | cells (cs : List Value) (an : List Nat) (es : Nat) (rw : Bool)
  | map (es : List (Value × Value))
  | iter (s : ByteArray) (pos : Nat)
  | loop (l : ALoop)
  | defs (ds : Option (List Deferred))
structure H where
  blks : T Blk
  next : Nat
  base : Nat
  wr : List Nat
def minN (a b : Nat) : Nat := match Nat.ble a b with | true => a | false => b
def memN (b : Nat) : List Nat → Bool
  | [] => false
  | m :: l => match Nat.beq m b with
    | true => true
    | false => memN b l
def note (base : Nat) (wr : List Nat) (b : Nat) : List Nat :=
  match Nat.ble base b with
  | true => wr
  | false => match memN b wr with
    | true => wr
    | false => b :: wr
def noteAll (base : Nat) (wr : List Nat) : List Nat → List Nat
  | [] => wr
  | b :: l => noteAll base (note base wr b) l
def H.put (h : H) (b : Nat) (v : Blk) : H := { blks := h.blks.put b (some v), next := h.next, base := h.base, wr := note h.base h.wr b }
def H.alloc (h : H) (b : Blk) : H := { h with blks := h.blks.put h.next (some b), next := Nat.succ h.next }
def H.new (h : H) (cs : List Value) (es : Nat) : H := h.alloc (.cells cs [] es true)
def addr (b o : Nat) : Addr := ⟨b, o, none⟩
def ptr (b o : Nat) : Value := .pointer (some (addr b o))
def killAll (bs : T Blk) : List Nat → T Blk
  | [] => bs
  | m :: l => killAll (bs.put m none) l
def setAt : List Value → Nat → List Value → List Value
  | cs, 0, vs => match vs with
    | [] => cs
    | v :: vs => match cs with
      | [] => []
      | _ :: cs => v :: setAt cs 0 vs
  | [], _ + 1, _ => []
  | c :: cs, o + 1, vs => c :: setAt cs o vs
def H.write (h : H) (b o : Nat) (vs : List Value) : Option H :=
  match h.blks.get b with
  | some (.cells cs an es true) =>
    match Nat.ble (Nat.add o vs.length) cs.length with
    | true => some { blks := (killAll h.blks an).put b (some (.cells (setAt cs o vs) [] es true)), next := h.next, base := h.base, wr := noteAll h.base (note h.base h.wr b) an }
    | false => none
  | _ => none
def dropN : Nat → List Value → List Value
  | 0, l => l
  | _ + 1, [] => []
  | n + 1, _ :: l => dropN n l
def takeN : Nat → List Value → Option (List Value)
  | 0, _ => some []
  | _ + 1, [] => none
  | n + 1, x :: l => match takeN n l with
    | some r => some (x :: r)
    | none => none
def H.read (h : H) (b o n : Nat) : Option (List Value) :=
  match h.blks.get b with
  | some (.cells cs _ _ _) => takeN n (dropN o cs)
  | _ => none
def agg (l : List Value) : Value := .agg ⟨l⟩
def cellsL : Value → List Value
  | .agg cs => cs.toList
  | v => [v]
def H.load (h : H) (ti : TI) (b o : Nat) : Option Value :=
  match aggD ti.desc with
  | true => match h.read b o ti.size with
    | some l => some (agg l)
    | none => none
  | false => match h.read b o 1 with
    | some [v] => some v
    | _ => none
def capU : Nat := 18446744073709551616
def knownCap (c : Nat) : Bool := Nat.ble c 9223372036854775807
inductive Er where
  | val (v : Value) (h : H)
def bnd (rt : RuntimeTypes) (x y : Int) (signed : Bool) (code : Nat) : Value :=
  .iface rt.boundsError (.agg #[.int .i64 x, .int .i64 y, .bool signed, .int .u8 code])
def nilPanic (rt : RuntimeTypes) : Value := .iface rt.errorString (strVal "invalid memory address or nil pointer dereference")
def notAgg : Value → Bool
  | .agg _ | .tuple _ => false
  | _ => true
end Go.Ab
namespace Go.Ab
def nth {α : Type} : List α → Nat → Option α
  | [], _ => none
  | x :: _, 0 => some x
  | _ :: l, n + 1 => nth l n
def natOf : Int → Option Nat
  | .ofNat n => some n
  | .negSucc _ => none
def tiG (Γ : Ctx) (t : Nat) : Option TI :=
  match Γ.types.get t with
  | some ti => match ti.desc with
    | .invalid => none
    | _ => some ti
  | none => none
def noTup : Value → Bool
  | .tuple _ => false
  | _ => true
def sizeT (Γ : Ctx) (t : Nat) : Option Nat :=
  match tiG Γ t with
  | some ti => some ti.size
  | none => none
def descT (Γ : Ctx) (t : Nat) : Option TypeDesc :=
  match tiG Γ t with
  | some ti => some ti.desc
  | none => none
def zeroT (Γ : Ctx) (t : Nat) : Option Value :=
  match tiG Γ t with
  | some ti => ti.info.zero
  | none => none
def placeS (Γ : Ctx) (fs : List Field) (i : Nat) : Option (Nat × Nat) :=
  match nth fs i with
  | some f => match sizeT Γ f.type with
    | some s => some (f.offset, s)
    | none => none
  | none => none
def fillA (place : Nat → Option (Nat × Nat)) (cs : List Value) : List (Nat × Value) → Option (List Value)
  | [] => some cs
  | (i, v) :: r =>
    match place i with
    | none => none
    | some (o, s) =>
      let l := cellsL v
      match Nat.beq l.length s && Nat.ble (Nat.add o s) cs.length && noTup v with
      | true => fillA place (setAt cs o l) r
      | false => none
def aBuild (Γ : Ctx) (t : Nat) (parts : List (Nat × Value)) : Option Value :=
  match zeroT Γ t, descT Γ t with
  | some z, some (.struct fs) => match noTup z with
    | true => match fillA (placeS Γ fs.toList) (cellsL z) parts with
      | some l => some (agg l)
      | none => none
    | false => none
  | some z, some (.array _ e) => match sizeT Γ e, noTup z with
    | some s, true => match fillA (fun i => some (Nat.mul i s, s)) (cellsL z) parts with
      | some l => some (agg l)
      | none => none
    | _, _ => none
  | _, _ => none
def repL (l : List Value) : Nat → List Value
  | 0 => []
  | n + 1 => l ++ repL l n
def aBuildSlice (Γ : Ctx) (t len : Nat) (parts : List (Nat × Value)) (h : H) : Option Er :=
  match descT Γ t with
  | some (.slice e) => match sizeT Γ e, zeroT Γ e with
    | some s, some z =>
      let zl := cellsL z
      match Nat.ble (Nat.mul len s) 16777216 && Nat.beq zl.length s && noTup z && Nat.ble 1 s with
      | true => match fillA (fun i => some (Nat.mul i s, s)) (repL zl len) parts with
        | some l => some (.val (.slice (some (addr h.next 0)) len len) (h.new l s))
        | none => none
      | false => none
    | _, _ => none
  | _ => none
def aLoad (Γ : Ctx) (t : Nat) (a : Value) (h : H) : Option Er :=
  match a, tiG Γ t with
  | .pointer (some ⟨b, o, none⟩), some ti => match h.load ti b o with
    | some v => some (.val v h)
    | none => none
  | _, _ => none
def aStore (Γ : Ctx) (t : Nat) (a x : Value) (h : H) : Option Er :=
  match a, sizeT Γ t with
  | .pointer (some ⟨b, o, none⟩), some s =>
    let l := cellsL x
    match Nat.beq l.length s && noTup x with
    | true => match h.write b o l with
      | some h => some (.val undef h)
      | none => none
    | false => none
  | _, _ => none
def aNilCheck (x : Value) : Option Value :=
  match x with
  | .pointer (some _) => some x
  | .func (.func _) _ _ => some x
  | .iface _ _ => some x
  | _ => none
def arith (op : BinOp) (k : IntKind) (a b : Int) : Option Value :=
  match op with
  | .add => some (.int k (wrapQ k (a + b)))
  | .sub => some (.int k (wrapQ k (a - b)))
  | .mul => some (.int k (wrapQ k (a * b)))
  | .eql => some (.bool (eqI a b))
  | .neq => some (.bool (!(eqI a b)))
  | .lss => some (.bool (ltI a b))
  | .gtr => some (.bool (ltI b a))
  | .leq => some (.bool (!(ltI b a)))
  | .geq => some (.bool (!(ltI a b)))
  | .quo => match eqI b 0 with
    | true => none
    | false => some (.int k (wrapQ k (a.tdiv b)))
  | .rem => match eqI b 0 with
    | true => none
    | false => some (.int k (a.tmod b))
  | _ => none
def beqU : List UInt8 → List UInt8 → Bool
  | [], [] => true
  | a :: x, b :: y => match Nat.beq a.toNat b.toNat with
    | true => beqU x y
    | false => false
  | _, _ => false
def ltU : List UInt8 → List UInt8 → Bool
  | _, [] => false
  | [], _ :: _ => true
  | a :: x, b :: y => match Nat.ble (Nat.succ a.toNat) b.toNat with
    | true => true
    | false => match Nat.beq a.toNat b.toNat with
      | true => ltU x y
      | false => false
def strOp (op : BinOp) (s t : ByteArray) : Option Value :=
  let x := s.data.toList
  let y := t.data.toList
  match op with
  | .add => match Nat.ble (Nat.add x.length y.length) 4611686018427387904 with
    | true => some (.string ⟨⟨x ++ y⟩⟩)
    | false => none
  | .eql => some (.bool (beqU x y))
  | .neq => some (.bool (!(beqU x y)))
  | .lss => some (.bool (ltU x y))
  | .leq => some (.bool (ltU x y || beqU x y))
  | .gtr => some (.bool (!(ltU x y || beqU x y)))
  | .geq => some (.bool (!(ltU x y)))
  | _ => none
def eqN (d : TypeDesc) (a b : Value) : Option Bool :=
  match d, a, b with
  | .slice _, .slice none _ _, .slice c _ _ => some c.isNone
  | .slice _, .slice (some _) _ _, .slice none _ _ => some false
  | .map _ _, .map none, .map c => some c.isNone
  | .map _ _, .map (some _), .map none => some false
  | .func _ _ _, .nilFunc, .nilFunc => some true
  | .func _ _ _, .nilFunc, .func _ _ _ => some false
  | .func _ _ _, .func _ _ _, .nilFunc => some false
  | .interface _, .nilIface, .iface _ _ => some false
  | .interface _, .iface _ _, .nilIface => some false
  | .pointer _, .pointer none, .pointer c => some c.isNone
  | .pointer _, .pointer (some _), .pointer none => some false
  | _, _, _ => none
end Go.Ab
namespace Go.Ab
def pureRun {α : Type} (P : Program) : Sem α → Option α
  | .pure a => some a
  | .program k => pureRun P (k P)
  | _ => none
structure Env where
  P : Program
  Γ : Ctx
  stub : Nat → List Value → H → Option (Option (Value × H))
def sameK : IntKind → IntKind → Bool
  | .i64, .i64 => true
  | .u8, .u8 => true
  | .i32, .i32 => true
  | .u64, .u64 => true
  | .u32, .u32 => true
  | .i8, .i8 => true
  | .i16, .i16 => true
  | .u16, .u16 => true
  | _, _ => false
def isCo : Operand → Bool
  | .const _ => true
  | _ => false
def leafD : TypeDesc → Bool
  | .bool => true
  | .int _ => true
  | .string => true
  | _ => false
def leafF (f : Nat → Option (List TypeDesc)) : Nat → List Field → Option (List TypeDesc)
  | _, [] => some []
  | at_, x :: l => match Nat.beq x.offset at_ && !(x.name == "_") with
    | true => match f x.type with
      | some [] => none
      | some a => match leafF f (Nat.add at_ a.length) l with
        | some b => some (a ++ b)
        | none => none
      | none => none
    | false => none
def repD (a : List TypeDesc) : Nat → List TypeDesc
  | 0 => []
  | n + 1 => a ++ repD a n
def leaves (E : Env) : Nat → Nat → Option (List TypeDesc)
  | 0, _ => none
  | n + 1, t => match descT E.Γ t, sizeT E.Γ t with
    | some (.struct fs), some s => match E.P.stoodInHeld t with
      | true => none
      | false => match leafF (leaves E n) 0 fs.toList with
        | some l => match Nat.beq l.length s with | true => some l | false => none
        | none => none
    | some (.array m e), some s => match leaves E n e with
      | some [] => none
      | some l => match Nat.beq (Nat.mul m l.length) s with | true => some (repD l m) | false => none
      | none => none
    | some d, some s => match leafD d && Nat.beq s 1 with | true => some [d] | false => none
    | _, _ => none
def eqK (d : TypeDesc) (x y : Value) : Option Bool :=
  match d, x, y with
  | .bool, .bool a, .bool b => some (match a with | true => b | false => !b)
  | .int _, .int j a, .int k b => match sameK j k with | true => some (eqI a b) | false => none
  | .string, .string a, .string b => some (beqU a.data.toList b.data.toList)
  | _, _, _ => none
def eqKs : List TypeDesc → List Value → List Value → Option Bool
  | [], [], [] => some true
  | d :: ds, x :: xs, y :: ys => match eqK d x y, eqKs ds xs ys with
    | some a, some b => some (a && b)
    | _, _ => none
  | _, _, _ => none
def eqAgg (E : Env) (t : Nat) (x y : List Value) : Option Bool :=
  match descT E.Γ t with
  | some d => match aggD d with
    | true => match leaves E 20 t with
      | some ds => eqKs ds x y
      | none => none
    | false => none
  | none => none
def eqB (E : Env) (t : Nat) (x y : Operand) (a b : Value) : Option Bool :=
  match descT E.Γ t with
  | none => none
  | some d => match a, b with
    | .bool p, .bool q => match d with
      | .bool => some (match p with | true => q | false => !q)
      | _ => none
    | .agg p, .agg q => match E.P.eqGuardType E.P.depth t with
      | true => none
      | false => eqAgg E t p.toList q.toList
    | .nilIface, .nilIface => match d with
      | .interface _ => match isCo x || isCo y with
        | true => some true
        | false => none
      | _ => none
    | a, b => eqN d a b
def onlyInt : Option Value → Option Value
  | some (.int k n) => some (.int k n)
  | _ => none
def aBin (E : Env) (op : BinOp) (t : Nat) (x y : Operand) (a b : Value) : Option Value :=
  match a, b with
  | .int j m, .int k n => match op with
    | .shl => onlyInt (pureRun E.P (binOp op t a b))
    | .shr => onlyInt (pureRun E.P (binOp op t a b))
    | .and => onlyInt (pureRun E.P (binOp op t a b))
    | .or => onlyInt (pureRun E.P (binOp op t a b))
    | .xor => onlyInt (pureRun E.P (binOp op t a b))
    | .andNot => onlyInt (pureRun E.P (binOp op t a b))
    | _ => match sameK j k with
      | true => arith op j m n
      | false => none
  | .string p, .string q => strOp op p q
  | _, _ => match op with
    | .eql => match eqB E t x y a b with
      | some r => some (.bool r)
      | none => none
    | .neq => match eqB E t x y a b with
      | some r => some (.bool (!r))
      | none => none
    | _ => none
def aUn (op : UnOp) (x : Value) : Option Value :=
  match op, x with
  | .not, .bool b => some (.bool (!b))
  | .neg, .int k n => some (.int k (wrapQ k (0 - n)))
  | _, _ => none
def bytesOf : List Value → Option (List UInt8)
  | [] => some []
  | .int .u8 (.ofNat n) :: l => match bytesOf l with
    | some r => some (UInt8.ofNat n :: r)
    | none => none
  | _ => none
def byteV (b : UInt8) : Value := .int .u8 (.ofNat b.toNat)
def aConv (Γ : Ctx) (src dst : Nat) (x : Value) : Option Value :=
  match descT Γ src, descT Γ dst, x with
  | some _, some (.int k), .int _ n => some (.int k (wrapQ k n))
  | some _, some .string, .string s => some (.string s)
  | _, _, _ => none
def aMakeSlice (Γ : Ctx) (t : Nat) (len cap : Value) (h : H) : Option Er :=
  match descT Γ t, len, cap with
  | some (.slice e), .int _ (.ofNat n), .int _ (.ofNat c) =>
    match tiG Γ e with
    | some ti => match ti.info.zero with
      | some z =>
        let zl := cellsL z
        match Nat.ble n c && Nat.ble c 1048576 && Nat.ble ti.info.bytes 65536 && Nat.beq zl.length ti.size && noTup z with
        | true => some (.val (.slice (some (addr h.next 0)) n c) (h.new (repL zl c) ti.size))
        | false => none
      | none => none
    | none => none
  | _, _, _ => none
def bndTo (v : Value) (n : Nat) : Option Nat :=
  match v with
  | .int _ (.ofNat i) => match Nat.ble i n with
    | true => some i
    | false => none
  | _ => none
def optB (v : Option Value) (n d : Nat) : Option Nat :=
  match v with
  | none => some d
  | some v => bndTo v n
def extr (l : List UInt8) (a b : Nat) : List UInt8 := (l.drop a).take (Nat.sub b a)
def limOf (cap len : Nat) : Nat := match knownCap cap with | true => cap | false => len
def hiLim (mx : Option Value) (m lim : Nat) : Nat := match mx with | some _ => m | none => lim
def esIs (h : H) (b sz : Nat) : Bool := match h.blks.get b with
  | some (.cells _ _ es _) => Nat.beq es sz
  | _ => false
def aSlice (Γ : Ctx) (t : Nat) (x : Value) (lo hi mx : Option Value) (h : H) : Option Er :=
  match descT Γ t, x with
  | some .string, .string s =>
    match mx with
    | some _ => none
    | none =>
      let l := s.data.toList
      match optB hi l.length l.length with
      | some b => match optB lo b 0 with
        | some a => some (.val (.string ⟨⟨extr l a b⟩⟩) h)
        | none => none
      | none => none
  | some (.slice e), .slice base len cap =>
    match sizeT Γ e with
    | none => none
    | some sz =>
      match optB mx (limOf cap len) cap with
      | none => none
      | some m => match optB hi (hiLim mx m (limOf cap len)) len with
        | none => none
        | some b => match optB lo b 0 with
          | none => none
          | some a =>
            match mx, hi with
            | some _, none => none
            | _, _ => match knownCap m with
              | true => match Nat.beq m a with
                | true => some (.val (.slice base (Nat.sub b a) 0) h)
                | false => match base with
                  | some ⟨bk, o, none⟩ => some (.val (.slice (some (addr bk (Nat.add o (Nat.mul a sz)))) (Nat.sub b a) (Nat.sub m a)) h)
                  | _ => none
              | false => match mx, base with
                | none, some ⟨bk, o, none⟩ => match esIs h bk sz with
                  | true => some (.val (.slice (some (addr bk (Nat.add o (Nat.mul a sz)))) (Nat.sub b a) capU) h)
                  | false => none
                | _, _ => none
  | some (.array n e), .pointer (some ⟨bk, o, none⟩) =>
    match sizeT Γ e, (match Nat.ble n 1048576 with | true => mx | false => some .nilIface) with
    | some sz, none => match optB hi n n with
      | none => none
      | some b => match optB lo b 0 with
        | none => none
        | some a => match Nat.beq n a with
          | true => some (.val (.slice (some (addr bk o)) (Nat.sub b a) 0) h)
          | false => some (.val (.slice (some (addr bk (Nat.add o (Nat.mul a sz)))) (Nat.sub b a) (Nat.sub n a)) h)
    | _, _ => none
  | _, _ => none
def aFieldAddr (Γ : Ctx) (t : Nat) (x : Value) (i : Nat) : Option Value :=
  match descT Γ t, x with
  | some (.struct fs), .pointer (some ⟨b, o, none⟩) => match nth fs.toList i with
    | some f => match sizeT Γ f.type with
      | some (_ + 1) => some (ptr b (Nat.add o f.offset))
      | _ => none
    | none => none
  | _, _ => none
def aPart (Γ : Ctx) (t : Nat) (cs : List Value) (off : Nat) : Option Value :=
  match tiG Γ t with
  | some ti => match aggD ti.desc with
    | true => match takeN ti.size (dropN off cs) with
      | some l => some (agg l)
      | none => none
    | false => nth cs off
  | none => none
def aField (Γ : Ctx) (t : Nat) (x : Value) (i : Nat) : Option Value :=
  match descT Γ t, x with
  | some (.struct fs), .agg cs => match nth fs.toList i with
    | some f => aPart Γ f.type cs.toList f.offset
    | none => none
  | _, _ => none
def aIndexAddr (Γ : Ctx) (t : Nat) (x i : Value) : Option Value :=
  match i with
  | .int _ (.ofNat n) => match descT Γ t, x with
    | some (.array len e), .pointer (some ⟨b, o, none⟩) => match sizeT Γ e, Nat.ble (Nat.succ n) len with
      | some s, true => some (ptr b (Nat.add o (Nat.mul n s)))
      | _, _ => none
    | some (.slice e), .slice (some ⟨b, o, none⟩) len _ => match sizeT Γ e, Nat.ble (Nat.succ n) len with
      | some s, true => some (ptr b (Nat.add o (Nat.mul n s)))
      | _, _ => none
    | _, _ => none
  | _ => none
def aIndex (Γ : Ctx) (t : Nat) (x i : Value) : Option Value :=
  match i with
  | .int _ (.ofNat n) => match descT Γ t, x with
    | some (.array len e), .agg cs => match sizeT Γ e, Nat.ble (Nat.succ n) len with
      | some s, true => aPart Γ e cs.toList (Nat.mul n s)
      | _, _ => none
    | some .string, .string s => match nth s.data.toList n with
      | some b => some (byteV b)
      | none => none
    | _, _ => none
  | _ => none
def keyEq (E : Env) (t : Nat) (a b : Value) : Option Bool :=
  match a, b with
  | .int j m, .int k n => match sameK j k with | true => some (eqI m n) | false => none
  | .string p, .string q => some (beqU p.data.toList q.data.toList)
  | .bool p, .bool q => some (match p with | true => q | false => !q)
  | .agg p, .agg q => eqAgg E t p.toList q.toList
  | _, _ => none
def keyOk (E : Env) (t : Nat) (a : Value) : Bool :=
  match a, descT E.Γ t with
  | .int _ _, some (.int _) => true
  | .string _, some .string => true
  | .bool _, some .bool => true
  | .agg p, some _ => match eqAgg E t p.toList p.toList with
    | some _ => true
    | none => false
  | _, _ => false
def findM (E : Env) (t : Nat) (k : Value) : List (Value × Value) → Option (Option Value)
  | [] => some none
  | (a, v) :: r => match keyEq E t k a with
    | some true => some (some v)
    | some false => findM E t k r
    | none => none
def setM (E : Env) (t : Nat) (k v : Value) : List (Value × Value) → Option (List (Value × Value))
  | [] => some [(k, v)]
  | (a, w) :: r => match keyEq E t k a with
    | some true => some ((k, v) :: r)
    | some false => match setM E t k v r with
      | some l => some ((a, w) :: l)
      | none => none
    | none => none
def delM (E : Env) (t : Nat) (k : Value) : List (Value × Value) → Option (List (Value × Value))
  | [] => some []
  | (a, w) :: r => match keyEq E t k a with
    | some true => some r
    | some false => match delM E t k r with
      | some l => some ((a, w) :: l)
      | none => none
    | none => none
def mapKV (Γ : Ctx) (t : Nat) : Option (Nat × Nat) :=
  match descT Γ t with
  | some (.map k e) => some (k, e)
  | _ => none
def mapEs (h : H) (x : Value) : Option (List (Value × Value)) :=
  match x with
  | .map none => some []
  | .map (some r) => match h.blks.get r with
    | some (.map es) => some es
    | _ => none
  | _ => none
def aLookup (E : Env) (t : Nat) (x i : Value) (ok : Bool) (h : H) : Option Value :=
  match mapKV E.Γ t with
  | none => none
  | some (k, e) =>
    match keyOk E k i with
    | false => none
    | true =>
      match mapEs h x with
      | none => none
      | some es => match findM E k i es with
        | none => none
        | some (some v) => some (match ok with | true => .tuple #[v, .bool true] | false => v)
        | some none => match zeroT E.Γ e with
          | some z => some (match ok with | true => .tuple #[z, .bool false] | false => z)
          | none => none
def aMapSet (E : Env) (t : Nat) (m k v : Value) (h : H) : Option H :=
  match mapKV E.Γ t, m with
  | some (kt, _), .map (some r) => match keyOk E kt k, h.blks.get r with
    | true, some (.map es) => match setM E kt k v es with
      | some es' => some (h.put r (.map es'))
      | none => none
    | _, _ => none
  | _, _ => none
def firstOf (x : Value) (n sz : Nat) (h : H) : Option (List Value) :=
  match x with
  | .slice none _ _ => some []
  | .slice (some ⟨b, o, none⟩) _ _ => h.read b o (Nat.mul n sz)
  | .string s => match Nat.beq sz 1 with
    | true => some (s.data.toList.map byteV)
    | false => none
  | _ => none
def lenV : Value → Option Nat
  | .slice _ n _ => some n
  | .string s => some s.data.toList.length
  | _ => none
def appendTo (base : Option Addr) (len cap sz n : Nat) (new : List Value) (h : H) : Option Er :=
  match n with
  | 0 => some (.val (.slice base len cap) h)
  | _ => match Nat.ble (Nat.add len n) 536870912 && Nat.ble 1 sz with
    | false => none
    | true => match base with
      | none => match Nat.beq len 0 && Nat.beq cap 0 with
        | true => some (.val (.slice (some (addr h.next 0)) n capU) (h.new new sz))
        | false => none
      | some ⟨b, o, none⟩ =>
        match knownCap cap with
        | true => match Nat.ble (Nat.add len n) cap with
          | true => match h.write b (Nat.add o (Nat.mul len sz)) new with
            | some h => some (.val (.slice base (Nat.add len n) cap) h)
            | none => none
          | false => match h.read b o (Nat.mul len sz) with
            | some old => some (.val (.slice (some (addr h.next 0)) (Nat.add len n) capU) (h.new (old ++ new) sz))
            | none => none
        | false =>
          match h.blks.get b with
          | some (.cells cs an es rw) =>
            let e := Nat.add o (Nat.mul len sz)
            match Nat.beq es sz && rw with
            | false => none
            | true => match Nat.beq e cs.length with
              | true => some (.val (.slice (some (addr h.next 0)) (Nat.add len n) capU)
                  { blks := (h.blks.put b (some (.cells cs an es false))).put h.next (some (.cells (dropN o cs ++ new) (b :: an) es true)), next := Nat.succ h.next, base := h.base, wr := note h.base h.wr b })
              | false => match Nat.ble (Nat.add e new.length) cs.length with
                | true => match h.write b e new with
                  | some h => some (.val (.slice base (Nat.add len n) capU) h)
                  | none => none
                | false => none
          | _ => none
      | _ => none
def aAppend (Γ : Ctx) (ts : List Nat) (s x : Value) (h : H) : Option Er :=
  match ts, s with
  | t :: u :: _, .slice base len cap =>
    match descT Γ t, descT Γ u with
    | some (.slice e), some d =>
      match tiG Γ e with
      | none => none
      | some ti => match Nat.ble ti.info.bytes 65536, ti.info.zero with
        | true, some z => match Nat.beq (cellsL z).length ti.size && noTup z with
          | true => match d with
            | .int _ => match x with
              | .int _ (.ofNat n) => match Nat.ble n 1048576 with
                | true => appendTo base len cap ti.size n (repL (cellsL z) n) h
                | false => none
              | _ => none
            | _ => match lenV x with
              | none => none
              | some n => match firstOf x n ti.size h with
                | none => none
                | some new => appendTo base len cap ti.size n new h
          | false => none
        | _, _ => none
    | _, _ => none
  | _, _ => none
def aLen (Γ : Ctx) (t : Nat) (x : Value) (h : H) : Option Value :=
  match descT Γ t, x with
  | some .string, .string s => some (goInt (.ofNat s.data.toList.length))
  | some (.slice _), .slice _ n _ => some (goInt (.ofNat n))
  | some (.map _ _), .map none => some (goInt (.ofNat 0))
  | some (.map _ _), .map (some r) => match h.blks.get r with
    | some (.map es) => some (goInt (.ofNat es.length))
    | _ => none
  | some (.array n _), _ => some (goInt (.ofNat n))
  | _, _ => none
def aCap (Γ : Ctx) (t : Nat) (x : Value) : Option Value :=
  match descT Γ t, x with
  | some (.slice _), .slice none 0 0 => some (goInt (.ofNat 0))
  | _, _ => none
def aClear (Γ : Ctx) (t : Nat) (x : Value) (h : H) : Option Er :=
  match descT Γ t, x with
  | some (.slice _), .slice none 0 0 => some (.val (.tuple #[]) h)
  | some (.slice e), .slice (some ⟨b, o, none⟩) n _ => match n with
    | 0 => some (.val (.tuple #[]) h)
    | k + 1 => match zeroT Γ e with
      | some z => match noTup z with
        | true => match h.write b o (repL (cellsL z) (k + 1)) with
          | some h => some (.val (.tuple #[]) h)
          | none => none
        | false => none
      | none => none
  | _, _ => none
def aMin2 (mx : Bool) (a b : Value) : Option Value :=
  match a, b with
  | .int k x, .int _ y => some (.int k (match mx with
    | true => match ltI x y with | true => y | false => x
    | false => match ltI y x with | true => y | false => x))
  | _, _ => none
def aMin (mx : Bool) : Value → List Value → Option Value
  | x, [] => some x
  | x, y :: l => match aMin2 mx x y with
    | some z => aMin mx z l
    | none => none
def aBuiltin (E : Env) (b : Builtin) (ts : List Nat) (args : List Value) (h : H) : Option Er :=
  match b, args with
  | .append, [s, x] => aAppend E.Γ ts s x h
  | .len, [x] => match ts with
    | t :: _ => match aLen E.Γ t x h with
      | some v => some (.val v h)
      | none => none
    | _ => none
  | .cap, [x] => match ts with
    | t :: _ => match aCap E.Γ t x with
      | some v => some (.val v h)
      | none => none
    | _ => none
  | .clear, [x] => match ts with
    | t :: _ => aClear E.Γ t x h
    | _ => none
  | .min, x :: l => match aMin false x l with
    | some v => some (.val v h)
    | none => none
  | .max, x :: l => match aMin true x l with
    | some v => some (.val v h)
    | none => none
  | _, _ => none
end Go.Ab
namespace Go.Ab
structure Fr where
  fn : Nat
  sz : Nat
  tm : T Value
  todo : List Item
  dfs : List Deferred
  mode : FrameMode
  round : Option Nat
inductive End where
  | ret (v : Value)
  | pan (chain : List PanicEntry)
abbrev Mode? := Option FrameMode
abbrev RunF := Fr → Mode? → H → Option (End × Mode? × H)
def tget (tm : T Value) (t : Nat) : Value := match tm.get t with | some v => v | none => undef
def ev (tm : T Value) : Operand → Value
  | .tmp t => tget tm t
  | .const v => v
  | .global g => ptr g 0
  | .func f => .func (.func f) #[] #[]
def evs (tm : T Value) : List Operand → List Value
  | [] => []
  | o :: l => ev tm o :: evs tm l
def evP (tm : T Value) : List (Nat × Operand) → List (Nat × Value)
  | [] => []
  | (i, o) :: l => (i, ev tm o) :: evP tm l
def evO (tm : T Value) : Option Operand → Option Value
  | none => none
  | some o => some (ev tm o)
def enter (E : Env) (f : Nat) (args : List Value) : Option Fr :=
  match E.Γ.funcs.get f with
  | some fn => match fn.body with
    | some c => match fn.name == "runtime.NumGoroutine" with
      | false => match Nat.ble args.length fn.ntmps with
        | true => some { fn := f, sz := fn.ntmps, tm := T.ofList args, todo := [.code c], dfs := [], mode := .run, round := none }
        | false => none
      | true => none
    | none => none
  | none => none
def isYield : Fn → Bool
  | .yield _ => true
  | _ => false
inductive OR where
  | val (v : Value) (u : Mode?) (h : H)
  | dfr (d : Deferred) (h : H)
  | pan (chain : List PanicEntry) (u : Mode?) (h : H)
def ofEr (u : Mode?) : Option Er → Option OR
  | some (.val v h) => some (.val v u h)
  | none => none
def ofV (u : Mode?) (h : H) : Option Value → Option OR
  | some v => some (.val v u h)
  | none => none
inductive Tg where
  | fn (f : Nat) (args : List Value)
  | yield (l : Nat) (args : List Value)
def tgOf (fn : Fn) (captured : Array Value) (args : List Value) : Option Tg :=
  match fn with
  | .func f => some (.fn f (args ++ captured.toList))
  | .yield l => some (.yield l args)
  | _ => none
def zipPut (tm : T Value) (sz : Nat) : List Nat → List Value → Option (T Value)
  | [], [] => some tm
  | t :: ts, v :: vs => match Nat.ble (Nat.succ t) sz with
    | true => zipPut (tm.put t (some v)) sz ts vs
    | false => none
  | _, _ => none
def szOf (E : Env) (f : Nat) : Nat := match E.Γ.funcs.get f with | some fn => fn.ntmps | none => 0
def roundFr (E : Env) (l : Nat) (args : List Value) (h : H) : Option Fr :=
  match h.blks.get l with
  | some (.loop r) =>
    let sz := szOf E r.fn
    match zipPut r.tm sz r.params args with
    | some tm => some { fn := r.fn, sz, tm, todo := [.code r.assign, .beginRound, .code r.body], dfs := [], mode := .run, round := some l }
    | none => none
  | _ => none
def runTg (E : Env) (callee : RunF) (tg : Tg) (u : Mode?) (h : H) : Option (End × Mode? × H) :=
  match tg with
  | .fn f args => match E.stub f args h with
    | some (some (v, h')) => some (.ret v, u, h')
    | some none => none
    | none => match enter E f args with
      | some fr => callee fr u h
      | none => none
  | .yield l args => match roundFr E l args h with
    | some fr => callee fr u h
    | none => none
def aCall (E : Env) (callee : RunF) (fr : Fr) (u : Mode?) (tm : T Value) (c : Call) (h : H) : Option OR :=
  let args := evs tm c.args.toList
  match c.callee with
  | .builtin .recover => match fr.round, u with
    | none, some (.panicking (e :: older)) => match e.recovered || e.goexit with
      | true => some (.val .nilIface u h)
      | false => some (.val e.v (some (.panicking ({ v := e.v, recovered := true } :: older))) h)
    | none, some _ => some (.val .nilIface u h)
    | none, none => some (.val .nilIface u h)
    | some _, _ => none
  | .builtin b => ofEr u (aBuiltin E b c.argTypes.toList args h)
  | .invoke _ _ => none
  | .value f => match ev tm f with
    | .func fn first captured => match tgOf fn captured (first.toList ++ args) with
      | some tg => match runTg E callee tg none h with
        | some (.ret v, _, h') => some (.val v u h')
        | some (.pan ch, _, h') => some (.pan ch u h')
        | none => none
      | none => none
    | _ => none
def aAssert (Γ : Ctx) (x : Value) (asserted : Nat) (ok : Bool) : Option Value :=
  match descT Γ asserted, x with
  | some (.interface _), _ => none
  | some _, .iface t v => match Nat.beq t asserted, ok with
    | true, true => some (.tuple #[v, .bool true])
    | true, false => some v
    | false, true => match zeroT Γ asserted with
      | some z => some (.tuple #[z, .bool false])
      | none => none
    | false, false => none
  | some _, .nilIface => match ok with
    | true => match zeroT Γ asserted with
      | some z => some (.tuple #[z, .bool false])
      | none => none
    | false => none
  | _, _ => none
def vEr (h : H) : Option Value → Option Er
  | some v => some (.val v h)
  | none => none
def aPlain (E : Env) (tm : T Value) (o : Op) (h : H) : Option Er :=
  match o with
  | .move x => some (.val (ev tm x) h)
  | .assign x => some (.val (ev tm x) h)
  | .pick c a b => match ev tm c with
    | .bool true => some (.val (ev tm a) h)
    | .bool false => some (.val (ev tm b) h)
    | _ => none
  | .alloc e => match zeroT E.Γ e with
    | some z => match noTup z with
      | true => some (.val (ptr h.next 0) (h.new (cellsL z) 0))
      | false => none
    | none => none
  | .box _ x => match noTup (ev tm x) with
    | true => some (.val (ptr h.next 0) (h.new (cellsL (ev tm x)) 0))
    | false => none
  | .build t ps => vEr h (aBuild E.Γ t (evP tm ps.toList))
  | .buildSlice t n ps => aBuildSlice E.Γ t n (evP tm ps.toList) h
  | .load t a => aLoad E.Γ t (ev tm a) h
  | .store t a x => aStore E.Γ t (ev tm a) (ev tm x) h
  | .nilCheck x => vEr h (aNilCheck (ev tm x))
  | .binOp op t x y _ => vEr h (aBin E op t x y (ev tm x) (ev tm y))
  | .unOp op _ x => vEr h (aUn op (ev tm x))
  | .convert s d x => vEr h (aConv E.Γ s d (ev tm x))
  | .makeInterface t x => match descT E.Γ t with
    | some (.interface _) => none
    | some _ => some (.val (.iface t (ev tm x)) h)
    | none => none
  | .makeFunc fn a b => match isYield fn with
    | true => none
    | false => some (.val (.func fn ⟨evs tm a.toList⟩ ⟨evs tm b.toList⟩) h)
  | .makeMap t r => match r with
    | none => some (.val (.map (some h.next)) (h.alloc (.map [])))
    | some r => match descT E.Γ t, ev tm r with
      | some (.map _ _), .int _ _ => some (.val (.map (some h.next)) (h.alloc (.map [])))
      | _, _ => none
  | .makeSlice t n c => aMakeSlice E.Γ t (ev tm n) (ev tm c) h
  | .slice t x l hh m => aSlice E.Γ t (ev tm x) (evO tm l) (evO tm hh) (evO tm m) h
  | .fieldAddr t x i => vEr h (aFieldAddr E.Γ t (ev tm x) i)
  | .field t x i => vEr h (aField E.Γ t (ev tm x) i)
  | .indexAddr t x i => vEr h (aIndexAddr E.Γ t (ev tm x) (ev tm i))
  | .index t x i => vEr h (aIndex E.Γ t (ev tm x) (ev tm i))
  | .lookup t x i ok => vEr h (aLookup E t (ev tm x) (ev tm i) ok h)
  | .mapUpdate t m k v => match aMapSet E t (ev tm m) (ev tm k) (ev tm v) h with
    | some h => some (.val undef h)
    | none => none
  | .insert t m k v => match aMapSet E t (ev tm m) (ev tm k) (ev tm v) h with
    | some h => some (.val undef h)
    | none => none
  | .range t x => match descT E.Γ t, ev tm x with
    | some .string, .string s => some (.val (ptr h.next 0) (h.alloc (.iter s 0)))
    | _, _ => none
  | .next it true => match ev tm it with
    | .pointer (some ⟨r, 0, none⟩) => match h.blks.get r with
      | some (.iter s pos) => match Nat.ble (Nat.succ pos) s.data.toList.length with
        | true => match Utf8.decode s pos with
          | (c, w) => some (.val (.tuple #[.bool true, goInt (.ofNat pos), .int .i32 c]) (h.put r (.iter s (Nat.add pos w))))
        | false => some (.val (.tuple #[.bool false]) h)
      | _ => none
    | _ => none
  | .typeAssert x _ t ok => vEr h (aAssert E.Γ (ev tm x) t ok)
  | .extract t i => match ev tm t with
    | .tuple vs => vEr h (nth vs.toList i)
    | _ => none
  | _ => none
def aOp (E : Env) (callee : RunF) (fr : Fr) (u : Mode?) (tm : T Value) (o : Op) (h : H) : Option OR :=
  match o with
  | .call c => aCall E callee fr u tm c h
  | .defer c => match fr.round with
    | none => match c.callee with
      | .value f => match ev tm f with
        | .func fn first captured => some (.dfr { target := .fn fn captured, args := first ++ (⟨evs tm c.args.toList⟩ : Array Value) } h)
        | _ => none
      | _ => none
    | some _ => none
  | .panic x => match ev tm x with
    | .iface t v => some (.pan [{ v := .iface t v, recovered := false }] u h)
    | _ => none
  | o => ofEr u (aPlain E tm o h)
def dstOf (ops : List Oper) (j : Nat) : Option Nat :=
  match nth ops j with
  | some o => o.dst
  | none => none
def wantedL (ops : List Oper) (tm : T Value) (g : Option (Nat × Bool)) : Bool :=
  match g with
  | none => true
  | some (j, want) => match dstOf ops j with
    | some d => match tm.get d with
      | some (.bool b) => match b, want with
        | true, true => true
        | false, false => true
        | _, _ => false
      | _ => false
    | none => false
def putD (sz : Nat) (tm : T Value) (d : Option Nat) (v : Value) : Option (T Value) :=
  match d with
  | none => some tm
  | some d => match Nat.ble (Nat.succ d) sz with
    | true => some (tm.put d (some v))
    | false => none
inductive RR where
  | fin (tm : T Value) (dfs : List Deferred) (u : Mode?) (h : H)
  | pan (chain : List PanicEntry) (tm : T Value) (dfs : List Deferred) (u : Mode?) (h : H)
def aOps (E : Env) (callee : RunF) (fr : Fr) (ops : List Oper) : List Oper → T Value → List Deferred → Mode? → H → Option RR
  | [], tm, dfs, u, h => some (.fin tm dfs u h)
  | o :: rest, tm, dfs, u, h =>
    match wantedL ops tm o.guard with
    | false => match putD fr.sz tm o.dst undef with
      | some tm => aOps E callee fr ops rest tm dfs u h
      | none => none
    | true => match aOp E callee fr u tm o.op h with
      | none => none
      | some (.val v u h) => match putD fr.sz tm o.dst v with
        | some tm => aOps E callee fr ops rest tm dfs u h
        | none => none
      | some (.dfr d h) => match putD fr.sz tm o.dst undef with
        | some tm => aOps E callee fr ops rest tm (d :: dfs) u h
        | none => none
      | some (.pan ch u h) => some (.pan ch tm dfs u h)
def orderBits : List Nat → List Oper → List Nat
  | acc, [] => acc
  | acc, o :: l => orderBits (acc ++ [bits acc o.after.toList 0]) l
where
  bits (acc : List Nat) : List Edge → Nat → Nat
    | [], s => s
    | e :: l, s => match Region.binds .any e with
      | true => bits acc l (Nat.lor s (Nat.lor (Nat.pow 2 e.on) (match nth acc e.on with | some b => b | none => 0)))
      | false => bits acc l s
inductive Eye where
  | quiet
  | block (b : Nat)
  | all
def eyeSlice : Value → Eye
  | .slice (some ⟨b, _, _⟩) _ cap => match knownCap cap with
    | true => .quiet
    | false => .block b
  | _ => .quiet
def eyeLoad : Value → Eye
  | .pointer (some ⟨b, _, _⟩) => .block b
  | _ => .all
def eyeLen : List Value → Eye
  | .map (some r) :: _ => .block r
  | _ => .quiet
def eyeOf (next : Nat) (tm : T Value) : Op → Eye
  | .move _ => .quiet
  | .assign _ => .quiet
  | .pick _ _ _ => .quiet
  | .build _ _ => .quiet
  | .nilCheck _ => .quiet
  | .binOp _ _ _ _ _ => .quiet
  | .unOp _ _ _ => .quiet
  | .makeInterface _ _ => .quiet
  | .makeFunc _ _ _ => .quiet
  | .slice _ x _ _ _ => eyeSlice (ev tm x)
  | .fieldAddr _ _ _ => .quiet
  | .field _ _ _ => .quiet
  | .indexAddr _ _ _ => .quiet
  | .index _ _ _ => .quiet
  | .extract _ _ => .quiet
  | .typeAssert _ _ _ _ => .quiet
  | .alloc _ => .block next
  | .box _ _ => .block next
  | .buildSlice _ _ _ => .block next
  | .load _ a => eyeLoad (ev tm a)
  | .call c => match c.callee with
    | .builtin .min => .quiet
    | .builtin .max => .quiet
    | .builtin .len => eyeLen (evs tm c.args.toList)
    | _ => .all
  | _ => .all
structure Seen where
  at_ : Nat
  eye : Eye
  wr : List Nat
def bitOf (bs : List Nat) (i j : Nat) : Bool := match nth bs i with | some b => Nat.testBit b j | none => false
def either (a : Eye) (x : List Nat) (b : Eye) (y : List Nat) : Bool :=
  match a, b with
  | .all, .all => match x, y with
    | [], [] => true
    | _, _ => false
  | .all, .block c => !(memN c x)
  | .block c, .all => !(memN c y)
  | _, _ => true
def agrees (bs : List Nat) (j : Nat) (e : Eye) (w : List Nat) : List Seen → Bool
  | [] => true
  | s :: l => (bitOf bs j s.at_ || either s.eye s.wr e w) && agrees bs j e w l
def alone (bs : List Nat) (i : Nat) : Nat → List Oper → Bool
  | _, [] => true
  | j, _ :: l => (Nat.beq j i || bitOf bs i j || bitOf bs j i) && alone bs i (Nat.succ j) l
def aOpsD (E : Env) (callee : RunF) (fr : Fr) (ops : List Oper) (bs : List Nat) : Nat → List Oper → List Seen → T Value → List Deferred → Mode? → H → Option RR
  | _, [], _, tm, dfs, u, h => some (.fin tm dfs u h)
  | i, o :: rest, sn, tm, dfs, u, h =>
    match wantedL ops tm o.guard with
    | false => match putD fr.sz tm o.dst undef with
      | some tm => aOpsD E callee fr ops bs (Nat.succ i) rest sn tm dfs u h
      | none => none
    | true => match aOp E callee fr u tm o.op { blks := h.blks, next := h.next, base := h.next, wr := [] } with
      | none => none
      | some (.val v u h') => match agrees bs i (eyeOf h.next tm o.op) h'.wr sn with
        | true => match putD fr.sz tm o.dst v with
          | some tm' => aOpsD E callee fr ops bs (Nat.succ i) rest (⟨i, eyeOf h.next tm o.op, h'.wr⟩ :: sn) tm' dfs u { blks := h'.blks, next := h'.next, base := h.base, wr := noteAll h.base h.wr h'.wr }
          | none => none
        | false => none
      | some (.dfr _ _) => none
      | some (.pan ch u h') => match alone bs i 0 ops with
        | true => some (.pan ch tm dfs u { blks := h'.blks, next := h'.next, base := h.base, wr := noteAll h.base h.wr h'.wr })
        | false => none
structure St where
  fr : Fr
  u : Mode?
  h : H
inductive SR where
  | next (s : St)
  | fin (e : End) (u : Mode?) (h : H)
  | bad (why : String)
def raiseM (m : FrameMode) (ch : List PanicEntry) : FrameMode :=
  match m with
  | .panicking old => .panicking (ch ++ old)
  | _ => .panicking ch
def settleM (m : FrameMode) : FrameMode :=
  match m with
  | .panicking (e :: older) => match e.recovered with
    | true => match older.dropWhile (!·.goexit) with
      | [] => .returning
      | rest => .panicking rest
    | false => m
  | m => m
def isRun : FrameMode → Bool
  | .run => true
  | _ => false
def isReady : LoopState → Bool
  | .ready => true
  | _ => false
def isBusy : LoopState → Bool
  | .busy => true
  | _ => false
def putLoop (h : H) (l : Nat) (r : ALoop) : H := h.put l (.loop r)
def jumpSt : Option Code → LoopState
  | none => .ready
  | some _ => .done
def leave (fr : Fr) (u : Mode?) (h : H) (jump : Option Code) : SR :=
  match fr.round with
  | none => match jump with
    | none => .next ⟨{ fr with mode := .returning }, u, h⟩
    | some .ret => .next ⟨{ fr with mode := .returning }, u, h⟩
    | some _ => .bad "leave"
  | some l => match h.blks.get l with
    | some (.loop r) => .fin (.ret (.bool jump.isNone)) u (putLoop h l { r with state := jumpSt jump, pending := jump })
    | _ => .bad "round"
def resL (Γ : Ctx) (tm : T Value) (h : H) : List ResultVar → Option (List Value)
  | [] => some []
  | .tmp t :: l => match resL Γ tm h l with
    | some r => some (tget tm t :: r)
    | none => none
  | .cell a t :: l => match tget tm a, tiG Γ t with
    | .pointer (some ⟨b, o, none⟩), some ti => match h.load ti b o, resL Γ tm h l with
      | some v, some r => some (v :: r)
      | _, _ => none
    | _, _ => none
def resV : List Value → Value
  | [v] => v
  | l => .tuple ⟨l⟩
def enterLoopA (fr : Fr) (params : List Nat) (assign body : Code) (h : H) : Option (Nat × List Deferred × H) :=
  match fr.round with
  | none =>
    let h1 := h.alloc (.defs (some []))
    some (h1.next, [{ target := .collected h.next, args := #[] }],
      h1.alloc (.loop { state := .ready, pending := none, fn := fr.fn, tm := fr.tm, params, assign, body, defers := h.next }))
  | some l => match h.blks.get l with
    | some (.loop r) => some (h.next, [],
      h.alloc (.loop { state := .ready, pending := none, fn := fr.fn, tm := fr.tm, params, assign, body, defers := r.defers }))
    | _ => none
def stepRun (E : Env) (callee : RunF) (fr : Fr) (u : Mode?) (h : H) : SR :=
  match fr.todo with
    | [] => leave fr u h none
    | .code c :: k => match c with
      | .region _ ops false => match aOps E callee fr ops.toList ops.toList fr.tm fr.dfs u h with
        | some (.fin tm dfs u h) => .next ⟨{ fr with tm, dfs, todo := k }, u, h⟩
        | some (.pan ch tm dfs u h) => .next ⟨{ fr with tm, dfs, todo := k, mode := raiseM fr.mode ch }, u, h⟩
        | none => .bad "region"
      | .region _ ops true => match aOpsD E callee fr ops.toList (orderBits [] ops.toList) 0 ops.toList [] fr.tm fr.dfs u h with
        | some (.fin tm dfs u h) => .next ⟨{ fr with tm, dfs, todo := k }, u, h⟩
        | some (.pan ch tm dfs u h) => .next ⟨{ fr with tm, dfs, todo := k, mode := raiseM fr.mode ch }, u, h⟩
        | none => .bad "drawn region"
      | .ret => leave fr u h (some .ret)
      | .skip => .next ⟨{ fr with todo := k }, u, h⟩
      | .seq a b => .next ⟨{ fr with todo := .code a :: .code b :: k }, u, h⟩
      | .cond c a b => match ev fr.tm c with
        | .bool true => .next ⟨{ fr with todo := .code a :: k }, u, h⟩
        | .bool false => .next ⟨{ fr with todo := .code b :: k }, u, h⟩
        | _ => .bad "cond"
      | .block id b => .next ⟨{ fr with todo := .code b :: .inBlock id :: k }, u, h⟩
      | .loop b => .next ⟨{ fr with todo := .code b :: .inLoop b :: k }, u, h⟩
      | .scope b => .next ⟨{ fr with todo := .code b :: .inScope b :: k }, u, h⟩
      | .exit id => match exitTo id k with
        | some k' => .next ⟨{ fr with todo := k' }, u, h⟩
        | none => leave fr u h (some (.exit id))
      | .goto _ => .bad "goto"
      | .label _ => .bad "label"
      | .rangeFunc f params assign body =>
        match enterLoopA fr params.toList assign body h with
        | none => .bad "rangeFunc"
        | some (l, mark, h1) => match ev fr.tm f with
          | .func fn first captured => match tgOf fn captured (first.toList ++ [.func (.yield l) #[] #[]]) with
            | some tg => match runTg E callee tg none h1 with
              | some (.ret _, _, h2) => .next ⟨{ fr with todo := .endRangeFunc l :: k, dfs := mark ++ fr.dfs }, u, h2⟩
              | some (.pan ch, _, h2) => .next ⟨{ fr with todo := .endRangeFunc l :: k, dfs := mark ++ fr.dfs, mode := raiseM fr.mode ch }, u, h2⟩
              | none => .bad "rangeFunc's call"
            | none => .bad "rangeFunc's target"
          | _ => .bad "rangeFunc's function"
      | .refuse w => .bad ("refused: " ++ w)
    | .inBlock _ :: k => .next ⟨{ fr with todo := k }, u, h⟩
    | .inScope _ :: k => .next ⟨{ fr with todo := k }, u, h⟩
    | .inLoop b :: k => .next ⟨{ fr with todo := .code b :: .inLoop b :: k }, u, h⟩
    | .beginRound :: k => match fr.round with
      | some l => match h.blks.get l with
        | some (.loop r) => match isReady r.state with
          | true => .next ⟨{ fr with todo := k }, u, putLoop h l { r with state := .busy }⟩
          | false => .bad "beginRound"
        | _ => .bad "beginRound"
      | none => .bad "beginRound"
    | .endRangeFunc l :: k => match h.blks.get l with
      | some (.loop r) => match isBusy r.state with
        | true => .bad "endRangeFunc"
        | false => .next ⟨{ fr with todo := match r.pending with | some c => .code c :: k | none => k }, u, putLoop h l { r with state := .exhausted }⟩
      | _ => .bad "endRangeFunc"
    | _ => .bad "item"
def stepOut (E : Env) (callee : RunF) (fr : Fr) (m : FrameMode) (u : Mode?) (h : H) : SR :=
  match fr.round with
   | some _ => .bad "a round that panics"
   | none => match fr.dfs with
    | [] => match E.Γ.funcs.get fr.fn with
      | none => .bad "function"
      | some fn => match m with
        | .panicking ch => .fin (.pan ch) u h
        | _ => match resL E.Γ fr.tm h fn.results.toList with
          | some vs => .fin (.ret (resV vs)) u h
          | none => .bad "results"
    | d :: ds => match d.target with
      | .collected b => match h.blks.get b with
        | some (.defs (some l)) => .next ⟨{ fr with dfs := l ++ ds }, u, h.put b (.defs none)⟩
        | _ => .bad "collected"
      | .fn fn captured => match tgOf fn captured d.args.toList with
        | some (.fn f args) => match enter E f args with
         | none => .bad "deferred frame"
         | some fr1 => match callee fr1 (some m) h with
          | some (.ret _, some m', h') => match isRun m' with
            | true => .bad "deferred mode"
            | false => .next ⟨{ fr with dfs := ds, mode := settleM m' }, u, h'⟩
          | some (.pan ch, some m', h') => .next ⟨{ fr with dfs := ds, mode := raiseM m' ch }, u, h'⟩
          | _ => .bad "deferred call"
        | _ => .bad "deferred target"
      | _ => .bad "deferred"
def step (E : Env) (callee : RunF) (s : St) : SR :=
  match s.fr.mode with
  | .run => stepRun E callee s.fr s.u s.h
  | m => stepOut E callee s.fr m s.u s.h
def iter (f : St → SR) : Nat → St → SR
  | 0, s => f s
  | n + 1, s => match iter f n s with
    | .next s' => iter f n s'
    | r => r
def run (E : Env) (n : Nat) : Nat → RunF
  | 0, _, _, _ => none
  | d + 1, fr, u, h => match iter (step E (run E n d)) n ⟨fr, u, h⟩ with
    | .fin e u h => some (e, u, h)
    | _ => none
def noStub : Nat → List Value → H → Option (Option (Value × H)) := fun _ _ _ => none
def envOf (P : Program) : Env := ⟨P, ctxOf P, noStub⟩
def h0 (n : Nat) : H := ⟨.leaf, n, n, []⟩
def call (E : Env) (n d f : Nat) (args : List Value) (h : H) : Option (End × Mode? × H) := runTg E (run E n d) (.fn f args) none h
end Go.Ab
namespace Go.Ab
abbrev Ren := Nat → Option Nat
mutual
def ren (σ : Ren) : Nat → Value → Option Value
  | 0, _ => none
  | n + 1, v => match v with
    | .pointer (some ⟨b, o, none⟩) => match σ b with
      | some b' => some (.pointer (some ⟨b', o, none⟩))
      | none => none
    | .slice (some ⟨b, o, none⟩) l c => match σ b with
      | some b' => some (.slice (some ⟨b', o, none⟩) l c)
      | none => none
    | .map (some b) => match σ b with
      | some b' => some (.map (some b'))
      | none => none
    | .func f a b => match f with
      | .yield _ => none
      | f => match rens σ n a.toList, rens σ n b.toList with
        | some x, some y => some (.func f ⟨x⟩ ⟨y⟩)
        | _, _ => none
    | .iface t v => match ren σ n v with
      | some w => some (.iface t w)
      | none => none
    | .agg a => match rens σ n a.toList with
      | some x => some (.agg ⟨x⟩)
      | none => none
    | .tuple a => match rens σ n a.toList with
      | some x => some (.tuple ⟨x⟩)
      | none => none
    | .pointer none => some v
    | .slice none _ _ => some v
    | .map none => some v
    | .bool _ => some v
    | .int _ _ => some v
    | .string _ => some v
    | .nilFunc => some v
    | .nilIface => some v
    | _ => none
def rens (σ : Ren) : Nat → List Value → Option (List Value)
  | 0, _ => none
  | _ + 1, [] => some []
  | n + 1, v :: l => match ren σ n v, rens σ n l with
    | some x, some y => some (x :: y)
    | _, _ => none
end
structure MS where
  σ : T Nat
  todo : List (Nat × Nat)
def MS.bind (s : MS) (b b' : Nat) : Option MS :=
  match s.σ.get b with
  | some x => match Nat.beq x b' with
    | true => some s
    | false => none
  | none => some ⟨s.σ.put b (some b'), (b, b') :: s.todo⟩
def sameKind : IntKind → IntKind → Bool
  | .i8, .i8 => true
  | .i16, .i16 => true
  | .i32, .i32 => true
  | .i64, .i64 => true
  | .u8, .u8 => true
  | .u16, .u16 => true
  | .u32, .u32 => true
  | .u64, .u64 => true
  | _, _ => false
mutual
def mV : Nat → Value → Value → MS → Option MS
  | 0, _, _, _ => none
  | n + 1, c, a, s => match c with
    | .int j x => match a with
      | .int k y => match eqI x y with
        | true => match sameKind j k with
          | true => some s
          | false => none
        | false => none
      | _ => none
    | .bool x => match a with
      | .bool y => match x, y with
        | true, true => some s
        | false, false => some s
        | _, _ => none
      | _ => none
    | .string x => match a with
      | .string y => match beqU x.data.toList y.data.toList with
        | true => some s
        | false => none
      | _ => none
    | .pointer none => match a with
      | .pointer none => some s
      | _ => none
    | .pointer (some ⟨b, o, none⟩) => match a with
      | .pointer (some ⟨b', o', none⟩) => match Nat.beq o o' with
        | true => s.bind b b'
        | false => none
      | _ => none
    | .slice none l c => match a with
      | .slice none l' c' => match Nat.beq l l', Nat.beq c c' with
        | true, true => some s
        | _, _ => none
      | _ => none
    | .slice (some ⟨b, o, none⟩) l c => match a with
      | .slice (some ⟨b', o', none⟩) l' c' => match Nat.beq l l' with
        | true => match Nat.beq o o', Nat.beq c c' with
          | true, true => s.bind b b'
          | _, _ => none
        | false => none
      | _ => none
    | .map none => match a with
      | .map none => some s
      | _ => none
    | .map (some b) => match a with
      | .map (some b') => s.bind b b'
      | _ => none
    | .nilFunc => match a with
      | .nilFunc => some s
      | _ => none
    | .nilIface => match a with
      | .nilIface => some s
      | _ => none
    | .func (.func f) p q => match a with
      | .func (.func g) p' q' => match Nat.beq f g with
        | true => match mVs n p.toList p'.toList s with
          | some s => mVs n q.toList q'.toList s
          | none => none
        | false => none
      | _ => none
    | .iface t v => match a with
      | .iface t' v' => match Nat.beq t t' with
        | true => mV n v v' s
        | false => none
      | _ => none
    | .agg p => match a with
      | .agg p' => mVs n p.toList p'.toList s
      | _ => none
    | .tuple p => match a with
      | .tuple p' => mVs n p.toList p'.toList s
      | _ => none
    | _ => none
def mVs : Nat → List Value → List Value → MS → Option MS
  | 0, _, _, _ => none
  | n + 1, c, a, s => match c with
    | [] => match a with
      | [] => some s
      | _ :: _ => none
    | x :: l => match a with
      | y :: m => match mV n x y s with
        | some s => mVs n l m s
        | none => none
      | [] => none
end
structure CB where
  cs : List Value
  es : Nat
def mBlks (g : Nat) (cbs : List CB) (h : H) : Nat → MS → Option (T Nat)
  | 0, _ => none
  | n + 1, s => match s.todo with
    | [] => some s.σ
    | (b, b') :: r => match Nat.ble g b with
      | false => none
      | true => match nth cbs (Nat.sub b g) with
        | some c => match h.blks.get b' with
          | some (.cells cs _ es _) => match Nat.beq c.es es with
            | true => match mVs 400 c.cs cs ⟨s.σ, r⟩ with
              | some s => mBlks g cbs h n s
              | none => none
            | false => none
          | _ => none
        | none => none
structure Memo where
  f : Nat
  args : List Value
  g : Nat
  cbs : List CB
  res : Value
  ids : List Nat
  news : List Blk
def Memo.base (m : Memo) : Nat := Nat.add m.g m.cbs.length
def idx (b : Nat) : List Nat → Nat → Option Nat
  | [], _ => none
  | x :: l, n => match Nat.beq x b with
    | true => some n
    | false => idx b l (Nat.succ n)
def sig (σ : T Nat) (base next : Nat) (ids : List Nat) : Ren := fun b => match Nat.ble base b with
  | true => idx b ids next
  | false => σ.get b
def renBs (σ : Ren) : List Blk → H → Option H
  | [], h => some h
  | .cells cs _ es rw :: l, h => match rens σ 400 cs with
    | some cs' => renBs σ l (h.alloc (.cells cs' [] es rw))
    | none => none
  | _ :: _, _ => none
def Memo.try_ (m : Memo) (args : List Value) (h : H) : Option (Value × H) :=
  match mVs 400 m.args args ⟨.leaf, []⟩ with
  | none => none
  | some s => match mBlks m.g m.cbs h 400 s with
    | none => none
    | some σ => match ren (sig σ m.base h.next m.ids) 400 m.res with
      | none => none
      | some v => match renBs (sig σ m.base h.next m.ids) m.news h with
        | none => none
        | some h' => some (v, h')
def rowsT : Nat → List CB → T Blk → T Blk
  | _, [], t => t
  | i, c :: l, t => rowsT (Nat.succ i) l (t.put i (some (.cells c.cs [] c.es false)))
def Memo.heap (m : Memo) : H := ⟨rowsT m.g m.cbs .leaf, m.base, m.base, []⟩
def getAll (t : T Blk) : List Nat → List (Option Blk)
  | [] => []
  | b :: l => t.get b :: getAll t l
def Memo.run (m : Memo) (E : Env) (n d : Nat) : Option (Value × List (Option Blk) × List Nat) :=
  match call E n d m.f m.args m.heap with
  | some (.ret v, _, h) => some (v, getAll h.blks m.ids, h.wr)
  | _ => none
def someAll : List Blk → List (Option Blk)
  | [] => []
  | b :: l => some b :: someAll l
def noneOf (ids : List Nat) : List Nat → Bool
  | [] => true
  | a :: l => match memN a ids with
    | true => false
    | false => noneOf ids l
def newsOk (ids : List Nat) : List Blk → Bool
  | [] => true
  | .cells _ an _ _ :: l => match noneOf ids an with
    | true => newsOk ids l
    | false => false
  | _ :: _ => false
def lowIds (base : Nat) : List Nat → Bool
  | [] => true
  | a :: l => match Nat.ble base a with
    | true => lowIds base l
    | false => false
def noDup : List Nat → Bool
  | [] => true
  | x :: l => match memN x l with
    | true => false
    | false => noDup l
def Memo.fine (m : Memo) (E : Env) : Bool := newsOk m.ids m.news && lowIds m.base m.ids && Nat.beq m.g E.P.globals.size && (E.stub m.f m.args m.heap).isNone && noDup m.ids
def tryAll (args : List Value) (h : H) : List Memo → Option (Value × H)
  | [] => none
  | m :: l => match m.try_ args h with
    | some r => some r
    | none => tryAll args h l
abbrev Stub := Nat → List Value → H → Option (Option (Value × H))
def memoStub (ms : T (List Memo)) (st : Stub) : Stub := fun f args h =>
  match ms.get f with
  | none => st f args h
  | some l => match tryAll args h l with
    | some r => some (some r)
    | none => st f args h
end Go.Ab
