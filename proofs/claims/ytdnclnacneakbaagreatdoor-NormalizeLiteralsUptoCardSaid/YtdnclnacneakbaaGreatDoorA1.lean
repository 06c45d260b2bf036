/- The semantics' steps keep two runs alike where they differ only in places that neither looks at: the relation and its steps. -/
import Derived.Calls
import Derived.KernelRfl
import Derived.Laws.Sem
import Derived.Laws.StructEq
import GoSem.Dispatch
import GoSem.Step
set_option linter.unusedVariables false
set_option linter.unusedSimpArgs false
set_option linter.unusedSectionVars false
section
namespace Go.Am
inductive Pa where
  | z | o (p : Pa) | i (p : Pa)
  deriving DecidableEq
def pathAt : Nat → Nat → Pa
  | 0, _ => .z
  | _ + 1, 0 => .z
  | n + 1, k + 1 => if k % 2 = 0 then .o (pathAt n (k / 2)) else .i (pathAt n (k / 2))
def path (k : Nat) : Pa := pathAt k k
inductive Tr (α : Type) where
  | nil
  | node (l : Tr α) (v : Option α) (r : Tr α)
def Tr.get {α : Type} : Tr α → Pa → Option α
  | .nil, _ => none
  | .node _ v _, .z => v
  | .node l _ _, .o p => l.get p
  | .node _ _ r, .i p => r.get p
def Tr.set {α : Type} (t : Tr α) (p : Pa) (x : Option α) : Tr α :=
  match p, t with
  | .z, .nil => .node .nil x .nil
  | .z, .node l _ r => .node l x r
  | .o p, .nil => .node (Tr.set .nil p x) none .nil
  | .o p, .node l v r => .node (Tr.set l p x) v r
  | .i p, .nil => .node .nil none (Tr.set .nil p x)
  | .i p, .node l v r => .node l v (Tr.set r p x)
inductive AV where
  | undef
  | any
  | bool (b : Bool)
  | int (k : IntKind) (n : Int)
  | str (s : List UInt8)
  | nilptr
  | ptr (b o : Nat)
  | nilslice
  | slice (b o len cap es : Nat)
  | nilmap
  | map (b : Nat)
  | nilfunc
  | func (f : Nat) (first caps : List AV)
  | yieldv (l : Nat)
  | niliface
  | agg (cs : List AV)
  | tuple (vs : List AV)
  deriving Inhabited
def AV.isNilIface : AV → Bool
  | .niliface => true
  | _ => false
def isConst : Operand → Bool
  | .const _ => true
  | _ => false
def AV.cells : AV → List AV
  | .agg cs => cs
  | v => [v]
def AV.scalar : AV → Bool
  | .undef | .any | .agg _ | .tuple _ => false
  | _ => true
inductive AObj where
  | cells (cs : List AV)
  | map (es : List (AV × AV × Nat)) (clock : Nat)
  | bag (es : List (AV × AV))
  | iter (m : Option Nat) (since : Nat) (seen : List Nat) (stepped : Nat)
  | at (m last stepped : Nat)
  | loop (st : LoopState) (pend : Option Code) (nt : Nat) (fr : Tr AV) (ps : List Tmp) (assign body : Code)
abbrev Get := Nat → Option AObj
inductive Eff where
  | keep
  | new (o : AObj)
  | put (b : Nat) (o : AObj)
  | swap (b : Nat) (o : AObj)
structure Heap where
  tr : Tr AObj
  next : Nat
  floor : Nat
  log : List Nat
def Heap.get (H : Heap) : Get := fun b => if b < H.next then H.tr.get (path b) else none
def noted (H : Heap) (b : Nat) : List Nat := if b < H.floor && !H.log.contains b then b :: H.log else H.log
def Heap.app (H : Heap) : Eff → Option Heap
  | .keep => some H
  | .new o => some { H with tr := H.tr.set (path H.next) (some o), next := H.next + 1 }
  | .put b o => if (H.get b).isSome then some { H with tr := H.tr.set (path b) (some o), log := noted H b } else none
  | .swap b o => if (H.get b).isSome then some { H with tr := (H.tr.set (path b) none).set (path H.next) (some o), next := H.next + 1, log := noted H b } else none
def Get.cellsOf (g : Get) (b : Nat) : Option (List AV) :=
  match g b with
  | some (.cells cs) => some cs
  | _ => none
def splice (cs : List AV) (o : Nat) (vs : List AV) : List AV := cs.take o ++ vs ++ cs.drop (o + vs.length)
def Get.write (g : Get) (b o : Nat) (vs : List AV) : Option Eff :=
  match g.cellsOf b with
  | some cs => if o + vs.length ≤ cs.length && vs.all AV.scalar then some (.put b (.cells (splice cs o vs))) else none
  | none => none
def Get.read (g : Get) (b o n : Nat) : Option (List AV) :=
  match g.cellsOf b with
  | some cs => if o + n ≤ cs.length then some ((cs.drop o).take n) else none
  | none => none
abbrev Fr := Tr AV
def Fr.at (fr : Fr) (t : Nat) : AV := (Tr.get fr (path t)).getD .undef
mutual
def ofVal : Value → Option AV
  | .bool b => some (.bool b)
  | .int k n => some (.int k n)
  | .string s => some (.str s.data.toList)
  | .pointer none => some .nilptr
  | .slice none 0 0 => some .nilslice
  | .map none => some .nilmap
  | .nilFunc => some .nilfunc
  | .nilIface => some .niliface
  | .agg ⟨cs⟩ => (ofVals cs).map .agg
  | .tuple ⟨[]⟩ => some .undef
  | _ => none
def ofVals : List Value → Option (List AV)
  | [] => some []
  | v :: vs => match ofVal v, ofVals vs with
    | some a, some as => some (a :: as)
    | _, _ => none
end
def ev (fr : Fr) : Operand → Option AV
  | .tmp t => some (fr.at t)
  | .const v => ofVal v
  | .func f => some (.func f [] [])
  | .global _ => none
def evs (fr : Fr) : List Operand → Option (List AV)
  | [] => some []
  | x :: xs => match ev fr x, evs fr xs with
    | some a, some as => some (a :: as)
    | _, _ => none
section
variable (P : Program)
def tsize (t : TypeId) : Option Nat := (P.info? t).map (·.size)
def tbytes (t : TypeId) : Option Nat := (P.info? t).map (·.bytes)
def isAggD : TypeDesc → Bool
  | .struct _ | .array _ _ => true
  | _ => false
def tagg (t : TypeId) : Option Bool := (P.underlying t).map isAggD
def tzero (t : TypeId) : Option AV := ((P.info? t).bind (·.zero)).bind ofVal
def telem (t : TypeId) : Option TypeId := match P.underlying t with | some (.slice e) => some e | _ => none
abbrev Out := Option (AV × Eff)
def load (g : Get) (t : TypeId) : AV → Option AV
  | .ptr b o => match tagg P t, tsize P t with
    | some true, some n => (g.read b o n).map .agg
    | some false, some _ => (g.read b o 1).bind (·.head?)
    | _, _ => none
  | _ => none
def store (g : Get) (t : TypeId) (a v : AV) : Option Eff :=
  match a, tsize P t with
  | .ptr b o, some n => if v.cells.length = n then g.write b o v.cells else none
  | _, _ => none
def boxed (nx : Nat) (v : AV) : Out := if v.cells.all AV.scalar then some (.ptr nx 0, .new (.cells v.cells)) else none
def fillAt (place : Nat → Option (Nat × Nat)) (cs : List AV) : List (Nat × AV) → Option (List AV)
  | [] => some cs
  | (i, v) :: rest => match place i with
    | none => none
    | some (off, size) => if v.cells.length ≠ size || off + v.cells.length > cs.length then none else fillAt place (splice cs off v.cells) rest
def places : List Field → Option (List (Nat × Nat))
  | [] => some []
  | f :: fs => match tsize P f.type, places fs with
    | some n, some ps => some ((f.offset, n) :: ps)
    | _, _ => none
def build (t : TypeId) (parts : List (Nat × AV)) : Option AV :=
  match tzero P t, P.underlying t with
  | some z, some (.struct fs) => match places P fs.toList with
    | some ps => (fillAt (fun i => ps[i]?) z.cells parts).map .agg
    | none => none
  | some z, some (.array _ e) => match tsize P e with
    | some n => (fillAt (fun i => some (i * n, n)) z.cells parts).map .agg
    | none => none
  | _, _ => none
def rep (n : Nat) (z : List AV) : List AV := (List.replicate n z).flatten
def mostCells : Nat := 100000
def buildSlice (nx : Nat) (t : TypeId) (len : Nat) (parts : List (Nat × AV)) : Out :=
  match telem P t with
  | some e => match tsize P e, tzero P e with
    | some n, some z => if n = 0 || len * n > mostCells || z.cells.length ≠ n then none else
      match fillAt (fun i => some (i * n, n)) (rep len z.cells) parts with
      | some cs => if cs.all AV.scalar then some (.slice nx 0 len len n, .new (.cells cs)) else none
      | none => none
    | _, _ => none
  | none => none
def makeSlice (nx : Nat) (t : TypeId) : AV → AV → Out
  | .int _ l, .int _ c => match telem P t with
    | some e => match tsize P e, tzero P e, tbytes P e with
      | some n, some z, some bs => if n = 0 || z.cells.length ≠ n || bs > 1000000 || l < 0 || c < l || c * n > mostCells then none else
        if z.cells.all AV.scalar then some (.slice nx 0 l.toNat c.toNat n, .new (.cells (rep c.toNat z.cells))) else none
      | _, _, _ => none
    | none => none
  | _, _ => none
def bound (hi : Nat) : Option AV → Nat → Option Nat
  | none, d => some d
  | some (.int _ i), _ => if 0 ≤ i && i ≤ hi then some i.toNat else none
  | some _, _ => none
def sliceOp (t : TypeId) (x : AV) (lo hi : Option AV) : Option AV :=
  match P.underlying t, x with
  | some .string, .str s => match bound s.length hi s.length with
    | some h => match bound h lo 0 with
      | some l => some (.str ((s.take h).drop l))
      | none => none
    | none => none
  | some (.slice e), .slice b o len cap es => if tsize P e ≠ some es then none else match bound cap hi len with
    | some h => match bound h lo 0 with
      | some l => some (.slice b (o + l * es) (h - l) (cap - l) es)
      | none => none
    | none => none
  | some (.slice e), .nilslice => if (tsize P e).isNone then none else match bound 0 hi 0 with
    | some h => match bound h lo 0 with
      | some _ => some .nilslice
      | none => none
    | none => none
  | _, _ => none
def fieldAddr (t : TypeId) (x : AV) (f : Nat) : Option AV :=
  match P.underlying t, x with
  | some (.struct fs), .ptr b o => match fs[f]? with
    | some fl => match tsize P fl.type with
      | some (_ + 1) => some (.ptr b (o + fl.offset))
      | _ => none
    | none => none
  | _, _ => none
def indexAddr (t : TypeId) : AV → AV → Option AV
  | .slice b o len _ es, .int _ i => match telem P t with
    | some e => if tsize P e = some es && 0 ≤ i && i < len then some (.ptr b (o + i.toNat * es)) else none
    | none => none
  | _, _ => none
def partOf (t : TypeId) (cs : List AV) (off : Nat) : Option AV :=
  match tagg P t, tsize P t with
  | some true, some n => if off + n ≤ cs.length then some (.agg ((cs.drop off).take n)) else none
  | some false, some _ => cs[off]?
  | _, _ => none
def field (t : TypeId) (x : AV) (f : Nat) : Option AV :=
  match P.underlying t, x with
  | some (.struct fs), .agg cs => match fs[f]? with
    | some fl => partOf P fl.type cs fl.offset
    | none => none
  | _, _ => none
def index (t : TypeId) : AV → AV → Option AV
  | .str s, .int _ i => match P.underlying t with
    | some .string => if 0 ≤ i then (s[i.toNat]?).map fun b => .int .u8 b.toNat else none
    | _ => none
  | .agg cs, .int _ i => match P.underlying t with
    | some (.array len e) => match tsize P e with
      | some n => if 0 ≤ i && i < len then partOf P e cs (i.toNat * n) else none
      | none => none
    | _ => none
  | _, _ => none
def cmpInt (op : BinOp) (x y : Int) : Option Bool :=
  match op with
  | .eql => some (x == y) | .neq => some (x != y) | .lss => some (x < y) | .leq => some (x ≤ y) | .gtr => some (x > y) | .geq => some (x ≥ y)
  | _ => none
def arith (op : BinOp) (k : IntKind) (x y : Int) : Option Int :=
  match op with
  | .add => some (k.wrap (x + y)) | .sub => some (k.wrap (x - y)) | .mul => some (k.wrap (x * y))
  | .quo => if y = 0 then none else some (k.wrap (x.tdiv y))
  | .rem => if y = 0 then none else some (x.tmod y)
  | .shl => if y < 0 then none else some (k.wrap (x * 2 ^ (min y.toNat k.bits)))
  | .shr => if y < 0 then none else some (x.fdiv (2 ^ (min y.toNat k.bits)))
  | _ => none
def bits (op : BinOp) (k : IntKind) (x y : Int) : Option Int :=
  let a := BitVec.ofInt k.bits x
  let b := BitVec.ofInt k.bits y
  match op with
  | .and => some (k.wrap (a &&& b).toNat) | .or => some (k.wrap (a ||| b).toNat) | .xor => some (k.wrap (a ^^^ b).toNat) | .andNot => some (k.wrap (a &&& ~~~b).toNat)
  | _ => none
def cmpStr (op : BinOp) (x y : List UInt8) : Option AV :=
  match op with
  | .add => if x.length + y.length ≤ 1000000000 then some (.str (x ++ y)) else none
  | .eql => some (.bool (x == y)) | .neq => some (.bool !(x == y))
  | .lss => some (.bool (Op.bytesLess x y)) | .leq => some (.bool (Op.bytesLess x y || x == y))
  | .gtr => some (.bool !(Op.bytesLess x y || x == y)) | .geq => some (.bool !(Op.bytesLess x y))
  | _ => none
mutual
def eqIn (ok : TypeId → Bool) : Nat → TypeId → AV → AV → Option Bool
  | 0, _, _, _ => none
  | d + 1, t, x, y =>
    match P.underlying t, x, y with
    | some .bool, .bool a, .bool b => some (a == b)
    | some (.int _), .int j a, .int k b => if j = k then some (a == b) else none
    | some .string, .str a, .str b => some (a == b)
    | some (.interface _), .niliface, .niliface => some true
    | some (.pointer _), .nilptr, .nilptr => some true
    | some (.pointer _), .nilptr, .ptr _ _ | some (.pointer _), .ptr _ _, .nilptr => some false
    | some (.slice _), .nilslice, .nilslice => some true
    | some (.slice _), .nilslice, .slice .. | some (.slice _), .slice .., .nilslice => some false
    | some (.map _ _), .nilmap, .nilmap => some true
    | some (.map _ _), .nilmap, .map _ | some (.map _ _), .map _, .nilmap => some false
    | some (.func ..), .nilfunc, .nilfunc => some true
    | some (.func ..), .nilfunc, .func .. | some (.func ..), .func .., .nilfunc => some false
    | some (.struct fs), .agg xs, .agg ys => if ok t then eqFields ok d fs.toList xs ys else none
    | _, _, _ => none
def eqFields (ok : TypeId → Bool) : Nat → List Field → List AV → List AV → Option Bool
  | 0, _, _, _ => none
  | _ + 1, [], _, _ => some true
  | d + 1, f :: fs, xs, ys =>
    if f.name = "_" then none else
    match partOf P f.type xs f.offset, partOf P f.type ys f.offset with
    | some a, some b => match eqIn ok d f.type a b with
      | some true => eqFields ok d fs xs ys
      | some false => some false
      | none => none
    | _, _ => none
end
def eqFuel : Nat := 40
def binOp (ok : TypeId → Bool) (op : BinOp) (t : TypeId) (x y : AV) : Option AV :=
  match op, x, y with
  | .shl, .int k a, .int _ b | .shr, .int k a, .int _ b => (arith op k a b).map (.int k)
  | op, .int j a, .int k b => if j ≠ k then none else
    match op with
    | .add | .sub | .mul | .quo | .rem => (arith op j a b).map (.int j)
    | .and | .or | .xor | .andNot => (bits op j a b).map (.int j)
    | op => (cmpInt op a b).map .bool
  | op, .str a, .str b => cmpStr op a b
  | .eql, x, y => (eqIn P ok eqFuel t x y).map .bool
  | .neq, x, y => (eqIn P ok eqFuel t x y).map fun b => .bool !b
  | _, _, _ => none
def unOp : UnOp → AV → Option AV
  | .neg, .int k n => some (.int k (k.wrap (0 - n)))
  | .not, .bool b => some (.bool !b)
  | _, _ => none
def bytesOf : List AV → Option (List UInt8)
  | [] => some []
  | .int .u8 n :: cs => (bytesOf cs).map (UInt8.ofNat n.toNat :: ·)
  | _ => none
def convert (g : Get) (nx : Nat) (src dst : TypeId) (x : AV) : Out :=
  match P.underlying src, P.underlying dst, x with
  | some _, some (.int k), .int _ n => some (.int k (k.wrap n), .keep)
  | some _, some .string, .str s => some (.str s, .keep)
  | some _, some (.slice e), .str s => match P.underlying e with
    | some (.int .u8) => some (.slice nx 0 s.length s.length 1, .new (.cells (s.map fun b => .int .u8 b.toNat)))
    | _ => none
  | some (.slice e), some .string, .slice b o len _ 1 => match P.underlying e with
    | some (.int .u8) => match g.read b o len with
      | some cs => (bytesOf cs).map fun l => (.str l, .keep)
      | none => none
    | _ => none
  | _, _, _ => none
def sameKey (d : TypeDesc) : AV → AV → Option Bool
  | .int j a, .int k b => match d with | .int _ => if j = k then some (a == b) else none | _ => none
  | .str a, .str b => match d with | .string => some (a == b) | _ => none
  | .bool a, .bool b => match d with | .bool => some (a == b) | _ => none
  | _, _ => none
def findKey (d : TypeDesc) (k : AV) : List (AV × AV × Nat) → Nat → Option (Option (Nat × AV))
  | [], _ => some none
  | (k', v, _) :: es, i => match sameKey d k k' with
    | some true => some (some (i, v))
    | some false => findKey d k es (i + 1)
    | none => none
def keyOk (d : TypeDesc) (k : AV) : Bool :=
  match d, k with
  | .int _, .int _ _ | .string, .str _ | .bool, .bool _ => true
  | _, _ => false
def keyNe : AV → AV → Bool
  | .int j a, .int k b => decide (j = k) && !decide (a = b)
  | .str a, .str b => !(a == b)
  | .bool a, .bool b => !(a == b)
  | _, _ => false
def apartFrom (k : AV) (es : List (AV × AV)) : Bool := es.all fun e => keyNe k e.1
def keysApart : List (AV × AV) → Bool
  | [] => true
  | e :: es => apartFrom e.1 es && keysApart es
def entries (g : Get) : AV → Option (List (AV × AV × Nat))
  | .nilmap => some []
  | .map r => match g r with
    | some (.map es _) => some es
    | some (.bag es) => some (es.map fun e => (e.1, e.2, 0))
    | _ => none
  | _ => none
def lookup (g : Get) (t : TypeId) (m k : AV) (commaOk : Bool) : Option AV :=
  match P.underlying t, entries g m with
  | some (.map kt et), some es => match P.underlying kt with
    | some d => if !keyOk d k then none else
      match findKey d k es 0, tzero P et with
      | some (some (_, v)), _ => some (if commaOk then .tuple [v, .bool true] else v)
      | some none, some z => some (if commaOk then .tuple [z, .bool false] else z)
      | _, _ => none
    | none => none
  | _, _ => none
def setAt (i : Nat) (k v : AV) (es : List (AV × AV × Nat)) : List (AV × AV × Nat) :=
  match es, i with
  | [], _ => []
  | (_, _, s) :: es, 0 => (k, v, s) :: es
  | e :: es, i + 1 => e :: setAt i k v es
def mapUpdate (g : Get) (t : TypeId) (m k v : AV) : Option Eff :=
  match P.underlying t, m with
  | some (.map kt _), .map r => match P.underlying kt, g r with
    | some d, some (.map es clock) => if !keyOk d k then none else
      match findKey d k es 0 with
      | some (some (i, _)) => some (.put r (.map (setAt i k v es) clock))
      | some none => some (.put r (.map (es ++ [(k, v, clock)]) (clock + 1)))
      | none => none
    | _, _ => none
  | _, _ => none
def rangeOp (g : Get) (nx : Nat) (t : TypeId) (m : AV) : Out :=
  match P.underlying t, m with
  | some (.map _ _), .nilmap => some (.ptr nx 0, .new (.iter none 0 [] 0))
  | some (.map _ _), .map r => match g r with
    | some (.map _ clock) => some (.ptr nx 0, .new (.iter (some r) clock [] clock))
    | _ => none
  | _, _ => none
def nextOp (g : Get) (it : AV) (isString : Bool) : Out :=
  match it, isString with
  | .ptr r 0, false => match g r with
    | some (.iter none _ _ _) => some (.tuple [.bool false], .keep)
    | some (.iter (some m) since seen last) => match g m with
      | some (.map es clock) =>
        if clock != since || last != clock || !es.all (fun e => e.2.2 < since) then none else
        match es.filter fun e => !seen.contains e.2.2 with
        | [] => some (.tuple [.bool false], .keep)
        | [e] => some (.tuple [.bool true, e.1, e.2.1], .put r (.iter (some m) since (seen ++ [e.2.2]) clock))
        | _ => none
      | _ => none
    | _ => none
  | _, _ => none
def entryOp (g : Get) (it : AV) : Option AV :=
  match it with
  | .ptr r 0 => match g r with
    | some (.iter (some m) _ seen stepped) => match seen.getLast?, g m with
      | some s, some (.map es clock) => if clock != stepped then none else (es.find? fun e => e.2.2 == s).map fun e => .tuple [e.1, e.2.1]
      | _, _ => none
    | some (.at m last stepped) => match g m with
      | some (.map es clock) => if clock != stepped then none else (es.find? fun e => e.2.2 == last).map fun e => .tuple [e.1, e.2.1]
      | _ => none
    | _ => none
  | _ => none
def isIntD : TypeDesc → Bool
  | .int _ => true
  | _ => false
def lenOf (g : Get) (t : TypeId) (x : AV) : Option Nat :=
  match P.underlying t, x with
  | some .string, .str s => some s.length
  | some (.slice _), .slice _ _ n _ _ => some n
  | some (.slice _), .nilslice => some 0
  | some (.map _ _), .nilmap => some 0
  | some (.map _ _), .map r => match g r with
    | some (.map es _) => some es.length
    | some (.bag es) => some es.length
    | _ => none
  | _, _ => none
def firstCells (g : Get) (es n : Nat) : AV → Option (List AV)
  | .slice b o len _ es' => if es' = es && n ≤ len then g.read b o (n * es) else none
  | .nilslice => if n = 0 then some [] else none
  | .str s => if es = 1 && n ≤ s.length then some ((s.take n).map fun b => .int .u8 b.toNat) else none
  | _ => none
def lenVal : AV → Option Nat
  | .slice _ _ n _ _ => some n
  | .nilslice => some 0
  | .str s => some s.length
  | _ => none
def append (g : Get) (nx : Nat) (ts : TypeId) (x1t : Option TypeId) (s x : AV) : Out :=
  match telem P ts, (x1t.bind P.underlying) with
  | some e, some d => if isIntD d then none else
    match tsize P e, tzero P e, tbytes P e, lenVal x with
    | some n, some z, some bs, some m =>
      if n = 0 || z.cells.length ≠ n || bs > 1000000 || m > mostCells then none else
      match firstCells g n m x with
      | none => none
      | some new =>
        if !new.all AV.scalar then none else
        match s with
        | .nilslice => if m = 0 then some (.nilslice, .keep) else some (.slice nx 0 m m n, .new (.cells new))
        | .slice b o len cap es =>
          if es ≠ n || len > mostCells then none else
          if len + m ≤ cap then
            if m = 0 then some (.slice b o len cap es, .keep) else (g.write b (o + len * n) new).map fun e => (.slice b o (len + m) cap es, e)
          else match g.read b o (len * n) with
            | some old => some (.slice nx 0 (len + m) (len + m) n, .swap b (.cells (old ++ new)))
            | none => none
        | _ => none
    | _, _, _, _ => none
  | _, _ => none
def copyOp (g : Get) (td : TypeId) (d s : AV) : Out :=
  match telem P td, lenVal s with
  | some e, some ns => match tsize P e, d with
    | some n, .slice b o len _ es => if n = 0 || es ≠ n then none else
      let k := Nat.min ns len
      match firstCells g n k s with
      | some cs => if k = 0 then some (.int .i64 0, .keep) else (g.write b o cs).map fun e => (.int .i64 k, e)
      | none => none
    | some _, .nilslice => some (.int .i64 0, .keep)
    | _, _ => none
  | _, _ => none
def maxInt (isMax : Bool) : AV → List AV → Option AV
  | x, [] => some x
  | .int k a, .int _ b :: rest => maxInt isMax (.int k (if isMax then (if b > a then b else a) else (if b < a then b else a))) rest
  | _, _ => none
def builtin (g : Get) (nx : Nat) (b : Builtin) (ts : Array TypeId) (xs : List AV) : Out :=
  match b, xs with
  | .len, [x] => match ts[0]? with
    | some t => match lenOf P g t x with
      | some n => some (.int .i64 (Int.ofNat n), .keep)
      | none => none
    | none => none
  | .append, [s, x] => match ts[0]? with
    | some t => append P g nx t ts[1]? s x
    | none => none
  | .copy, [d, s] => match ts[0]? with
    | some t => copyOp P g t d s
    | none => none
  | .max, x :: rest => (maxInt true x rest).map (·, .keep)
  | .min, x :: rest => (maxInt false x rest).map (·, .keep)
  | _, _ => none
def plainOp (ok : TypeId → Bool) (fr : Fr) (g : Get) (nx : Nat) (o : Oper) : Out :=
  match o.op with
  | .move x | .assign x => (ev fr x).map (·, .keep)
  | .pick c a b => match ev fr c with
    | some (.bool true) => (ev fr a).map (·, .keep)
    | some (.bool false) => (ev fr b).map (·, .keep)
    | _ => none
  | .alloc t => match tzero P t with
    | some z => boxed nx z
    | none => none
  | .box _ x => match ev fr x with
    | some v => boxed nx v
    | none => none
  | .build t ps => match evs fr (ps.toList.map (·.2)) with
    | some vs => (build P t ((ps.toList.map (·.1)).zip vs)).map (·, .keep)
    | none => none
  | .buildSlice t n ps => match evs fr (ps.toList.map (·.2)) with
    | some vs => buildSlice P nx t n ((ps.toList.map (·.1)).zip vs)
    | none => none
  | .load t a => match ev fr a with
    | some v => (load P g t v).map (·, .keep)
    | none => none
  | .store t a x => match ev fr a, ev fr x with
    | some a, some v => (store P g t a v).map (.undef, ·)
    | _, _ => none
  | .nilCheck x => match ev fr x with
    | some (.ptr b o) => some (.ptr b o, .keep)
    | some (.func f a c) => some (.func f a c, .keep)
    | _ => none
  | .binOp op t x y _ => match ev fr x, ev fr y with
    | some a, some b => if a.isNilIface && !isConst x && !isConst y then none else (binOp P ok op t a b).map (·, .keep)
    | _, _ => none
  | .unOp op _ x => ((ev fr x).bind (unOp op)).map (·, .keep)
  | .convert s d x => match ev fr x with
    | some v => convert P g nx s d v
    | none => none
  | .makeFunc (.func f) first caps => match evs fr first.toList, evs fr caps.toList with
    | some a, some c => some (.func f a c, .keep)
    | _, _ => none
  | .makeMap _ none => some (.map nx, .new (.map [] 0))
  | .makeSlice t l c => match ev fr l, ev fr c with
    | some l, some c => makeSlice P nx t l c
    | _, _ => none
  | .slice t x lo hi none => match ev fr x, evs fr lo.toList, evs fr hi.toList with
    | some x, some lo, some hi => (sliceOp P t x lo.head? hi.head?).map (·, .keep)
    | _, _, _ => none
  | .fieldAddr t x f => ((ev fr x).bind (fieldAddr P t · f)).map (·, .keep)
  | .field t x f => ((ev fr x).bind (field P t · f)).map (·, .keep)
  | .indexAddr t x i => match ev fr x, ev fr i with
    | some x, some i => (indexAddr P t x i).map (·, .keep)
    | _, _ => none
  | .index t x i => match ev fr x, ev fr i with
    | some x, some i => (index P t x i).map (·, .keep)
    | _, _ => none
  | .lookup t m k c => match ev fr m, ev fr k with
    | some m, some k => (lookup P g t m k c).map (·, .keep)
    | _, _ => none
  | .mapUpdate t m k v | .insert t m k v => match ev fr m, ev fr k, ev fr v with
    | some m, some k, some v => (mapUpdate P g t m k v).map (.undef, ·)
    | _, _, _ => none
  | .range t x => match ev fr x with
    | some m => rangeOp P g nx t m
    | none => none
  | .next it s => match ev fr it with
    | some it => nextOp g it s
    | none => none
  | .entry it => match ev fr it with
    | some it => (entryOp g it).map (·, .keep)
    | none => none
  | .extract t i => match ev fr t with
    | some (.tuple vs) => (vs[i]?).map (·, .keep)
    | _ => none
  | .call { callee := .builtin b, args, argTypes } => match evs fr args.toList with
    | some vs => builtin P g nx b argTypes vs
    | none => none
  | _ => none
end
end Go.Am
end
section
namespace Go.Am
inductive Ex where
  | normal | exit (id : Nat) | ret
inductive Res where
  | fail
  | done (e : Ex) (fr : Fr) (H : Heap)
abbrev OutH := Option (AV × Heap)
abbrev CallF := FuncId → List AV → Heap → OutH
structure Doors where
  call : CallF
  round : Nat → List AV → Heap → OutH
section
variable (P : Program) (ok : TypeId → Bool)
def runOp (call : Doors) (fr : Fr) (H : Heap) (o : Oper) : OutH :=
  match o.op with
  | .call { callee := .value f, args, .. } => match ev fr f, evs fr args.toList with
    | some (.func g first caps), some vs => call.call g (first ++ vs ++ caps) H
    | some (.yieldv l), some vs => call.round l vs H
    | _, _ => none
  | _ => match plainOp P ok fr H.get H.next o with
    | some (v, e) => (H.app e).map (v, ·)
    | none => none
def wanted (ops : Array Oper) (fr : Fr) (o : Oper) : Bool :=
  match o.guard with
  | none => true
  | some (j, want) => match (ops[j]?).bind (·.dst) with
    | some d => match fr.at d with
      | .bool b => b == want
      | _ => false
    | none => false
def putAt (nt : Nat) (fr : Fr) (dst : Option Tmp) (v : AV) : Option Fr :=
  match dst with
  | none => some fr
  | some d => if d < nt then some (Tr.set fr (path d) (some v)) else none
def stepOp (call : Doors) (nt : Nat) (ops : Array Oper) (fr : Fr) (H : Heap) (o : Oper) : Option (Fr × Heap) :=
  if wanted ops fr o then
    match runOp P ok call fr H o with
    | some (v, H') => (putAt nt fr o.dst v).map (·, H')
    | none => none
  else (putAt nt fr o.dst .undef).map (·, H)
def runOps (call : Doors) (nt : Nat) (ops : Array Oper) : List Oper → Fr → Heap → Option (Fr × Heap)
  | [], fr, H => some (fr, H)
  | o :: os, fr, H => match stepOp P ok call nt ops fr H o with
    | some (fr', H') => runOps call nt ops os fr' H'
    | none => none
def pureOp : Op → Bool
  | .move _ | .assign _ | .pick .. | .build .. | .nilCheck _ | .binOp .. | .unOp .. | .makeFunc .. | .slice .. | .fieldAddr .. | .field .. | .indexAddr .. | .index .. | .extract .. => true
  | _ => false
def blockOf : AV → List Nat
  | .ptr b _ | .map b | .slice b _ _ _ _ => [b]
  | _ => []
def readsOf (fr : Fr) (o : Oper) : Option (List Nat) :=
  if pureOp o.op then some [] else
  match o.op with
  | .alloc _ | .box .. | .buildSlice .. | .makeMap .. | .makeSlice .. => some []
  | .load _ x | .store _ x _ | .lookup _ x _ _ | .mapUpdate _ x _ _ | .insert _ x _ _ => (ev fr x).map blockOf
  | .call { callee := .builtin b, args, .. } => match b with
    | .len | .append | .copy | .max | .min => (evs fr args.toList).map fun vs => vs.flatMap blockOf
    | _ => none
  | _ => none
structure Foot where
  reads : Option (List Nat)
  writes : List Nat
  lo : Nat
  hi : Nat
def Foot.clash (w f : Foot) : Bool :=
  !w.writes.isEmpty && match f.reads with
    | none => true
    | some l => w.writes.any fun b => l.contains b || f.writes.contains b || (f.lo ≤ b && b < f.hi)
def outerLog (H : Heap) (l : List Nat) : List Nat := l.filter (fun b => b < H.floor && !H.log.contains b) ++ H.log
def bagIns (t : Option Tmp) (o : Oper) : Option (TypeId × Operand × Operand) :=
  match t, o.op with
  | some t, .insert ty (.tmp m) k v => if m = t && (o.dst.isNone && o.guard.isNone) then some (ty, k, v) else none
  | _, _ => none
def bagKey (ty : TypeId) (k : AV) : Bool :=
  match P.underlying ty with
  | some (.map kt _) => match P.underlying kt with
    | some d => keyOk d k
    | none => false
  | _ => false
def Heap.kill (H : Heap) (b : Nat) : Heap := { H with tr := H.tr.set (path b) none }
def Heap.wake (H : Heap) (b : Nat) (o : AObj) : Heap := { H with tr := H.tr.set (path b) (some o) }
def stepB (call : Doors) (nt : Nat) (ops : Array Oper) (t : Option Tmp) (fr : Fr) (H : Heap) (o : Oper) : Option (Fr × Heap × Option (AV × AV)) :=
  match bagIns t o with
  | some (ty, k, v) => match ev fr k, ev fr v with
    | some kv, some vv => if bagKey P ty kv then some (fr, H, some (kv, vv)) else none
    | _, _ => none
  | none => match stepOp P ok call nt ops fr H o with
    | some (fr', H') => match t with
      | none => some (fr', H', none)
      | some t => if o.dst = some t then
          match fr'.at t, H'.get H.next, H'.log with
          | .map b, some (.map [] _), [] => if b = H.next then some (fr', H'.kill b, none) else none
          | _, _, _ => none
        else some (fr', H', none)
    | none => none
def runOpsT (call : Doors) (nt : Nat) (ops : Array Oper) (t : Option Tmp) : List Oper → Fr → Heap → Option (Fr × Heap × List (Foot × Option (AV × AV)))
  | [], fr, H => some (fr, H, [])
  | o :: os, fr, H => match stepB P ok call nt ops t fr { H with floor := H.next, log := [] } o with
    | some (fr', H', pr) =>
      match runOpsT call nt ops t os fr' { H' with floor := H.floor, log := outerLog H H'.log } with
      | some (fr'', H'', cs) => some (fr'', H'', (⟨if (bagIns t o).isSome then some [] else if wanted ops fr o then readsOf fr o else some [], H'.log, H.next, H'.next⟩, pr) :: cs)
      | none => none
    | none => none
def insTmp (o : Oper) : Option Tmp :=
  match o.op with
  | .insert _ (.tmp m) _ _ => some m
  | _ => none
def bagOf (ops : List Oper) : Option Tmp :=
  match ops.findSome? insTmp with
  | some t => if 2 ≤ (ops.filter fun o => (bagIns (some t) o).isSome).length then some t else none
  | none => none
def madeFirst (t : Tmp) : List Oper → Bool
  | [] => false
  | o :: os => if o.dst = some t then os.all fun o => decide (o.dst ≠ some t) else (bagIns (some t) o).isNone && madeFirst t os
def anc (ops : List Oper) : Nat → Nat → Nat → Bool
  | 0, _, _ => false
  | n + 1, j, i => match ops[j]? with
    | none => false
    | some o => (o.after.toList.any fun e => Region.binds .any e && e.on == i) || o.after.toList.any fun e => Region.binds .any e && anc ops n e.on i
def apart (ops : List Oper) (i j : Nat) : Bool := if i < j then anc ops ops.length j i else anc ops ops.length i j
def orderedOne (ops : List Oper) (i : Nat) (w : Foot) : Nat → List Foot → Bool
  | _, [] => true
  | j, f :: rest => (i == j || !w.clash f || apart ops i j) && orderedOne ops i w (j + 1) rest
def orderedAll (ops : List Oper) (fs : List Foot) : Nat → List Foot → Bool
  | _, [] => true
  | i, w :: rest => (w.writes.isEmpty || orderedOne ops i w 0 fs) && orderedAll ops fs (i + 1) rest
def namesOf (ops : Array Oper) (o : Oper) : List Tmp :=
  o.dst.toList ++ (o.op.operands.toList.filterMap fun | .tmp t => some t | _ => none) ++ (match o.guard with | some (g, _) => ((ops[g]?).bind (·.dst)).toList | none => [])
def tmpsFrom (ops : Array Oper) (j : Nat) (d : Tmp) : Nat → List Oper → Bool
  | _, [] => true
  | i, o :: rest => (i == j || !(namesOf ops o).contains d || apart ops.toList i j) && tmpsFrom ops j d (i + 1) rest
def tmpsAll (ops : Array Oper) : Nat → List Oper → Bool
  | _, [] => true
  | j, o :: rest => (match o.dst with | none => true | some d => tmpsFrom ops j d 0 ops.toList) && tmpsAll ops (j + 1) rest
def edgesBack : Nat → List Oper → Bool
  | _, [] => true
  | i, o :: rest => (o.after.toList.all fun e => !Region.binds .any e || e.on < i) && edgesBack (i + 1) rest
def region (call : Doors) (nt : Nat) (ops : Array Oper) (draw : Bool) (fr : Fr) (H : Heap) : Res :=
  if draw then
    match runOpsT P ok call nt ops (bagOf ops.toList) ops.toList fr H with
    | some (fr', H', cs) => if edgesBack 0 ops.toList && (tmpsAll ops 0 ops.toList && orderedAll ops.toList (cs.map (·.1)) 0 (cs.map (·.1))) then
        match bagOf ops.toList with
        | none => .done .normal fr' H'
        | some t => if madeFirst t ops.toList && keysApart (cs.filterMap (·.2)) then
            match fr'.at t with
            | .map b => .done .normal fr' (H'.wake b (.bag (cs.filterMap (·.2))))
            | _ => .fail
          else .fail
      else .fail
    | none => .fail
  else match runOps P ok call nt ops ops.toList fr H with
    | some (fr', H') => .done .normal fr' H'
    | none => .fail
def results (H : Heap) (fr : Fr) : List ResultVar → Option (List AV)
  | [] => some []
  | .tmp t :: rs => (results H fr rs).map (fr.at t :: ·)
  | .cell a t :: rs => match load P H.get t (fr.at a), results H fr rs with
    | some v, some vs => some (v :: vs)
    | _, _ => none
def args (nt : Nat) : Nat → List AV → Fr → Option Fr
  | _, [], fr => some fr
  | k, v :: vs, fr => if k < nt then args nt (k + 1) vs (Tr.set fr (path k) (some v)) else none
def enter (exec : Nat → Code → Fr → Heap → Res) (f : FuncId) (xs : List AV) (H : Heap) : OutH :=
  match P.funcs[f]? with
  | some fn => match fn.body with
    | some c => if fn.name == "runtime.NumGoroutine" then none else
      match args fn.ntmps 0 xs .nil with
      | some fr => match exec fn.ntmps c fr H with
        | .done .normal fr' H' | .done .ret fr' H' => match results P H' fr' fn.results.toList with
          | some [v] => some (v, H')
          | some vs => some (.tuple vs, H')
          | none => none
        | _ => none
      | none => none
    | none => none
  | none => none
abbrev Prims := FuncId → Option (List AV → Heap → OutH)
def callAt (prims : Prims) (exec : Nat → Code → Fr → Heap → Res) : CallF := fun f xs H =>
  match prims f with
  | some g => g xs H
  | none => enter P exec f xs H
def setAll (nt : Nat) : List Tmp → List AV → Fr → Option Fr
  | [], [], fr => some fr
  | p :: ps, v :: vs, fr => if p < nt then setAll nt ps vs (Tr.set fr (path p) (some v)) else none
  | _, _, _ => none
def Ex.jump : Ex → Option Code
  | .normal => none
  | .exit id => some (.exit id)
  | .ret => some .ret
def back : Option Code → Option Ex
  | none => some .normal
  | some .ret => some .ret
  | some (.exit id) => some (.exit id)
  | _ => none
def round (exec : Option Nat → Nat → Code → Fr → Heap → Res) (l : Nat) (xs : List AV) (H : Heap) : OutH :=
  match H.get l with
  | some (.loop _ _ nt fr ps assign body) => match setAll nt ps xs fr with
    | some fr1 => match exec (some l) nt assign fr1 H with
      | .done .normal fr2 H1 => match H1.get l with
        | some (.loop .ready pend nt1 fr' ps1 as1 bo1) => match H1.app (.put l (.loop .busy pend nt1 fr' ps1 as1 bo1)) with
          | some H2 => match exec (some l) nt body fr2 H2 with
            | .done x _ H3 => match H3.get l with
              | some (.loop _ _ nt2 fr2' ps2 as2 bo2) => (H3.app (.put l (.loop (if x.jump.isNone then .ready else .done) x.jump nt2 fr2' ps2 as2 bo2))).map (.bool x.jump.isNone, ·)
              | _ => none
            | .fail => none
          | none => none
        | _ => none
      | _ => none
    | none => none
  | _ => none
def isLoop : Option AObj → Bool
  | some (.loop ..) => true
  | _ => false
def roGood (ro : Option Nat) (H : Heap) : Bool :=
  match ro with
  | none => true
  | some l => isLoop (H.get l)
def overFunc (call : CallF) (ro : Option Nat) (nt : Nat) (g : Operand) (ps : Array Tmp) (assign body : Code) (fr : Fr) (H : Heap) : Res :=
  if roGood ro H then
    match ev fr g with
    | some (.func f first caps) => match H.app (.new (.loop .ready none nt fr ps.toList assign body)) with
      | some H1 => match call f (first ++ [.yieldv H.next] ++ caps) H1 with
        | some (_, H2) => match H2.get H.next with
          | some (.loop st pend nt' fr' ps' as' bo') => if st == .busy then .fail else
            match H2.app (.put H.next (.loop .exhausted pend nt' fr' ps' as' bo')), back pend with
            | some H3, some x => .done x fr H3
            | _, _ => .fail
          | _ => .fail
        | none => .fail
      | none => .fail
    | _ => .fail
  else .fail
def exec (prims : Prims) : Nat → Option Nat → Nat → Code → Fr → Heap → Res
  | 0, _, _, _, _, _ => .fail
  | n + 1, ro, nt, c, fr, H =>
    match c with
    | .skip | .label _ => .done .normal fr H
    | .region _ ops draw => region P ok ⟨callAt P prims (exec prims n none), round (exec prims n)⟩ nt ops draw fr H
    | .seq a b => match exec prims n ro nt a fr H with
      | .done .normal fr' H' => exec prims n ro nt b fr' H'
      | r => r
    | .cond c a b => match ev fr c with
      | some (.bool true) => exec prims n ro nt a fr H
      | some (.bool false) => exec prims n ro nt b fr H
      | _ => .fail
    | .block id c => match exec prims n ro nt c fr H with
      | .done (.exit id') fr' H' => if id' = id then .done .normal fr' H' else .done (.exit id') fr' H'
      | r => r
    | .loop c => match exec prims n ro nt c fr H with
      | .done .normal fr' H' => exec prims n ro nt (.loop c) fr' H'
      | r => r
    | .exit id => .done (.exit id) fr H
    | .ret => .done .ret fr H
    | .rangeFunc g ps assign body => overFunc (callAt P prims (exec prims n none)) ro nt g ps assign body fr H
    | _ => .fail
def call (prims : Prims) (n : Nat) : CallF := callAt P prims (exec P ok prims n none)
end
end Go.Am
end
section
namespace Go.Am.K
noncomputable section
def pathAt (n : Nat) : Nat → Pa :=
  Nat.rec (motive := fun _ => Nat → Pa) (fun _ => .z) (fun _ ih k => Nat.rec (motive := fun _ => Pa) .z (fun k' _ => Bool.rec (motive := fun _ => Pa) (.i (ih (Nat.div k' (nat_lit 2)))) (.o (ih (Nat.div k' (nat_lit 2)))) (Nat.beq (Nat.mod k' (nat_lit 2)) (nat_lit 0))) k) n
def path (k : Nat) : Pa := pathAt k k
section
variable {α : Type}
def get (p : Pa) : Tr α → Option α :=
  Pa.rec (motive := fun _ => Tr α → Option α) (fun t => Tr.rec (motive := fun _ => Option α) none (fun _ v _ _ _ => v) t) (fun _ ih t => Tr.rec (motive := fun _ => Option α) none (fun l _ _ _ _ => ih l) t)
    (fun _ ih t => Tr.rec (motive := fun _ => Option α) none (fun _ _ r _ _ => ih r) t) p
def set (x : Option α) (p : Pa) : Tr α → Tr α :=
  Pa.rec (motive := fun _ => Tr α → Tr α) (fun t => Tr.rec (motive := fun _ => Tr α) (.node .nil x .nil) (fun l _ r _ _ => .node l x r) t)
    (fun _ ih t => Tr.rec (motive := fun _ => Tr α) (.node (ih .nil) none .nil) (fun l v r _ _ => .node (ih l) v r) t) (fun _ ih t => Tr.rec (motive := fun _ => Tr α) (.node .nil none (ih .nil)) (fun l v r _ _ => .node l v (ih r)) t) p
end
def bindO {α β : Type} (k : α → Option β) (x : Option α) : Option β := Option.rec (motive := fun _ => Option β) none k x
def forceN {β : Type} (k : Nat → β) (n : Nat) : β := Nat.rec (motive := fun _ => β) (k (nat_lit 0)) (fun m _ => k (Nat.succ m)) n
def consO (as : Option (List AV)) (a : AV) : Option (List AV) := Option.rec (motive := fun _ => Option (List AV)) none (fun l => some (a :: l)) as
inductive KX where
  | t (p : Pa)
  | c (v : Option AV)
inductive KO where
  | mv (x : KX)
  | pick (c a b : KX)
  | ld (x : KX)
  | ldn (n : Nat) (x : KX)
  | fa (off : Nat) (x : KX)
  | ia (es : Nat) (x i : KX)
  | lss (t : TypeId) (x y : KX)
  | eql (t : TypeId) (x y : KX)
  | add (t : TypeId) (x y : KX)
  | lenL (x : KX)
  | call (f : KX) (xs : List KX)
  | gen (o : Oper)
inductive KG where
  | none
  | g (p : Pa) (w : Bool)
  | no
inductive KD where
  | none
  | d (p : Pa)
  | bad
inductive KS where
  | mk (g : KG) (d : KD) (o : KO)
inductive KC where
  | skip
  | seq (a b : KC)
  | cond (x : KX) (a b : KC)
  | block (id : Nat) (c : KC)
  | loop (c : KC)
  | exit (id : Nat)
  | ret
  | reg (l : List KS)
  | gen (c : Code)
section
variable (P : Program) (ok : TypeId → Bool)
def cX (x : Operand) : KX := Operand.rec (motive := fun _ => KX) (fun t => .t (path t)) (fun v => .c (ofVal v)) (fun _ => .c none) (fun f => .c (some (.func f [] []))) x
def cXs (xs : List Operand) : List KX := List.rec (motive := fun _ => List KX) [] (fun x _ ih => cX x :: ih) xs
def isAgg (t : TypeId) : Option (Option Nat) :=
  match tagg P t, tsize P t with
  | some true, some n => some (some n)
  | some false, some _ => some none
  | _, _ => none
def cLoad (o : Oper) (t : TypeId) (x : Operand) : KO :=
  match isAgg P t with
  | some (some n) => .ldn n (cX x)
  | some none => .ld (cX x)
  | none => .gen o
def foff (t : TypeId) (f : Nat) : Option Nat :=
  match P.underlying t with
  | some (.struct fs) => match fs[f]? with
    | some fl => match tsize P fl.type with
      | some (_ + 1) => some fl.offset
      | _ => none
    | none => none
  | _ => none
def cField (o : Oper) (t : TypeId) (x : Operand) (f : Nat) : KO :=
  match foff P t f with
  | some n => forceN (fun n => .fa n (cX x)) n
  | none => .gen o
def cIndex (o : Oper) (t : TypeId) (x i : Operand) : KO :=
  match (telem P t).bind (tsize P) with
  | some n => forceN (fun n => .ia n (cX x) (cX i)) n
  | none => .gen o
def cBin (o : Oper) (op : BinOp) (t : TypeId) (x y : Operand) : KO :=
  match op with
  | .lss => .lss t (cX x) (cX y)
  | .eql => if !isConst x && !isConst y then .gen o else .eql t (cX x) (cX y)
  | .add => .add t (cX x) (cX y)
  | _ => .gen o
def cLen (o : Oper) (t : Option TypeId) (xs : List Operand) : KO :=
  match xs, t.bind P.underlying with
  | [x], some (.slice _) => .lenL (cX x)
  | _, _ => .gen o
def cCall (o : Oper) (c : Call) : KO :=
  match c.callee with
  | .value f => .call (cX f) (cXs c.args.toList)
  | .builtin .len => cLen P o c.argTypes[0]? c.args.toList
  | _ => .gen o
def cOp (o : Oper) : KO :=
  match o.op with
  | .move x | .assign x => .mv (cX x)
  | .pick c a b => .pick (cX c) (cX a) (cX b)
  | .load t x => cLoad P o t x
  | .fieldAddr t x f => cField P o t x f
  | .indexAddr t x i => cIndex P o t x i
  | .binOp op t x y _ => cBin o op t x y
  | .call c => cCall P o c
  | _ => .gen o
def cG (ops : Array Oper) (o : Oper) : KG :=
  match o.guard with
  | none => .none
  | some (j, w) => match (ops[j]?).bind (·.dst) with
    | some d => .g (path d) w
    | none => .no
def cD (nt : Nat) (dst : Option Tmp) : KD :=
  match dst with
  | none => .none
  | some d => Bool.rec (motive := fun _ => KD) .bad (.d (path d)) (Nat.ble (Nat.succ d) nt)
def cS (nt : Nat) (ops : Array Oper) (o : Oper) : KS := .mk (cG ops o) (cD nt o.dst) (cOp P o)
def cSs (nt : Nat) (ops : Array Oper) (os : List Oper) : List KS := List.rec (motive := fun _ => List KS) [] (fun o _ ih => cS P nt ops o :: ih) os
def cReg (nt id : Nat) (ops : Array Oper) (draw : Bool) : KC := Bool.rec (motive := fun _ => KC) (.reg (cSs P nt ops ops.toList)) (.gen (.region id ops true)) draw
def comp (nt : Nat) (c : Code) : KC :=
  Code.rec (motive := fun _ => KC) .skip (fun id ops draw => cReg P nt id ops draw) (fun _ _ a b => .seq a b) (fun x _ _ a b => .cond (cX x) a b) (fun id _ c => .block id c) (fun _ c => .loop c)
    (fun g ps a b _ _ => .gen (.rangeFunc g ps a b)) (fun id => .exit id) (fun c _ => .gen (.scope c)) (fun _ => .skip) (fun l => .gen (.goto l)) .ret (fun w => .gen (.refuse w)) c
abbrev R1 := Option (Fr × Heap)
abbrev Kont := Fr → Heap → R1
def evC (v : Option AV) (_ : Fr) : Option AV := v
def evT0 (v : Option AV) : Option AV := Option.rec (motive := fun _ => Option AV) (some .undef) (fun v => some v) v
def evT (p : Pa) (fr : Fr) : Option AV := evT0 (get p fr)
def evX (x : KX) : Fr → Option AV := KX.rec (motive := fun _ => Fr → Option AV) evT evC x
def evXs (xs : List KX) : Fr → Option (List AV) := List.rec (motive := fun _ => Fr → Option (List AV)) (fun _ => some []) (fun x _ ih fr => bindO (consO (ih fr)) (evX x fr)) xs
def putK (d : KD) (v : AV) (fr : Fr) (H : Heap) (k : Kont) : R1 := KD.rec (motive := fun _ => R1) (k fr H) (fun p => k (set (some v) p fr) H) none d
def withX (x : KX) (fr : Fr) (k : AV → R1) : R1 := Option.rec (motive := fun _ => R1) none k (evX x fr)
abbrev OpK := KD → Fr → Heap → Kont → R1
def kMv (x : KX) : OpK := fun d fr H k => withX x fr fun v => putK d v fr H k
def avBool (v : AV) : Option Bool := AV.rec (motive_1 := fun _ => Option Bool) (motive_2 := fun _ => Unit) none none (fun b => some b) (fun _ _ => none) (fun _ => none) none (fun _ _ => none) none (fun _ _ _ _ _ => none) none (fun _ => none) none (fun _ _ _ _ _ => none) (fun _ => none) none (fun _ _ => none) (fun _ _ => none) () (fun _ _ _ _ => ()) v
inductive P2 where | none | mk (a b : Nat)
inductive P4 where | none | mk (a b c d : Nat)
inductive PI where | none | mk (k : IntKind) (i : Int)
inductive PS where | none | mk (s : List UInt8)
def avPtr (v : AV) : P2 := AV.rec (motive_1 := fun _ => P2) (motive_2 := fun _ => Unit) .none .none (fun _ => .none) (fun _ _ => .none) (fun _ => .none) .none (fun b o => .mk b o) .none (fun _ _ _ _ _ => .none) .none (fun _ => .none) .none (fun _ _ _ _ _ => .none) (fun _ => .none) .none (fun _ _ => .none) (fun _ _ => .none) () (fun _ _ _ _ => ()) v
def avSlice (v : AV) : P4 := AV.rec (motive_1 := fun _ => P4) (motive_2 := fun _ => Unit) .none .none (fun _ => .none) (fun _ _ => .none) (fun _ => .none) .none (fun _ _ => .none) .none (fun b o l _ e => .mk b o l e) .none (fun _ => .none) .none (fun _ _ _ _ _ => .none) (fun _ => .none) .none (fun _ _ => .none) (fun _ _ => .none) () (fun _ _ _ _ => ()) v
def avInt (v : AV) : PI := AV.rec (motive_1 := fun _ => PI) (motive_2 := fun _ => Unit) .none .none (fun _ => .none) (fun k i => .mk k i) (fun _ => .none) .none (fun _ _ => .none) .none (fun _ _ _ _ _ => .none) .none (fun _ => .none) .none (fun _ _ _ _ _ => .none) (fun _ => .none) .none (fun _ _ => .none) (fun _ _ => .none) () (fun _ _ _ _ => ()) v
def avStr (v : AV) : PS := AV.rec (motive_1 := fun _ => PS) (motive_2 := fun _ => Unit) .none .none (fun _ => .none) (fun _ _ => .none) (fun s => .mk s) .none (fun _ _ => .none) .none (fun _ _ _ _ _ => .none) .none (fun _ => .none) .none (fun _ _ _ _ _ => .none) (fun _ => .none) .none (fun _ _ => .none) (fun _ _ => .none) () (fun _ _ _ _ => ()) v
def boolK (t e : R1) (v : AV) : R1 := Option.rec (motive := fun _ => R1) none (fun b => Bool.rec (motive := fun _ => R1) e t b) (avBool v)
def kPick (c a b : KX) : OpK := fun d fr H k => withX c fr fun v => boolK (kMv a d fr H k) (kMv b d fr H k) v
def ptrK (f : Nat → Nat → R1) (v : AV) : R1 := P2.rec (motive := fun _ => R1) none f (avPtr v)
def hget (H : Heap) (b : Nat) : Option AObj := Heap.rec (motive := fun _ => Option AObj) (fun tr next _ _ => Bool.rec (motive := fun _ => Option AObj) none (get (path b) tr) (Nat.ble (Nat.succ b) next)) H
def nth (cs : List AV) : Nat → Option AV := List.rec (motive := fun _ => Nat → Option AV) (fun _ => none) (fun a _ ih o => Nat.rec (motive := fun _ => Option AV) (some a) (fun o' _ => ih o') o) cs
def dropX (cs : List AV) : Nat → Option (List AV) :=
  List.rec (motive := fun _ => Nat → Option (List AV)) (fun o => Nat.rec (motive := fun _ => Option (List AV)) (some []) (fun _ _ => none) o) (fun a t ih o => Nat.rec (motive := fun _ => Option (List AV)) (some (a :: t)) (fun o' _ => ih o') o) cs
def takeX (n : Nat) : List AV → Option (List AV) :=
  Nat.rec (motive := fun _ => List AV → Option (List AV)) (fun _ => some []) (fun _ ih cs => List.rec (motive := fun _ => Option (List AV)) none (fun a t _ => consO (ih t) a) cs) n
def cellsK (H : Heap) (b : Nat) (k : List AV → R1) : R1 := Option.rec (motive := fun _ => R1) none (fun o => AObj.rec (motive := fun _ => R1) k (fun _ _ => none) (fun _ => none) (fun _ _ _ _ => none) (fun _ _ _ => none) (fun _ _ _ _ _ _ _ => none) o) (hget H b)
def kLd (x : KX) : OpK := fun d fr H k => withX x fr (ptrK fun b o => cellsK H b fun cs => Option.rec (motive := fun _ => R1) none (fun v => putK d v fr H k) (nth cs o))
def kLdn (n : Nat) (x : KX) : OpK := fun d fr H k => withX x fr (ptrK fun b o => cellsK H b fun cs => Option.rec (motive := fun _ => R1) none (fun l => Option.rec (motive := fun _ => R1) none (fun l => putK d (.agg l) fr H k) (takeX n l)) (dropX cs o))
def kFa (off : Nat) (x : KX) : OpK := fun d fr H k => withX x fr (ptrK fun b o => forceN (fun n => putK d (.ptr b n) fr H k) (Nat.add o off))
def sliceK (f : Nat → Nat → Nat → Nat → R1) (v : AV) : R1 := P4.rec (motive := fun _ => R1) none f (avSlice v)
def intK (f : IntKind → Int → R1) (z : R1) (v : AV) : R1 := PI.rec (motive := fun _ => R1) z f (avInt v)
def strK (f : List UInt8 → R1) (z : R1) (v : AV) : R1 := PS.rec (motive := fun _ => R1) z f (avStr v)
def natOf (f : Nat → R1) (z : R1) (i : Int) : R1 := Int.rec (motive := fun _ => R1) f (fun _ => z) i
def iaK (es : Nat) (d : KD) (fr : Fr) (H : Heap) (k : Kont) (i b o len es' : Nat) : R1 :=
  Bool.rec (motive := fun _ => R1) none (Bool.rec (motive := fun _ => R1) none (forceN (fun n => putK d (.ptr b n) fr H k) (Nat.add o (Nat.mul i es'))) (Nat.ble (Nat.succ i) len)) (Nat.beq es es')
def kIa (es : Nat) (x i : KX) : OpK := fun d fr H k => withX x fr (sliceK fun b o len es' => withX i fr (intK (fun _ i => natOf (fun i => iaK es d fr H k i b o len es') none i) none))
def kix (k : IntKind) : Nat := IntKind.rec (motive := fun _ => Nat) (nat_lit 0) (nat_lit 1) (nat_lit 2) (nat_lit 3) (nat_lit 4) (nat_lit 5) (nat_lit 6) (nat_lit 7) k
def putOpt (v : Option AV) (d : KD) (fr : Fr) (H : Heap) (k : Kont) : R1 := Option.rec (motive := fun _ => R1) none (fun v => putK d v fr H k) v
def putB (b : Bool) (d : KD) (fr : Fr) (H : Heap) (k : Kont) : R1 := Bool.rec (motive := fun _ => R1) (putK d (.bool false) fr H k) (putK d (.bool true) fr H k) b
def twoN (f : IntKind → Nat → Nat → R1) (z : R1) (a b : AV) : R1 := intK (fun j x => natOf (fun m => intK (fun j' y => natOf (fun n => Bool.rec (motive := fun _ => R1) z (f j m n) (Nat.beq (kix j) (kix j'))) z y) z b) z x) z a
def kLss (t : TypeId) (x y : KX) : OpK := fun d fr H k => withX x fr fun a => withX y fr fun b => twoN (fun _ m n => putB (Nat.ble (Nat.succ m) n) d fr H k) (putOpt (binOp P ok .lss t a b) d fr H k) a b
def bitsOf (b : UInt8) : Nat := UInt8.rec (motive := fun _ => Nat) (fun v => BitVec.rec (motive := fun _ => Nat) (fun f => Fin.rec (motive := fun _ => Nat) (fun n _ => n) f) v) b
def eqB (xs : List UInt8) : List UInt8 → Bool :=
  List.rec (motive := fun _ => List UInt8 → Bool) (fun ys => List.rec (motive := fun _ => Bool) true (fun _ _ _ => false) ys)
    (fun x _ ih ys => List.rec (motive := fun _ => Bool) false (fun y t _ => Bool.rec (motive := fun _ => Bool) false (ih t) (Nat.beq (bitsOf x) (bitsOf y))) ys) xs
def kEql (t : TypeId) (x y : KX) : OpK := fun d fr H k => withX x fr fun a => withX y fr fun b =>
  strK (fun s => strK (fun u => putB (eqB s u) d fr H k) none b) (twoN (fun _ m n => putB (Nat.beq m n) d fr H k) (putOpt (binOp P ok .eql t a b) d fr H k) a b) a
def add64 (z : R1) (a b : Nat) (d : KD) (fr : Fr) (H : Heap) (k : Kont) : R1 := Bool.rec (motive := fun _ => R1) z (forceN (fun n => putK d (.int .i64 (.ofNat n)) fr H k) (Nat.add a b)) (Nat.ble (Nat.add a b) (nat_lit 9223372036854775807))
def kAdd (t : TypeId) (x y : KX) : OpK := fun d fr H k => withX x fr fun a => withX y fr fun b =>
  twoN (fun j m n => Bool.rec (motive := fun _ => R1) (putOpt (binOp P ok .add t a b) d fr H k) (add64 (putOpt (binOp P ok .add t a b) d fr H k) m n d fr H k) (Nat.beq (kix j) (nat_lit 3))) (putOpt (binOp P ok .add t a b) d fr H k) a b
def lenV (d : KD) (fr : Fr) (H : Heap) (k : Kont) (v : AV) : R1 :=
  match v with
  | .slice _ _ n _ _ => putK d (.int .i64 (.ofNat n)) fr H k
  | .nilslice => putK d (.int .i64 (.ofNat (nat_lit 0))) fr H k
  | _ => none
def kLen (x : KX) : OpK := fun d fr H k => withX x fr (lenV d fr H k)
def outK (d : KD) (fr : Fr) (k : Kont) (r : OutH) : R1 := Option.rec (motive := fun _ => R1) none (fun r => Prod.rec (motive := fun _ => R1) (fun v H => putK d v fr H k) r) r
def callV (call : Doors) (vs : List AV) (H : Heap) (f : AV) : OutH :=
  match f with
  | .func g first caps => call.call g (first ++ vs ++ caps) H
  | .yieldv l => call.round l vs H
  | _ => none
def kCall (call : Doors) (f : KX) (xs : List KX) : OpK := fun d fr H k => withX f fr fun fv => Option.rec (motive := fun _ => R1) none (fun vs => outK d fr k (callV call vs H fv)) (evXs xs fr)
def kGen (call : Doors) (o : Oper) : OpK := fun d fr H k => outK d fr k (runOp P ok call fr H o)
def opK (call : Doors) (o : KO) : OpK :=
  KO.rec (motive := fun _ => OpK) kMv kPick kLd kLdn kFa kIa (kLss P ok) (kEql P ok) (kAdd P ok) kLen (kCall call) (kGen P ok call) o
def gT (w : Bool) (t e : R1) (b : Bool) : R1 := Bool.rec (motive := fun _ => R1) (Bool.rec (motive := fun _ => R1) t e w) (Bool.rec (motive := fun _ => R1) e t w) b
def gV (w : Bool) (t e : R1) (v : AV) : R1 := Option.rec (motive := fun _ => R1) e (gT w t e) (avBool v)
def gP (p : Pa) (w : Bool) (fr : Fr) (t e : R1) : R1 := Option.rec (motive := fun _ => R1) e (gV w t e) (get p fr)
def gK (g : KG) (fr : Fr) (t e : R1) : R1 := KG.rec (motive := fun _ => R1) t (fun p w => gP p w fr t e) e g
def stepK (call : Doors) (s : KS) (k : Kont) (fr : Fr) (H : Heap) : R1 := KS.rec (motive := fun _ => R1) (fun g d o => gK g fr (opK P ok call o d fr H k) (putK d .undef fr H k)) s
def stepsK (call : Doors) (l : List KS) : Kont := List.rec (motive := fun _ => Kont) (fun fr H => some (fr, H)) (fun s _ ih fr H => stepK P ok call s ih fr H) l
def regRes (r : R1) : Res := Option.rec (motive := fun _ => Res) .fail (fun r => Prod.rec (motive := fun _ => Res) (fun fr H => .done .normal fr H) r) r
abbrev X := Option Nat → Nat → KC → Fr → Heap → Res
def seqK (k : Fr → Heap → Res) (r : Res) : Res := Res.rec (motive := fun _ => Res) .fail (fun e fr H => Ex.rec (motive := fun _ => Res) (k fr H) (fun id => .done (.exit id) fr H) (.done .ret fr H) e) r
def condK (a b : Res) (v : AV) : Res := Option.rec (motive := fun _ => Res) .fail (fun t => Bool.rec (motive := fun _ => Res) b a t) (avBool v)
def blockK (id : Nat) (r : Res) : Res := Res.rec (motive := fun _ => Res) .fail (fun e fr H => Ex.rec (motive := fun _ => Res) (.done .normal fr H) (fun id' => Bool.rec (motive := fun _ => Res) (.done (.exit id') fr H) (.done .normal fr H) (Nat.beq id' id)) (.done .ret fr H) e) r
def orFail (k : AV → Res) (v : Option AV) : Res := Option.rec (motive := fun _ => Res) .fail k v
variable (fs : Nat → Option Func) (prims : Prims)
def argsK (nt : Nat) (vs : List AV) : Nat → Fr → Option Fr :=
  List.rec (motive := fun _ => Nat → Fr → Option Fr) (fun _ fr => some fr) (fun v _ ih k fr => Bool.rec (motive := fun _ => Option Fr) none (ih (Nat.succ k) (set (some v) (path k) fr)) (Nat.ble (Nat.succ k) nt)) vs
def resOne (H : Heap) (fr : Fr) (r : ResultVar) : Option AV :=
  match r with
  | .tmp t => evT (path t) fr
  | .cell a t => bindO (load P (hget H) t) (evT (path a) fr)
def resK (H : Heap) (fr : Fr) (rs : List ResultVar) : Option (List AV) :=
  List.rec (motive := fun _ => Option (List AV)) (some []) (fun r _ ih => bindO (consO ih) (resOne P H fr r)) rs
def one (H : Heap) (vs : List AV) : OutH :=
  match vs with
  | [v] => some (v, H)
  | vs => some (.tuple vs, H)
def leave (rs : List ResultVar) (r : Res) : OutH :=
  Res.rec (motive := fun _ => OutH) none (fun e fr H => Ex.rec (motive := fun _ => OutH) (bindO (one H) (resK P H fr rs)) (fun _ => none) (bindO (one H) (resK P H fr rs)) e) r
def enterB (ex : X) (fn : Func) (xs : List AV) (H : Heap) (c : Code) : OutH := bindO (fun fr => leave P fn.results.toList (ex none fn.ntmps (comp P fn.ntmps c) fr H)) (argsK fn.ntmps xs (nat_lit 0) .nil)
def enterF (ex : X) (xs : List AV) (H : Heap) (fn : Func) : OutH := bindO (enterB P ex fn xs H) fn.body
def callAt (ex : X) : CallF := fun f xs H => Option.rec (motive := fun _ => OutH) (bindO (enterF P ex xs H) (fs f)) (fun g => g xs H) (prims f)
def asCode (ex : X) : Option Nat → Nat → Code → Fr → Heap → Res := fun ro nt c fr H => ex ro nt (comp P nt c) fr H
def genK (ex : X) (ro : Option Nat) (nt : Nat) (c : Code) (fr : Fr) (H : Heap) : Res :=
  match c with
  | .region _ ops draw => Am.region P ok ⟨callAt P fs prims ex, Am.round (asCode P ex)⟩ nt ops draw fr H
  | .rangeFunc g ps assign body => overFunc (callAt P fs prims ex) ro nt g ps assign body fr H
  | _ => .fail
def code (c : KC) : X → Option Nat → Nat → Fr → Heap → Res :=
  KC.rec (motive := fun _ => X → Option Nat → Nat → Fr → Heap → Res) (fun _ _ _ fr H => .done .normal fr H) (fun a b _ _ ih ro nt fr H => seqK (ih ro nt b) (ih ro nt a fr H))
    (fun x a b _ _ ih ro nt fr H => orFail (condK (ih ro nt a fr H) (ih ro nt b fr H)) (evX x fr)) (fun id c _ ih ro nt fr H => blockK id (ih ro nt c fr H)) (fun c _ ih ro nt fr H => seqK (ih ro nt (.loop c)) (ih ro nt c fr H))
    (fun id _ _ _ fr H => .done (.exit id) fr H) (fun _ _ _ fr H => .done .ret fr H) (fun l ih _ _ fr H => regRes (stepsK P ok ⟨callAt P fs prims ih, Am.round (asCode P ih)⟩ l fr H)) (fun c ih ro nt fr H => genK P ok fs prims ih ro nt c fr H) c
def exec (n : Nat) : X := Nat.rec (motive := fun _ => X) (fun _ _ _ _ _ => .fail) (fun _ ih ro nt c fr H => code P ok fs prims c ih ro nt fr H) n
def call (n : Nat) : CallF := callAt P fs prims (exec P ok fs prims n)
end
end
end Go.Am.K
end
section
namespace Go.Am
theorem Tr.get_nil {α : Type} (p : Pa) : (Tr.nil : Tr α).get p = none := by cases p <;> rfl
theorem Tr.get_set {α : Type} (x : Option α) : ∀ (p : Pa) (t : Tr α) (q : Pa), (t.set p x).get q = if p = q then x else t.get q := by
  intro p
  induction p with
  | z => intro t q; cases t <;> cases q <;> simp [Tr.set, Tr.get]
  | o p ih => intro t q; cases t <;> cases q <;> simp [Tr.set, Tr.get, ih]
  | i p ih => intro t q; cases t <;> cases q <;> simp [Tr.set, Tr.get, ih]
def Pa.val : Pa → Nat
  | .z => 0
  | .o p => 2 * p.val + 1
  | .i p => 2 * p.val + 2
theorem pathAt_val : ∀ (n k : Nat), k < 2 ^ n → (pathAt n k).val = k := by
  intro n
  induction n with
  | zero => intro k h; have : k = 0 := by omega
            subst this; rfl
  | succ n ih =>
    intro k h
    cases k with
    | zero => rfl
    | succ k =>
      have h2 : k / 2 < 2 ^ n := by rw [Nat.pow_succ] at h; omega
      simp only [pathAt]
      split
      · simp only [Pa.val, ih _ h2]; omega
      · simp only [Pa.val, ih _ h2]; omega
theorem path_inj {a b : Nat} (h : path a = path b) : a = b := by
  have h1 := pathAt_val a a Nat.lt_two_pow_self
  have h2 := pathAt_val b b Nat.lt_two_pow_self
  unfold path at h
  rw [h] at h1
  omega
structure Spot where
  blk : Nat
  base : Nat
  size : Nat
abbrev Emb := Nat → Option Spot
def Emb.Ext (φ φ' : Emb) : Prop := ∀ b e, φ b = some e → φ' b = some e
mutual
inductive VRel (φ : Emb) : AV → Value → Prop
  | undef : VRel φ .undef (.tuple #[])
  | any (v : Value) (h : v.cells = #[v]) (hb : ∀ b, v ≠ .bool b) : VRel φ .any v
  | bool (b : Bool) : VRel φ (.bool b) (.bool b)
  | int (k : IntKind) (n : Int) : VRel φ (.int k n) (.int k n)
  | str (s : List UInt8) : VRel φ (.str s) (.string ⟨s.toArray⟩)
  | nilptr : VRel φ .nilptr (.pointer none)
  | ptr {b : Nat} {e : Spot} (o : Nat) (h : φ b = some e) : VRel φ (.ptr b o) (.pointer (some ⟨e.blk, e.base + o, none⟩))
  | nilslice : VRel φ .nilslice (.slice none 0 0)
  | slice {b : Nat} {e : Spot} {o len cap es : Nat} {o' cap' : Nat} (h : φ b = some e) (hl : len ≤ cap) (hc : cap ≤ cap') (hes : 0 < es)
      (hp : 0 < cap' → o' = e.base + o ∧ o' + cap' * es ≤ e.size) : VRel φ (.slice b o len cap es) (.slice (some ⟨e.blk, o', none⟩) len cap')
  | nilmap : VRel φ .nilmap (.map none)
  | map {b : Nat} {e : Spot} (h : φ b = some e) : VRel φ (.map b) (.map (some e.blk))
  | nilfunc : VRel φ .nilfunc .nilFunc
  | func {f : Nat} {a c : List AV} {a' c' : List Value} (ha : VRels φ a a') (hc : VRels φ c c') : VRel φ (.func f a c) (.func (.func f) a'.toArray c'.toArray)
  | yieldv {l : Nat} {e : Spot} (h : φ l = some e) : VRel φ (.yieldv l) (.func (.yield e.blk) #[] #[])
  | niliface : VRel φ .niliface .nilIface
  | agg {cs : List AV} {cs' : List Value} (h : VRels φ cs cs') : VRel φ (.agg cs) (.agg cs'.toArray)
  | tuple {vs : List AV} {vs' : List Value} (h : VRels φ vs vs') : VRel φ (.tuple vs) (.tuple vs'.toArray)
inductive VRels (φ : Emb) : List AV → List Value → Prop
  | nil : VRels φ [] []
  | cons {a : AV} {v : Value} {as : List AV} {vs : List Value} (h : VRel φ a v) (t : VRels φ as vs) : VRels φ (a :: as) (v :: vs)
end
mutual
theorem VRel.mono {φ φ' : Emb} (hx : φ.Ext φ') : ∀ {a v}, VRel φ a v → VRel φ' a v
  | _, _, .undef => .undef
  | _, _, .any v h hb => .any v h hb
  | _, _, .bool b => .bool b
  | _, _, .int k n => .int k n
  | _, _, .str s => .str s
  | _, _, .nilptr => .nilptr
  | _, _, .ptr o h => .ptr o (hx _ _ h)
  | _, _, .nilslice => .nilslice
  | _, _, .slice h hl hc hes hp => .slice (hx _ _ h) hl hc hes hp
  | _, _, .nilmap => .nilmap
  | _, _, .map h => .map (hx _ _ h)
  | _, _, .nilfunc => .nilfunc
  | _, _, .func ha hc => .func (VRels.mono hx ha) (VRels.mono hx hc)
  | _, _, .yieldv h => .yieldv (hx _ _ h)
  | _, _, .niliface => .niliface
  | _, _, .agg h => .agg (VRels.mono hx h)
  | _, _, .tuple h => .tuple (VRels.mono hx h)
theorem VRels.mono {φ φ' : Emb} (hx : φ.Ext φ') : ∀ {as vs}, VRels φ as vs → VRels φ' as vs
  | _, _, .nil => .nil
  | _, _, .cons h t => .cons (VRel.mono hx h) (VRels.mono hx t)
end
theorem VRels.length {φ : Emb} : ∀ {as vs}, VRels φ as vs → as.length = vs.length
  | _, _, .nil => rfl
  | _, _, .cons _ t => by simp [VRels.length t]
theorem VRels.get {φ : Emb} : ∀ {as : List AV} {vs : List Value}, VRels φ as vs → ∀ {i : Nat} {a : AV}, as[i]? = some a → ∃ v, vs[i]? = some v ∧ VRel φ a v
  | _, _, .nil, i, a, h => by simp at h
  | _, _, .cons (v := v) h t, i, a, hi => by
    cases i with
    | zero => simp at hi; subst hi; exact ⟨v, by simp, h⟩
    | succ i => simp at hi; obtain ⟨u, hu, hr⟩ := VRels.get t hi; exact ⟨u, by simpa using hu, hr⟩
theorem VRels.append {φ : Emb} : ∀ {as vs bs us}, VRels φ as vs → VRels φ bs us → VRels φ (as ++ bs) (vs ++ us)
  | _, _, _, _, .nil, k => k
  | _, _, _, _, .cons h t, k => .cons h (VRels.append t k)
theorem VRels.take {φ : Emb} : ∀ {as vs} (n : Nat), VRels φ as vs → VRels φ (as.take n) (vs.take n)
  | _, _, 0, _ => by simpa using .nil
  | _, _, n + 1, .nil => by simpa using .nil
  | _, _, n + 1, .cons h t => by simpa using .cons h (VRels.take n t)
theorem VRels.drop {φ : Emb} : ∀ {as vs} (n : Nat), VRels φ as vs → VRels φ (as.drop n) (vs.drop n)
  | _, _, 0, h => by simpa using h
  | _, _, n + 1, .nil => by simpa using .nil
  | _, _, n + 1, .cons _ t => by simpa using VRels.drop n t
theorem VRels.replicate {φ : Emb} {a : AV} {v : Value} (h : VRel φ a v) : ∀ n, VRels φ (List.replicate n a) (List.replicate n v)
  | 0 => .nil
  | n + 1 => by simpa [List.replicate_succ] using .cons h (VRels.replicate h n)
theorem VRels.of_get {φ : Emb} : ∀ {as : List AV} {vs : List Value}, as.length = vs.length → (∀ (i : Nat) (a : AV) (v : Value), as[i]? = some a → vs[i]? = some v → VRel φ a v) → VRels φ as vs
  | [], [], _, _ => .nil
  | [], _ :: _, h, _ => by simp at h
  | _ :: _, [], h, _ => by simp at h
  | a :: as, v :: vs, h, k => .cons (k 0 a v (by simp) (by simp)) (VRels.of_get (by simpa using h) fun i b u hb hu => k (i + 1) b u (by simpa using hb) (by simpa using hu))
theorem VRel.cells {φ : Emb} {a : AV} {v : Value} (h : VRel φ a v) : VRels φ a.cells v.cells.toList := by
  cases h <;> first | exact .cons (by constructor <;> assumption) .nil | (simp [AV.cells, Value.cells]; assumption) | (rename_i hb hv; rw [hv]; exact .cons (.any _ hv hb) .nil) | (rename_i hv hb; rw [hv]; exact .cons (.any _ hv hb) .nil)
theorem bytes_eta (s : ByteArray) : (⟨s.data.toList.toArray⟩ : ByteArray) = s := by cases s; simp
mutual
theorem ofVal_rel {φ : Emb} : ∀ {v : Value} {a : AV}, ofVal v = some a → VRel φ a v
  | .bool b, a, h => by simp [ofVal] at h; subst h; exact .bool b
  | .int k n, a, h => by simp [ofVal] at h; subst h; exact .int k n
  | .float .., a, h => by simp [ofVal] at h
  | .complex .., a, h => by simp [ofVal] at h
  | .string s, a, h => by simp only [ofVal, Option.some.injEq] at h; subst h; have := VRel.str (φ := φ) s.data.toList; rwa [bytes_eta] at this
  | .pointer none, a, h => by simp [ofVal] at h; subst h; exact .nilptr
  | .pointer (some _), a, h => by simp [ofVal] at h
  | .slice none 0 0, a, h => by simp [ofVal] at h; subst h; exact .nilslice
  | .slice none 0 (_ + 1), a, h => by simp [ofVal] at h
  | .slice none (_ + 1) _, a, h => by simp [ofVal] at h
  | .slice (some _) _ _, a, h => by simp [ofVal] at h
  | .map none, a, h => by simp [ofVal] at h; subst h; exact .nilmap
  | .map (some _), a, h => by simp [ofVal] at h
  | .chan _, a, h => by simp [ofVal] at h
  | .func .., a, h => by simp [ofVal] at h
  | .nilFunc, a, h => by simp [ofVal] at h; subst h; exact .nilfunc
  | .iface .., a, h => by simp [ofVal] at h
  | .nilIface, a, h => by simp [ofVal] at h; subst h; exact .niliface
  | .agg ⟨cs⟩, a, h => by
    simp only [ofVal, Option.map_eq_some_iff] at h
    obtain ⟨as, ha, rfl⟩ := h
    exact .agg (ofVals_rel ha)
  | .tuple ⟨[]⟩, a, h => by simp [ofVal] at h; subst h; exact .undef
  | .tuple ⟨_ :: _⟩, a, h => by simp [ofVal] at h
theorem ofVals_rel {φ : Emb} : ∀ {vs : List Value} {as : List AV}, ofVals vs = some as → VRels φ as vs
  | [], as, h => by simp [ofVals] at h; subst h; exact .nil
  | v :: vs, as, h => by
    simp only [ofVals] at h
    split at h
    · rename_i a as' h1 h2
      simp at h; subst h
      exact .cons (ofVal_rel h1) (ofVals_rel h2)
    · simp at h
end
def ERel (φ : Emb) (e : AV × AV × Nat) (m : MapEntry) : Prop := VRel φ e.1 m.key ∧ VRel φ e.2.1 m.val ∧ e.2.2 = m.born
inductive ERels (φ : Emb) : List (AV × AV × Nat) → List MapEntry → Prop
  | nil : ERels φ [] []
  | cons {e : AV × AV × Nat} {m : MapEntry} {es : List (AV × AV × Nat)} {ms : List MapEntry} (h : ERel φ e m) (t : ERels φ es ms) : ERels φ (e :: es) (m :: ms)
theorem ERels.mono {φ φ' : Emb} (hx : φ.Ext φ') : ∀ {es ms}, ERels φ es ms → ERels φ' es ms
  | _, _, .nil => .nil
  | _, _, .cons h t => .cons ⟨h.1.mono hx, h.2.1.mono hx, h.2.2⟩ (ERels.mono hx t)
def ORel (φ : Emb) (o : AObj) (e : Spot) (x : Option Obj) : Prop :=
  match o with
  | .cells cs => ∃ c el fz, x = some (.cells c el fz) ∧ c.size = e.size ∧ e.base + cs.length ≤ e.size ∧ (∀ i, e.base ≤ i → i < e.size → ¬ (fz.1 ≤ i ∧ i < fz.2)) ∧
      ∀ i a, cs[i]? = some a → ∃ v, c[e.base + i]? = some v ∧ VRel φ a v
  | .map es clock => ∃ ms, x = some (.map ms clock) ∧ ERels φ es ms.toList
  | .bag es => ∃ ms clock es', x = some (.map ms clock) ∧ ERels φ es' ms.toList ∧ (es'.map fun e => (e.1, e.2.1)).Perm es ∧ keysApart es = true
  | .iter m since seen stepped => e.base = 0 ∧ ∃ m', x = some (.mapIter m' since seen.toArray stepped) ∧
      (match m with
       | none => m' = none
       | some b => ∃ e', φ b = some e' ∧ m' = some e'.blk)
  | .at m last stepped => e.base = 0 ∧ ∃ e' since seen, φ m = some e' ∧ x = some (.mapIter (some e'.blk) since seen stepped) ∧ seen.back? = some last
  | .loop st pend nt fr ps assign body => ∃ fn tmps df, x = some (.loop { state := st, pending := pend, fn, tmps, params := ps.toArray, assign, body, defers := df }) ∧ nt ≤ tmps.size ∧
      ∀ t, VRel φ ((Tr.get fr (path t)).getD .undef) (tmps.getD t (.tuple #[]))
theorem ORel.mono {φ φ' : Emb} (hx : φ.Ext φ') {o : AObj} {e : Spot} {x : Option Obj} (h : ORel φ o e x) : ORel φ' o e x := by
  cases o with
  | cells cs =>
    obtain ⟨c, el, fz, h1, h2, h3, h4, h5⟩ := h
    exact ⟨c, el, fz, h1, h2, h3, h4, fun i a ha => let ⟨v, hv, hr⟩ := h5 i a ha; ⟨v, hv, hr.mono hx⟩⟩
  | map es clock => obtain ⟨ms, h1, h2⟩ := h; exact ⟨ms, h1, h2.mono hx⟩
  | bag es => obtain ⟨ms, clock, es', h1, h2, h3⟩ := h; exact ⟨ms, clock, es', h1, h2.mono hx, h3⟩
  | iter m since seen stepped =>
    obtain ⟨h0, m', h1, h2⟩ := h
    refine ⟨h0, m', h1, ?_⟩
    cases m with
    | none => exact h2
    | some b => obtain ⟨e', he, hm⟩ := h2; exact ⟨e', hx _ _ he, hm⟩
  | «at» m last stepped =>
    obtain ⟨h0, e', since, seen, h1, h2, h3⟩ := h
    exact ⟨h0, e', since, seen, hx _ _ h1, h2, h3⟩
  | loop st pend nt fr ps assign body =>
    obtain ⟨fn, tmps, df, h1, h2, h3⟩ := h
    exact ⟨fn, tmps, df, h1, h2, fun t => (h3 t).mono hx⟩
theorem ORel.lt {φ : Emb} {o : AObj} {e : Spot} {w : World} (h : ORel φ o e w.heap[e.blk]?) : e.blk < w.heap.size := by
  rcases Nat.lt_or_ge e.blk w.heap.size with h1 | h1
  · exact h1
  · rw [Array.getElem?_eq_none h1] at h
    cases o <;> simp [ORel] at h
structure MRel (φ : Emb) (g : Get) (w : World) : Prop where
  obj : ∀ b o e, g b = some o → φ b = some e → ORel φ o e w.heap[e.blk]?
  inj : ∀ b b' o o' e e', g b = some o → g b' = some o' → φ b = some e → φ b' = some e' → e.blk = e'.blk → b = b'
def Mine (φ : Emb) (g : Get) (W : Nat → Prop) (w : World) (k : Nat) : Prop :=
  w.heap.size ≤ k ∨ ∃ b e, φ b = some e ∧ e.blk = k ∧ g b ≠ none ∧ W b
structure Moves (φ φ' : Emb) (g : Get) (lo hi : Nat) (W : Nat → Prop) (w w' : World) : Prop where
  ext : φ.Ext φ'
  dom : ∀ b e, φ' b = some e → φ b = some e ∨ (lo ≤ b ∧ b < hi ∧ Mine φ g W w e.blk)
  frame : ∀ k, ¬ Mine φ g W w k → w'.heap[k]? = w.heap[k]?
  size : w.heap.size ≤ w'.heap.size
  os : w'.os = w.os
  tape : w'.tape = w.tape
  output : w'.output = w.output
end Go.Am
end
section
namespace Go.Am
def upd {α : Type} (f : Nat → α) (k : Nat) (x : α) : Nat → α := fun i => if i = k then x else f i
theorem upd_same {α : Type} (f : Nat → α) (k : Nat) (x : α) : upd f k x k = x := by simp [upd]
theorem upd_ne {α : Type} (f : Nat → α) {k i : Nat} (x : α) (h : i ≠ k) : upd f k x i = f i := by simp [upd, h]
def Eff.get (e : Eff) (g : Get) (nx : Nat) : Get :=
  match e with
  | .keep => g
  | .new o => upd g nx (some o)
  | .put b o => upd g b (some o)
  | .swap b o => upd (upd g b none) nx (some o)
def Eff.top (e : Eff) (nx : Nat) : Nat :=
  match e with
  | .keep | .put _ _ => nx
  | .new _ | .swap _ _ => nx + 1
def Free (φ : Emb) (nx : Nat) (e : Eff) : Prop := e.top nx = nx ∨ φ nx = none
theorem Free.new {φ : Emb} {nx : Nat} {o : AObj} (h : Free φ nx (.new o)) : φ nx = none := h.resolve_left (by simp [Eff.top])
theorem Free.swap {φ : Emb} {nx b : Nat} {o : AObj} (h : Free φ nx (.swap b o)) : φ nx = none := h.resolve_left (by simp [Eff.top])
def Eff.hits (e : Eff) (b : Nat) : Prop :=
  match e with
  | .keep | .new _ => False
  | .put b' _ | .swap b' _ => b = b'
structure Like (w w' : World) : Prop where
  os : w'.os = w.os
  tape : w'.tape = w.tape
  output : w'.output = w.output
theorem Like.refl (w : World) : Like w w := ⟨rfl, rfl, rfl⟩
theorem Moves.refl (φ : Emb) (g : Get) (lo hi : Nat) (W : Nat → Prop) (w : World) : Moves φ φ g lo hi W w w :=
  ⟨fun _ _ h => h, fun _ _ h => .inl h, fun _ _ => rfl, Nat.le_refl _, rfl, rfl, rfl⟩
theorem Emb.Ext.refl (φ : Emb) : φ.Ext φ := fun _ _ h => h
theorem Emb.Ext.trans {φ φ' φ'' : Emb} (h : φ.Ext φ') (k : φ'.Ext φ'') : φ.Ext φ'' := fun b e x => k b e (h b e x)
theorem MRel.lt {φ : Emb} {g : Get} {w : World} (h : MRel φ g w) {b : Nat} {o : AObj} {e : Spot} (hg : g b = some o) (he : φ b = some e) : e.blk < w.heap.size :=
  (h.obj b o e hg he).lt
theorem new_rel {φ : Emb} {g : Get} {w w' : World} (h : MRel φ g w) {nx : Nat} (hf : φ nx = none) {o : AObj} {x : Obj} {base size : Nat}
    (hh : w'.heap = w.heap.push x) (hl : Like w w') (W : Nat → Prop)
    (ho : ORel (upd φ nx (some ⟨w.heap.size, base, size⟩)) o ⟨w.heap.size, base, size⟩ (some x)) :
    φ.Ext (upd φ nx (some ⟨w.heap.size, base, size⟩)) ∧ MRel (upd φ nx (some ⟨w.heap.size, base, size⟩)) (upd g nx (some o)) w' ∧
      Moves φ (upd φ nx (some ⟨w.heap.size, base, size⟩)) g nx (nx + 1) W w w' := by
  have hx : φ.Ext (upd φ nx (some ⟨w.heap.size, base, size⟩)) := by
    intro b e hb
    have : b ≠ nx := fun e => by subst e; rw [hf] at hb; cases hb
    rw [upd_ne _ _ this]; exact hb
  have old : ∀ b o' e, b ≠ nx → upd g nx (some o) b = some o' → upd φ nx (some ⟨w.heap.size, base, size⟩) b = some e → g b = some o' ∧ φ b = some e := by
    intro b o' e hne h1 h2
    rw [upd_ne _ _ hne] at h1 h2
    exact ⟨h1, h2⟩
  refine ⟨hx, ⟨?_, ?_⟩, ⟨hx, ?_, ?_, ?_, hl.os, hl.tape, hl.output⟩⟩
  · intro b o' e h1 h2
    by_cases hne : b = nx
    · subst hne
      rw [upd_same] at h1 h2
      cases h1; cases h2
      rw [hh, Array.getElem?_push, if_pos rfl]
      exact ho
    · obtain ⟨h3, h4⟩ := old b o' e hne h1 h2
      have hlt := h.lt h3 h4
      rw [hh, Array.getElem?_push, if_neg (by omega)]
      exact (h.obj b o' e h3 h4).mono hx
  · intro b b' o1 o2 e e' h1 h2 h3 h4 he
    by_cases hb : b = nx <;> by_cases hb' : b' = nx
    · rw [hb, hb']
    · subst hb
      rw [upd_same] at h3
      cases h3
      obtain ⟨h5, h6⟩ := old b' o2 e' hb' h2 h4
      have := h.lt h5 h6
      simp only at he
      omega
    · subst hb'
      rw [upd_same] at h4
      cases h4
      obtain ⟨h5, h6⟩ := old b o1 e hb h1 h3
      have := h.lt h5 h6
      simp only at he
      omega
    · obtain ⟨h5, h6⟩ := old b o1 e hb h1 h3
      obtain ⟨h7, h8⟩ := old b' o2 e' hb' h2 h4
      exact h.inj b b' o1 o2 e e' h5 h7 h6 h8 he
  · intro b e hb
    by_cases hne : b = nx
    · subst hne
      rw [upd_same] at hb
      cases hb
      exact .inr ⟨Nat.le_refl _, Nat.lt_succ_self _, .inl (Nat.le_refl _)⟩
    · rw [upd_ne _ _ hne] at hb; exact .inl hb
  · intro k hk
    have : k < w.heap.size := Nat.lt_of_not_le fun hle => hk (.inl hle)
    rw [hh, Array.getElem?_push, if_neg (by omega)]
  · rw [hh, Array.size_push]; omega
theorem put_rel {φ : Emb} {g : Get} {w w' : World} (h : MRel φ g w) {b : Nat} {o o' : AObj} {e : Spot} {x : Obj} (hg : g b = some o) (he : φ b = some e)
    (hh : w'.heap = w.heap.setIfInBounds e.blk x) (hl : Like w w') (lo hi : Nat) (ho : ORel φ o' e (some x)) :
    MRel φ (upd g b (some o')) w' ∧ Moves φ φ g lo hi (· = b) w w' := by
  have hlt := h.lt hg he
  have same : w'.heap[e.blk]? = some x := by rw [hh, Array.getElem?_setIfInBounds_self_of_lt hlt]
  have other : ∀ k, k ≠ e.blk → w'.heap[k]? = w.heap[k]? := fun k hk => by rw [hh, Array.getElem?_setIfInBounds_ne (Ne.symm hk)]
  refine ⟨⟨?_, ?_⟩, ⟨.refl φ, fun _ _ k => .inl k, ?_, by rw [hh]; simp, hl.os, hl.tape, hl.output⟩⟩
  · intro b' o1 e1 h1 h2
    by_cases hb : b' = b
    · subst hb
      rw [upd_same] at h1
      cases h1
      rw [he] at h2; cases h2
      rw [same]; exact ho
    · rw [upd_ne _ _ hb] at h1
      rw [other _ fun heq => hb (h.inj b' b o1 o e1 e h1 hg h2 he heq)]
      exact h.obj b' o1 e1 h1 h2
  · intro b1 b2 o1 o2 e1 e2 h1 h2 h3 h4 heq
    have live : ∀ c oc, upd g b (some o') c = some oc → ∃ oc', g c = some oc' := by
      intro c oc hc
      by_cases hcb : c = b
      · subst hcb; exact ⟨o, hg⟩
      · rw [upd_ne _ _ hcb] at hc; exact ⟨oc, hc⟩
    obtain ⟨u1, k1⟩ := live b1 o1 h1
    obtain ⟨u2, k2⟩ := live b2 o2 h2
    exact h.inj b1 b2 u1 u2 e1 e2 k1 k2 h3 h4 heq
  · intro k hk
    refine other k fun heq => hk (.inr ⟨b, e, he, heq.symm, by rw [hg]; simp, rfl⟩)
theorem MRel.drop {φ : Emb} {g : Get} {w : World} (h : MRel φ g w) (b : Nat) : MRel φ (upd g b none) w := by
  have live : ∀ c o, upd g b none c = some o → g c = some o := by
    intro c o hc
    by_cases hcb : c = b
    · subst hcb; rw [upd_same] at hc; cases hc
    · rwa [upd_ne _ _ hcb] at hc
  exact ⟨fun c o e hc he => h.obj c o e (live c o hc) he, fun b1 b2 o1 o2 e1 e2 h1 h2 h3 h4 => h.inj b1 b2 o1 o2 e1 e2 (live _ _ h1) (live _ _ h2) h3 h4⟩
theorem stay_rel {φ : Emb} {g : Get} {w w' : World} (h : MRel φ g w) {nx b : Nat} (hf : φ nx = none) {o o' : AObj} {e : Spot} {x : Obj} {base : Nat} (hg : g b = some o) (he : φ b = some e)
    (hh : w'.heap = w.heap.setIfInBounds e.blk x) (hl : Like w w')
    (ho : ORel (upd φ nx (some ⟨e.blk, base, e.size⟩)) o' ⟨e.blk, base, e.size⟩ (some x)) :
    φ.Ext (upd φ nx (some ⟨e.blk, base, e.size⟩)) ∧ MRel (upd φ nx (some ⟨e.blk, base, e.size⟩)) (upd (upd g b none) nx (some o')) w' ∧
      Moves φ (upd φ nx (some ⟨e.blk, base, e.size⟩)) g nx (nx + 1) (· = b) w w' := by
  have hlt := h.lt hg he
  have same : w'.heap[e.blk]? = some x := by rw [hh, Array.getElem?_setIfInBounds_self_of_lt hlt]
  have other : ∀ k, k ≠ e.blk → w'.heap[k]? = w.heap[k]? := fun k hk => by rw [hh, Array.getElem?_setIfInBounds_ne (Ne.symm hk)]
  have hx : φ.Ext (upd φ nx (some ⟨e.blk, base, e.size⟩)) := by
    intro c e' hb
    have : c ≠ nx := fun e => by subst e; rw [hf] at hb; cases hb
    rw [upd_ne _ _ this]; exact hb
  have old : ∀ c o1 e1, c ≠ nx → upd (upd g b none) nx (some o') c = some o1 → upd φ nx (some ⟨e.blk, base, e.size⟩) c = some e1 → c ≠ b ∧ g c = some o1 ∧ φ c = some e1 := by
    intro c o1 e1 hne h1 h2
    rw [upd_ne _ _ hne] at h1 h2
    by_cases hcb : c = b
    · subst hcb; rw [upd_same] at h1; cases h1
    · rw [upd_ne _ _ hcb] at h1; exact ⟨hcb, h1, h2⟩
  refine ⟨hx, ⟨?_, ?_⟩, ⟨hx, ?_, ?_, by rw [hh]; simp, hl.os, hl.tape, hl.output⟩⟩
  · intro c o1 e1 h1 h2
    by_cases hne : c = nx
    · subst hne
      rw [upd_same] at h1 h2
      cases h1; cases h2
      rw [same]; exact ho
    · obtain ⟨hcb, h3, h4⟩ := old c o1 e1 hne h1 h2
      rw [other _ fun heq => hcb (h.inj c b o1 o e1 e h3 hg h4 he heq)]
      exact (h.obj c o1 e1 h3 h4).mono hx
  · intro c c' o1 o2 e1 e2 h1 h2 h3 h4 heq
    by_cases hb : c = nx <;> by_cases hb' : c' = nx
    · rw [hb, hb']
    · subst hb
      rw [upd_same] at h3
      cases h3
      obtain ⟨h5, h6, h7⟩ := old c' o2 e2 hb' h2 h4
      exact absurd (h.inj c' b o2 o e2 e h6 hg h7 he heq.symm) h5
    · subst hb'
      rw [upd_same] at h4
      cases h4
      obtain ⟨h5, h6, h7⟩ := old c o1 e1 hb h1 h3
      exact absurd (h.inj c b o1 o e1 e h6 hg h7 he heq) h5
    · obtain ⟨_, h6, h7⟩ := old c o1 e1 hb h1 h3
      obtain ⟨_, h8, h9⟩ := old c' o2 e2 hb' h2 h4
      exact h.inj c c' o1 o2 e1 e2 h6 h8 h7 h9 heq
  · intro c e1 hb
    by_cases hne : c = nx
    · subst hne
      rw [upd_same] at hb
      cases hb
      exact .inr ⟨Nat.le_refl _, Nat.lt_succ_self _, .inr ⟨b, e, he, rfl, by rw [hg]; simp, rfl⟩⟩
    · rw [upd_ne _ _ hne] at hb; exact .inl hb
  · intro k hk
    exact other k fun heq => hk (.inr ⟨b, e, he, heq.symm, by rw [hg]; simp, rfl⟩)
theorem Moves.weaken {φ φ' : Emb} {g : Get} {lo hi lo' hi' : Nat} {W W' : Nat → Prop} {w w' : World} (h : Moves φ φ' g lo hi W w w') (h1 : lo' ≤ lo) (h2 : hi ≤ hi') (hW : ∀ b, W b → W' b) :
    Moves φ φ' g lo' hi' W' w w' := by
  have hm : ∀ k, Mine φ g W w k → Mine φ g W' w k := fun k hk => hk.imp id fun ⟨b, e, a, c, d, f⟩ => ⟨b, e, a, c, d, hW b f⟩
  exact ⟨h.ext, fun b e hb => (h.dom b e hb).imp id fun ⟨a, c, d⟩ => ⟨by omega, by omega, hm _ d⟩, fun k hk => h.frame k fun hk' => hk (hm k hk'), h.size, h.os, h.tape, h.output⟩
theorem leave_rel {φ : Emb} {g : Get} {w w' : World} (h : MRel φ g w) {nx : Nat} (b : Nat) (hf : φ nx = none) {o : AObj} {x : Obj} {base size : Nat}
    (hh : w'.heap = w.heap.push x) (hl : Like w w')
    (ho : ORel (upd φ nx (some ⟨w.heap.size, base, size⟩)) o ⟨w.heap.size, base, size⟩ (some x)) :
    φ.Ext (upd φ nx (some ⟨w.heap.size, base, size⟩)) ∧ MRel (upd φ nx (some ⟨w.heap.size, base, size⟩)) (upd (upd g b none) nx (some o)) w' ∧
      Moves φ (upd φ nx (some ⟨w.heap.size, base, size⟩)) g nx (nx + 1) (· = b) w w' := by
  obtain ⟨h1, h2, h3⟩ := new_rel (h.drop b) hf hh hl (fun _ => False) ho
  refine ⟨h1, h2, ⟨h3.ext, ?_, ?_, h3.size, h3.os, h3.tape, h3.output⟩⟩
  · intro c e hc
    rcases h3.dom c e hc with h4 | ⟨h4, h5, h6⟩
    · exact .inl h4
    · refine .inr ⟨h4, h5, ?_⟩
      rcases h6 with h6 | ⟨_, _, _, _, _, h7⟩
      · exact .inl h6
      · exact h7.elim
  · intro k hk
    refine h3.frame k fun hm => ?_
    rcases hm with h6 | ⟨_, _, _, _, _, h7⟩
    · exact hk (.inl h6)
    · exact h7.elim
end Go.Am
end
section
namespace Go.Am
section
variable {P : Program} {w : World}
theorem run_info {t : TypeId} {i : TypeInfo} (h : P.info? t = some i) : (typeInfo t).run P w = .ok i w := by simp [typeInfo, h]
theorem run_under {t : TypeId} {d : TypeDesc} (h : P.underlying t = some d) : (underlying t).run P w = .ok d w := by simp [underlying, h]
theorem run_size {t : TypeId} {n : Nat} (h : tsize P t = some n) : (sizeOf t).run P w = .ok n w := by
  simp only [tsize, Option.map_eq_some_iff] at h
  obtain ⟨i, hi, rfl⟩ := h
  simp [sizeOf, run_info hi]
theorem run_agg {t : TypeId} {b : Bool} (h : tagg P t = some b) : (isAgg t).run P w = .ok b w := by
  simp only [tagg, Option.map_eq_some_iff] at h
  obtain ⟨d, hd, rfl⟩ := h
  simp only [isAgg, Sem.run_bind, run_under hd, Result.andThen_ok]
  cases d <;> rfl
theorem run_zero {t : TypeId} {z : AV} (h : tzero P t = some z) : ∃ v, (∀ w, (zeroValue t).run P w = .ok v w) ∧ ∀ φ, VRel φ z v := by
  simp only [tzero, Option.bind_eq_some_iff] at h
  obtain ⟨v, ⟨i, hi, hz⟩, hv⟩ := h
  exact ⟨v, fun w => by simp [zeroValue, run_info hi, hz], fun φ => ofVal_rel hv⟩
theorem addr_add (b o n : Nat) : (⟨b, o, none⟩ : Addr).add n = ⟨b, o + n, none⟩ := by
  unfold Addr.add; split
  · subst n; rfl
  · rfl
theorem cell_at {b o : Nat} {c : Array Value} {el : TypeId} {fz : Nat × Nat} (h : w.heap[b]? = some (.cells c el fz)) : w.cell? ⟨b, o, none⟩ = c[o]? := by
  simp [World.cell?, h]
theorem run_loadFrom {b o : Nat} {c : Array Value} {el : TypeId} {fz : Nat × Nat} (h : w.heap[b]? = some (.cells c el fz)) :
    ∀ (n i : Nat) (acc : Array Value), o + i + n ≤ c.size → (loadCellsFrom ⟨b, o, none⟩ i n acc).run P w = .ok (acc ++ ((c.toList.drop (o + i)).take n).toArray) w := by
  intro n
  induction n with
  | zero => intro i acc _; simp [loadCellsFrom]
  | succ n ih =>
    intro i acc hn
    have hlt : o + i < c.size := by omega
    have hc : w.cell? ⟨b, o + i, none⟩ = some c[o + i] := by rw [cell_at h]; exact Array.getElem?_eq_getElem hlt
    simp only [loadCellsFrom, Sem.run_bind, addr_add, run_load, hc, Result.andThen_ok]
    rw [ih (i + 1) _ (by omega)]
    have : c.toList.drop (o + i) = c[o + i] :: c.toList.drop (o + (i + 1)) := by
      rw [List.drop_eq_getElem_cons (by simpa using hlt)]; simp [Nat.add_assoc]
    rw [this]
    simp
theorem run_loadCells {b o n : Nat} {c : Array Value} {el : TypeId} {fz : Nat × Nat} (h : w.heap[b]? = some (.cells c el fz)) (hn : o + n ≤ c.size) :
    (loadCells ⟨b, o, none⟩ n).run P w = .ok ((c.toList.drop o).take n).toArray w := by
  simp only [loadCells]
  rw [run_loadFrom h n 0 #[] (by omega)]
  simp
def World.turn (w : World) (k : Nat) (x : Obj) : World := { w with heap := w.heap.setIfInBounds k x }
theorem turn_like (w : World) (k : Nat) (x : Obj) : Like w (World.turn w k x) := ⟨rfl, rfl, rfl⟩
theorem turn_get {k : Nat} {x : Obj} (h : k < w.heap.size) : (World.turn w k x).heap[k]? = some x := by simp [World.turn, h]
theorem setCell_turn {b o : Nat} {c : Array Value} {el : TypeId} {fz : Nat × Nat} (h : w.heap[b]? = some (.cells c el fz)) (v : Value) :
    w.setCell ⟨b, o, none⟩ v = World.turn w b (.cells (c.setIfInBounds o v) el fz) := by
  unfold World.setCell World.turn
  congr 1
  apply Array.ext_getElem?
  intro i
  rw [Array.getElem?_modify, Array.getElem?_setIfInBounds]
  split
  · rename_i he
    subst he
    have hlt : b < w.heap.size := by
      rcases Nat.lt_or_ge b w.heap.size with h1 | h1
      · exact h1
      · rw [Array.getElem?_eq_none h1] at h; cases h
    rw [Array.getElem?_eq_getElem hlt] at h
    simp only [Option.some.injEq] at h
    simp [h, hlt]
  · rfl
theorem run_storeAt {b o : Nat} {c : Array Value} {el : TypeId} {fz : Nat × Nat} (h : w.heap[b]? = some (.cells c el fz)) (ho : o < c.size) (hf : ¬ (fz.1 ≤ o ∧ o < fz.2)) {v : Value} (hv : v.oneCell' = true) :
    (Go.store ⟨b, o, none⟩ v).run P w = .ok () (World.turn w b (.cells (c.setIfInBounds o v) el fz)) := by
  rw [run_store P w _ v .plain hv, cell_at h, Array.getElem?_eq_getElem ho]
  have : w.frozen? ⟨b, o, none⟩ = false := by
    simp only [World.frozen?, h]
    obtain ⟨lo, hi⟩ := fz
    simp only [Bool.and_eq_false_iff, decide_eq_false_iff_not]
    by_cases h1 : lo ≤ o
    · exact .inr fun h2 => hf ⟨h1, h2⟩
    · exact .inl h1
  simp only [this, Bool.false_eq_true, if_false, setCell_turn h]
def splice' (c : List Value) (o : Nat) (vs : List Value) : List Value := c.take o ++ vs ++ c.drop (o + vs.length)
theorem run_storeCells {b o : Nat} {el : TypeId} {fz : Nat × Nat} : ∀ (vs : List Value) (i : Nat) (w : World) (c : Array Value), w.heap[b]? = some (.cells c el fz) → o + i + vs.length ≤ c.size →
    (∀ k, o ≤ k → k < c.size → ¬ (fz.1 ≤ k ∧ k < fz.2)) → vs.all (·.oneCell') = true →
    ∃ w', (storeCells ⟨b, o, none⟩ vs i).run P w = .ok () w' ∧ w'.heap = w.heap.setIfInBounds b (.cells (splice' c.toList (o + i) vs).toArray el fz) ∧ Like w w' := by
  intro vs
  induction vs with
  | nil =>
    intro i w c h _ _ _
    refine ⟨w, by simp [storeCells], ?_, .refl w⟩
    have : (splice' c.toList (o + i) []).toArray = c := by simp [splice']
    rw [this]
    apply Array.ext_getElem?
    intro k
    rw [Array.getElem?_setIfInBounds]
    split
    · rename_i he; subst he; split
      · exact h
      · rename_i hlt; simp [Array.getElem?_eq_none (Nat.le_of_not_lt hlt)] at h
    · rfl
  | cons v vs ih =>
    intro i w c h hn hf hv
    simp only [List.all_cons, Bool.and_eq_true] at hv
    simp only [List.length_cons] at hn
    have hlt : b < w.heap.size := by
      rcases Nat.lt_or_ge b w.heap.size with h1 | h1
      · exact h1
      · rw [Array.getElem?_eq_none h1] at h; cases h
    obtain ⟨w', h1, h2, h3⟩ := ih (i + 1) (World.turn w b (.cells (c.setIfInBounds (o + i) v) el fz)) (c.setIfInBounds (o + i) v) (turn_get hlt) (by simp; omega) (by intro k hk1 hk2; exact hf k hk1 (by simpa using hk2)) hv.2
    refine ⟨w', ?_, ?_, ⟨h3.os, h3.tape, h3.output⟩⟩
    · simp only [storeCells, Sem.run_bind, addr_add, run_storeAt (P := P) h (show o + i < c.size by omega) (hf _ (by omega) (by omega)) hv.1, Result.andThen_ok]
      exact h1
    · rw [h2]
      simp only [World.turn, Array.setIfInBounds_setIfInBounds]
      congr 2
      simp only [splice', Array.toList_setIfInBounds, List.length_cons]
      congr 1
      have e1 : (c.toList.set (o + i) v).take (o + (i + 1)) = c.toList.take (o + i) ++ [v] := by
        have hl : o + i < c.toList.length := by simp; omega
        rw [show o + (i + 1) = o + i + 1 by omega, List.take_succ_eq_append_getElem (by simpa using hl)]
        rw [List.take_set_of_le (Nat.le_refl _)]
        simp
      have e2 : (c.toList.set (o + i) v).drop (o + (i + 1) + vs.length) = c.toList.drop (o + i + (vs.length + 1)) := by
        rw [List.drop_set_of_lt (by omega)]
        congr 1
        omega
      rw [e1, e2]
      simp
end
end Go.Am
end
section
namespace Go.Am
section
variable (P : Program) (φ : Emb) (g : Get) (nx : Nat) (w : World)
def VOk (s : Sem Value) (av : AV) (e : Eff) : Prop :=
  ∃ v w' φ', s.run P w = .ok v w' ∧ VRel φ' av v ∧ MRel φ' (e.get g nx) w' ∧ Moves φ φ' g nx (e.top nx) e.hits w w'
def UOk (s : Sem Unit) (e : Eff) : Prop :=
  ∃ w' φ', s.run P w = .ok () w' ∧ MRel φ' (e.get g nx) w' ∧ Moves φ φ' g nx (e.top nx) e.hits w w'
end
section
variable {P : Program} {φ : Emb} {g : Get} {nx : Nat} {w : World}
theorem VOk.keep {s : Sem Value} {av : AV} {v : Value} (hM : MRel φ g w) (h : s.run P w = .ok v w) (hv : VRel φ av v) : VOk P φ g nx w s av .keep :=
  ⟨v, w, φ, h, hv, hM, .refl _ _ _ _ _ _⟩
theorem read_rel (hM : MRel φ g w) {b o n : Nat} {l : List AV} {e : Spot} (h : g.read b o n = some l) (he : φ b = some e) :
    ∃ c el fz, w.heap[e.blk]? = some (.cells c el fz) ∧ e.base + o + n ≤ c.size ∧ c.size = e.size ∧ VRels φ l ((c.toList.drop (e.base + o)).take n) := by
  unfold Get.read Get.cellsOf at h
  cases hg : g b with
  | none => rw [hg] at h; simp at h
  | some x =>
    rw [hg] at h
    cases x with
    | cells cs =>
      simp only at h
      split at h
      · rename_i hn
        simp only [Option.some.injEq] at h
        obtain ⟨c, el, fz, h1, h2, h3, _, h5⟩ := hM.obj b _ e hg he
        refine ⟨c, el, fz, h1, by omega, h2, ?_⟩
        subst h
        refine VRels.of_get ?_ ?_
        · simp; omega
        · intro i a v ha hv
          rw [List.getElem?_take, List.getElem?_drop] at ha hv
          split at ha
          · rw [if_pos (by assumption)] at hv
            obtain ⟨u, hu, hr⟩ := h5 (o + i) a ha
            rw [Array.getElem?_toList, Nat.add_assoc] at hv
            rw [hv] at hu
            cases hu
            exact hr
          · cases ha
      · cases h
    | map _ _ => simp at h
    | iter _ _ _ _ => simp at h
    | loop _ _ _ _ _ _ _ => simp at h
    | bag _ => simp at h
    | «at» _ _ _ => simp at h
theorem read_length {b o n : Nat} {l : List AV} (h : g.read b o n = some l) : l.length = n := by
  unfold Get.read at h
  split at h
  · split at h
    · cases h; simp; omega
    · cases h
  · cases h
theorem load_ok (hM : MRel φ g w) {t : TypeId} {a av : AV} {v : Value} (h : load P g t a = some av) (ha : VRel φ a v) : ∃ u, (Instr.loadAt t v).run P w = .ok u w ∧ VRel φ av u := by
  cases ha <;> simp only [load] at h <;> try cases h
  rename_i b e o he
  cases hagg : tagg P t with
  | none => rw [hagg] at h; simp at h
  | some ag =>
    cases hsz : tsize P t with
    | none => rw [hagg, hsz] at h; cases ag <;> simp at h
    | some n =>
      rw [hagg, hsz] at h
      cases ag
      · simp only [Option.bind_eq_some_iff] at h
        obtain ⟨l, hl, hh⟩ := h
        obtain ⟨c, el, fz, h1, h2, _, h3⟩ := read_rel hM hl he
        cases l with
        | nil => simp at hh
        | cons x xs =>
          simp only [List.head?_cons, Option.some.injEq] at hh
          subst hh
          have hlt : e.base + o < c.size := by omega
          have : (c.toList.drop (e.base + o)).take 1 = [c[e.base + o]] := by
            rw [List.drop_eq_getElem_cons (by simpa using hlt)]; simp
          rw [this] at h3
          cases h3 with
          | cons hx _ =>
            refine ⟨c[e.base + o], ?_, hx⟩
            simp only [Instr.loadAt, Instr.sureAddr, loadVar, Sem.run_bind, Sem.run_pure, Result.andThen_ok, run_agg hagg, Bool.false_eq_true, if_false, run_load, cell_at h1, Array.getElem?_eq_getElem hlt]
      · simp only [Option.map_eq_some_iff] at h
        obtain ⟨l, hl, rfl⟩ := h
        obtain ⟨c, el, fz, h1, h2, _, h3⟩ := read_rel hM hl he
        refine ⟨_, ?_, .agg h3⟩
        simp only [Instr.loadAt, Instr.sureAddr, loadVar, Sem.run_bind, Sem.run_pure, Result.andThen_ok, run_agg hagg, if_true, run_size hsz, run_loadCells h1 h2]
theorem scalar_one {a : AV} {v : Value} (h : VRel φ a v) (hs : a.scalar = true) : v.oneCell' = true := by
  cases h <;> first | rfl | simp [AV.scalar] at hs
theorem scalars_one : ∀ {as : List AV} {vs : List Value}, VRels φ as vs → as.all AV.scalar = true → vs.all (·.oneCell') = true
  | _, _, .nil, _ => rfl
  | _, _, .cons h t, hs => by
    simp only [List.all_cons, Bool.and_eq_true] at hs
    simp [scalar_one h hs.1, scalars_one t hs.2]
theorem splice_get (cs vs : List AV) (o i : Nat) (h : o + vs.length ≤ cs.length) : (splice cs o vs)[i]? = if o ≤ i ∧ i < o + vs.length then vs[i - o]? else cs[i]? := by
  unfold splice
  rw [List.append_assoc, List.getElem?_append]
  have hl : (cs.take o).length = o := by simp; omega
  rw [hl]
  split
  · rw [List.getElem?_take, if_pos (by assumption), if_neg (by omega)]
  · rw [List.getElem?_append]
    split
    · rw [if_pos (by omega)]
    · rw [if_neg (by omega), List.getElem?_drop]; congr 1; omega
theorem splice'_get (cs vs : List Value) (o i : Nat) (h : o + vs.length ≤ cs.length) : (splice' cs o vs)[i]? = if o ≤ i ∧ i < o + vs.length then vs[i - o]? else cs[i]? := by
  unfold splice'
  rw [List.append_assoc, List.getElem?_append]
  have hl : (cs.take o).length = o := by simp; omega
  rw [hl]
  split
  · rw [List.getElem?_take, if_pos (by assumption), if_neg (by omega)]
  · rw [List.getElem?_append]
    split
    · rw [if_pos (by omega)]
    · rw [if_neg (by omega), List.getElem?_drop]; congr 1; omega
theorem splice_length (cs vs : List AV) (o : Nat) (h : o + vs.length ≤ cs.length) : (splice cs o vs).length = cs.length := by simp [splice]; omega
theorem splice'_length (cs vs : List Value) (o : Nat) (h : o + vs.length ≤ cs.length) : (splice' cs o vs).length = cs.length := by simp [splice']; omega
theorem spliced_rel {cs vs : List AV} {c : Array Value} {us : List Value} {base o : Nat} (h5 : ∀ i a, cs[i]? = some a → ∃ v, c[base + i]? = some v ∧ VRel φ a v) (hv : VRels φ vs us)
    (h1 : o + vs.length ≤ cs.length) (h2 : base + cs.length ≤ c.size) : ∀ i a, (splice cs o vs)[i]? = some a → ∃ v, (splice' c.toList (base + o) us).toArray[base + i]? = some v ∧ VRel φ a v := by
  intro i a ha
  rw [splice_get cs vs o i h1] at ha
  have hl := hv.length
  have hb : base + o + us.length ≤ c.toList.length := by simp; omega
  simp only [List.getElem?_toArray]
  rw [splice'_get _ _ _ _ hb]
  split at ha
  · rename_i hi
    rw [if_pos (by omega)]
    obtain ⟨v, h3, h4⟩ := hv.get ha
    exact ⟨v, by rw [show base + i - (base + o) = i - o by omega]; exact h3, h4⟩
  · rename_i hi
    rw [if_neg (by omega)]
    simpa using h5 i a ha
theorem write_rel (hM : MRel φ g w) {b o : Nat} {vs : List AV} {eff : Eff} {e : Spot} {us : List Value} (h : g.write b o vs = some eff) (he : φ b = some e) (hv : VRels φ vs us) :
    ∃ w', (storeCells ⟨e.blk, e.base + o, none⟩ us).run P w = .ok () w' ∧ MRel φ (eff.get g nx) w' ∧ Moves φ φ g nx (eff.top nx) eff.hits w w' := by
  unfold Get.write Get.cellsOf at h
  cases hg : g b with
  | none => rw [hg] at h; simp at h
  | some x =>
    rw [hg] at h
    cases x with
    | cells cs =>
      simp only at h
      split at h
      · rename_i hn
        simp only [Bool.and_eq_true, decide_eq_true_eq] at hn
        cases h
        obtain ⟨c, el, fz, h1, h2, h3, h4, h5⟩ := hM.obj b _ e hg he
        have hl := hv.length
        obtain ⟨w', k1, k2, k3⟩ := run_storeCells (P := P) (o := e.base + o) us 0 w c h1 (by omega) (fun k hk1 hk2 => h4 k (by omega) (by omega)) (scalars_one hv hn.2)
        refine ⟨w', k1, put_rel hM hg he k2 k3 nx _ ?_⟩
        refine ⟨_, el, fz, rfl, ?_, ?_, h4, ?_⟩
        · simp only [List.size_toArray, Nat.add_zero]
          rw [splice'_length _ _ _ (by simp; omega)]; simpa using h2
        · rw [splice_length _ _ _ hn.1]; exact h3
        · exact spliced_rel h5 hv hn.1 (by omega)
      · cases h
    | map _ _ => simp at h
    | iter _ _ _ _ => simp at h
    | loop _ _ _ _ _ _ _ => simp at h
    | bag _ => simp at h
    | «at» _ _ _ => simp at h
theorem store_ok (hM : MRel φ g w) {t : TypeId} {a x : AV} {va vx : Value} {eff : Eff} (h : store P g t a x = some eff) (ha : VRel φ a va) (hx : VRel φ x vx) :
    UOk P φ g nx w (Instr.storeAt t va vx) eff := by
  cases ha <;> simp only [store] at h <;> try cases h
  rename_i b e o he
  cases hsz : tsize P t with
  | none => rw [hsz] at h; simp at h
  | some n =>
    rw [hsz] at h
    simp only at h
    split at h
    · rename_i hn
      have hc := hx.cells
      obtain ⟨w', h1, h2, h3⟩ := write_rel (P := P) (nx := nx) hM h he hc
      refine ⟨w', φ, ?_, h2, h3⟩
      have hl : vx.cells.size = n := by have := hc.length; simp at this; omega
      simp only [Instr.storeAt, Instr.sureAddr, storeVar, Sem.run_bind, Sem.run_pure, Result.andThen_ok, run_size hsz, hl, ne_eq, not_true_eq_false, if_false]
      exact h1
    · cases h
theorem cells_new (hM : MRel φ g w) (hf : φ nx = none) {cs : List AV} {us : List Value} (el : TypeId) (hv : VRels φ cs us) {w' : World} (hh : w'.heap = w.heap.push (.cells us.toArray el)) (hl : Like w w') :
    φ.Ext (upd φ nx (some ⟨w.heap.size, 0, us.length⟩)) ∧ MRel (upd φ nx (some ⟨w.heap.size, 0, us.length⟩)) ((Eff.new (.cells cs)).get g nx) w' ∧
      Moves φ (upd φ nx (some ⟨w.heap.size, 0, us.length⟩)) g nx (nx + 1) (Eff.new (.cells cs)).hits w w' := by
  have hx : φ.Ext (upd φ nx (some ⟨w.heap.size, 0, us.length⟩)) := by
    intro b e hb
    have : b ≠ nx := fun e => by subst e; rw [hf] at hb; cases hb
    rw [upd_ne _ _ this]; exact hb
  refine new_rel hM hf hh hl (fun _ => False) ⟨us.toArray, el, (0, 0), rfl, by simp, ?_, ?_, ?_⟩
  · have := hv.length; simp; omega
  · intro i _ _ h; omega
  · intro i a ha
    obtain ⟨v, h1, h2⟩ := hv.get ha
    exact ⟨v, by simpa using h1, h2.mono hx⟩
theorem boxed_ok (hM : MRel φ g w) {x av : AV} {v : Value} {eff : Eff} (hf : Free φ nx eff) (h : boxed nx x = some (av, eff)) (hx : VRel φ x v) (t : TypeId) :
    VOk P φ g nx w (do pure (.pointer (some (← newVar t v)))) av eff := by
  unfold boxed at h
  split at h
  · simp only [Option.some.injEq, Prod.mk.injEq] at h
    obtain ⟨rfl, rfl⟩ := h
    have hf := hf.new
    have hc := hx.cells
    obtain ⟨h1, h2, h3⟩ := cells_new hM hf t hc (w' := { w with heap := w.heap.push (.cells v.cells t) }) (by simp) ⟨rfl, rfl, rfl⟩
    refine ⟨.pointer (some ⟨w.heap.size, 0, none⟩), _, _, ?_, ?_, h2, h3⟩
    · simp [newVar, newRow]
    · exact .ptr (b := nx) (e := ⟨w.heap.size, 0, _⟩) 0 (upd_same _ _ _)
  · cases h
end
end Go.Am
end
section
namespace Go.Am
section
variable {P : Program} {φ : Emb} {g : Get} {nx : Nat} {w : World}
theorem run_places : ∀ (fs : List Field) (ps : List (Nat × Nat)), places P fs = some ps → ∀ w : World, (fs.mapM (m := Sem) fun f => do pure (f.offset, ← sizeOf f.type)).run P w = .ok ps w
  | [], ps, h, w => by simp [places] at h; subst h; simp
  | f :: fs, ps, h, w => by
    simp only [places] at h
    split at h
    · rename_i n ps' h1 h2
      simp at h; subst h
      simp only [List.mapM_cons, Sem.run_bind, run_size h1, Result.andThen_ok, Sem.run_pure]
      rw [run_places fs ps' h2 w]
      rfl
    · cases h
theorem zip_cells (off : Nat) : ∀ (us : List Value) (c : Array Value) (k : Nat), off + k + us.length ≤ c.size →
    ((us.zipIdx k).foldl (fun cs (x : Value × Nat) => cs.setIfInBounds (off + x.2) x.1) c).toList = splice' c.toList (off + k) us
  | [], c, k, _ => by simp [splice']
  | u :: us, c, k, h => by
    simp only [List.length_cons] at h
    simp only [List.zipIdx_cons, List.foldl_cons]
    rw [zip_cells off us _ (k + 1) (by simp; omega)]
    apply List.ext_getElem?
    intro i
    rw [splice'_get _ _ _ _ (by simp; omega), splice'_get _ _ _ _ (by simp; omega)]
    simp only [List.length_cons, Array.toList_setIfInBounds]
    by_cases h1 : off + k ≤ i ∧ i < off + k + (us.length + 1)
    · rw [if_pos h1]
      by_cases h2 : i = off + k
      · subst h2
        rw [if_neg (by omega)]
        simp [List.getElem?_set]
        omega
      · rw [if_pos (by omega), show i - (off + k) = (i - (off + (k + 1))) + 1 by omega]
        simp
    · rw [if_neg h1, if_neg (by omega), List.getElem?_set_ne (by omega)]
theorem splice_vrels {cs vs : List AV} {c us : List Value} (hc : VRels φ cs c) (hv : VRels φ vs us) (o : Nat) : VRels φ (splice cs o vs) (splice' c o us) := by
  unfold splice splice'
  rw [hv.length]
  exact ((hc.take o).append hv).append (hc.drop _)
inductive PRels (φ : Emb) : List (Nat × AV) → List (Nat × Value) → Prop
  | nil : PRels φ [] []
  | cons {i : Nat} {a : AV} {v : Value} {as : List (Nat × AV)} {vs : List (Nat × Value)} (h : VRel φ a v) (t : PRels φ as vs) : PRels φ ((i, a) :: as) ((i, v) :: vs)
theorem fill_rel (place : Nat → Option (Nat × Nat)) : ∀ {ps : List (Nat × AV)} {qs : List (Nat × Value)}, PRels φ ps qs → ∀ {cs out : List AV} {c : Array Value}, VRels φ cs c.toList → fillAt place cs ps = some out →
    ∃ d, Instr.fill place c qs = some d ∧ VRels φ out d.toList
  | _, _, .nil, cs, out, c, hc, h => by simp [fillAt] at h; subst h; exact ⟨c, rfl, hc⟩
  | _, _, .cons (i := i) (a := a) (v := v) ha t, cs, out, c, hc, h => by
    simp only [fillAt] at h
    cases hp : place i with
    | none => rw [hp] at h; simp at h
    | some os =>
      obtain ⟨off, size⟩ := os
      rw [hp] at h
      simp only at h
      split at h
      · cases h
      · rename_i hn
        simp only [Bool.or_eq_true, decide_eq_true_eq, not_or, Decidable.not_not, Nat.not_lt, ne_eq] at hn
        have hv := ha.cells
        have hl := hv.length
        have hlc := hc.length
        simp only [Array.length_toList] at hl hlc
        have hz := zip_cells off v.cells.toList c 0 (by simp; omega)
        obtain ⟨d, h1, h2⟩ := fill_rel place t (c := v.cells.zipIdx.foldl (fun cs (x : Value × Nat) => cs.setIfInBounds (off + x.2) x.1) c) (by
          have : (v.cells.zipIdx.foldl (fun cs (x : Value × Nat) => cs.setIfInBounds (off + x.2) x.1) c).toList = splice' c.toList off v.cells.toList := by
            rw [← Array.foldl_toList, Array.toList_zipIdx]; simpa using hz
          rw [this]
          exact splice_vrels hc hv off) h
        refine ⟨d, ?_, h2⟩
        simp only [Instr.fill, hp]
        rw [if_neg (by simp; omega)]
        exact h1
theorem build_ok {t : TypeId} {ps : List (Nat × AV)} {qs : List (Nat × Value)} {av : AV} (h : build P t ps = some av) (hp : PRels φ ps qs) :
    ∃ u, (Instr.build t qs.toArray).run P w = .ok u w ∧ VRel φ av u := by
  unfold build at h
  cases hz : tzero P t with
  | none => rw [hz] at h; simp at h
  | some z =>
    obtain ⟨zv, hz1, hz2⟩ := run_zero hz
    cases hu : P.underlying t with
    | none => rw [hz, hu] at h; simp at h
    | some d =>
      rw [hz, hu] at h
      cases d <;> simp only at h <;> try cases h
      · rename_i len e
        cases hs : tsize P e with
        | none => rw [hs] at h; simp at h
        | some n =>
          rw [hs] at h
          simp only [Option.map_eq_some_iff] at h
          obtain ⟨out, ho, rfl⟩ := h
          obtain ⟨d, h1, h2⟩ := fill_rel _ hp (hz2 φ).cells ho
          refine ⟨.agg d, ?_, by simpa using VRel.agg h2⟩
          simp only [Instr.build, Sem.run_bind, hz1, Result.andThen_ok, run_under hu, run_size hs, h1]
          rfl
      · rename_i fs
        cases hs : places P fs.toList with
        | none => rw [hs] at h; simp at h
        | some pl =>
          rw [hs] at h
          simp only [Option.map_eq_some_iff] at h
          obtain ⟨out, ho, rfl⟩ := h
          obtain ⟨d, h1, h2⟩ := fill_rel _ hp (hz2 φ).cells ho
          refine ⟨.agg d, ?_, by simpa using VRel.agg h2⟩
          have hm : (fs.mapM (m := Sem) fun f => do pure (f.offset, ← sizeOf f.type)).run P w = .ok pl.toArray w := by
            rw [Array.mapM_eq_mapM_toList, Sem.run_map, run_places _ _ hs, Result.andThen_ok]
          have h1' : Instr.fill (fun x => pl.toArray[x]?) zv.cells qs = some d := by simpa using h1
          simp only [Instr.build, Sem.run_bind, hz1, Result.andThen_ok, run_under hu, hm, h1']
          rfl
theorem rep_length (n : Nat) (z : List AV) : (rep n z).length = n * z.length := by
  induction n with
  | zero => simp [rep]
  | succ n ih => simp only [rep, List.replicate_succ, List.flatten_cons, List.length_append] at *; rw [ih, Nat.succ_mul]; omega
theorem rep_get (z : List AV) : ∀ (n i : Nat), i < n * z.length → (rep n z)[i]? = z[i % z.length]?
  | 0, i, h => by simp at h
  | n + 1, i, h => by
    have e : rep (n + 1) z = z ++ rep n z := by simp [rep, List.replicate_succ]
    rw [e, List.getElem?_append]
    split
    · rw [Nat.mod_eq_of_lt (by assumption)]
    · rename_i hn
      rw [rep_get z n (i - z.length) (by rw [Nat.add_mul, Nat.one_mul] at h; omega)]
      congr 1
      exact (Nat.mod_eq_sub_mod (by omega)).symm
theorem rep_rel {z : List AV} {zc : Array Value} (hz : VRels φ z zc.toList) (n m : Nat) (hm : n * z.length = m) : VRels φ (rep n z) ((Array.range m).map (zc[· % zc.size]!)).toList := by
  have hl := hz.length
  simp only [Array.length_toList] at hl
  refine VRels.of_get (by rw [rep_length]; simp; exact hm) ?_
  intro i a v ha hv
  have hi : i < n * z.length := by
    rcases Nat.lt_or_ge i (n * z.length) with h | h
    · exact h
    · rw [List.getElem?_eq_none (by rw [rep_length]; exact h)] at ha; cases ha
  rw [rep_get z n i hi] at ha
  obtain ⟨u, hu, hr⟩ := hz.get ha
  have hpos : 0 < z.length := by
    rcases Nat.eq_zero_or_pos z.length with h | h
    · rw [h] at hi; simp at hi
    · exact h
  have hlt : i % zc.size < zc.size := Nat.mod_lt _ (by omega)
  simp only [Array.toList_map, Array.toList_range, List.getElem?_map] at hv
  rw [List.getElem?_range (by omega)] at hv
  simp only [Option.map_some, Option.some.injEq] at hv
  rw [getElem!_pos zc _ hlt] at hv
  rw [Array.getElem?_toList, hl, Array.getElem?_eq_getElem hlt] at hu
  simp only [Option.some.injEq] at hu
  rw [← hv, hu]
  exact hr
theorem row_ok (hM : MRel φ g w) (hf : φ nx = none) {cs : List AV} {c : Array Value} (hv : VRels φ cs c.toList) (el : TypeId) (len cap es : Nat) (hl : len ≤ cap) (hes : 0 < es) (hc : cs.length = cap * es) :
    VOk P φ g nx w (do pure (.slice (some (← newRow el c)) len cap)) (.slice nx 0 len cap es) (.new (.cells cs)) := by
  obtain ⟨h1, h2, h3⟩ := cells_new hM hf el hv (w' := { w with heap := w.heap.push (.cells c el) }) (by simp) ⟨rfl, rfl, rfl⟩
  refine ⟨.slice (some ⟨w.heap.size, 0, none⟩) len cap, _, _, ?_, ?_, h2, h3⟩
  · simp [newRow]
  · have := hv.length
    exact .slice (b := nx) (e := ⟨w.heap.size, 0, _⟩) (upd_same _ _ _) hl (Nat.le_refl _) hes fun _ => ⟨rfl, by simp only; rw [Nat.zero_add, ← hc]; omega⟩
theorem buildSlice_ok (hM : MRel φ g w) {t : TypeId} {len : Nat} {ps : List (Nat × AV)} {qs : List (Nat × Value)} {av : AV} {eff : Eff} (hf : Free φ nx eff) (h : buildSlice P nx t len ps = some (av, eff)) (hp : PRels φ ps qs) :
    VOk P φ g nx w (Instr.buildSlice t len qs.toArray) av eff := by
  unfold buildSlice telem at h
  cases hu : P.underlying t with
  | none => rw [hu] at h; simp at h
  | some d =>
    rw [hu] at h
    cases d <;> simp only at h <;> try cases h
    rename_i e
    cases hs : tsize P e with
    | none => rw [hs] at h; simp at h
    | some n =>
      cases hz : tzero P e with
      | none => rw [hs, hz] at h; simp at h
      | some z =>
        rw [hs, hz] at h
        simp only at h
        split at h
        · cases h
        · rename_i hn
          simp only [Bool.or_eq_true, decide_eq_true_eq, not_or, Decidable.not_not, ne_eq] at hn
          unfold mostCells at hn
          obtain ⟨⟨hn0, hn1⟩, hn2⟩ := hn
          split at h
          · rename_i cs hfill
            split at h
            · simp only [Option.some.injEq, Prod.mk.injEq] at h
              obtain ⟨rfl, rfl⟩ := h
              have hf := hf.new
              obtain ⟨zv, hz1, hz2⟩ := run_zero hz
              have hzc := (hz2 φ).cells
              obtain ⟨c, k1, k2⟩ := fill_rel (fun i => some (i * n, n)) hp (rep_rel hzc len (len * n) (by rw [hn2])) hfill
              have hlen : cs.length = len * n := by
                have : ∀ {ps : List (Nat × AV)} {a b : List AV}, fillAt (fun i => some (i * n, n)) a ps = some b → b.length = a.length := by
                  intro ps
                  induction ps with
                  | nil => intro a b h; simp [fillAt] at h; rw [h]
                  | cons p ps ih =>
                    intro a b h
                    simp only [fillAt] at h
                    split at h
                    · cases h
                    · rename_i hc2
                      simp only [Bool.or_eq_true, decide_eq_true_eq, not_or, Decidable.not_not, Nat.not_lt, ne_eq] at hc2
                      rw [ih h, splice_length _ _ _ hc2.2]
                rw [this hfill, rep_length, hn2]
              have hrow := row_ok (P := P) hM hf k2 e len len n (Nat.le_refl _) (Nat.pos_of_ne_zero hn0) hlen
              obtain ⟨v, w', φ', r1, r2, r3, r4⟩ := hrow
              refine ⟨v, w', φ', ?_, r2, r3, r4⟩
              simp only [Instr.buildSlice, Sem.run_bind, run_under hu, Result.andThen_ok, run_size hs]
              rw [if_neg (by omega)]
              by_cases h0 : len * n = 0
              · simp only [h0, if_true, pure_bind]
                have e0 : ((Array.range 0).map fun x => (#[] : Array Value)[x % (#[] : Array Value).size]!) = ((Array.range (len * n)).map (zv.cells[· % zv.cells.size]!)) := by rw [h0]; simp
                rw [e0, k1]
                simpa using r1
              · simp only [h0, if_false, Sem.run_bind, hz1, Result.andThen_ok, Sem.run_pure, k1]
                simpa using r1
            · cases h
          · cases h
theorem wrap_small {n : Int} (h0 : 0 ≤ n) (h : n < 1000000000000) : IntKind.i64.wrap n = n := by
  have : IntKind.i64.bits = 64 := rfl
  unfold IntKind.wrap
  rw [this, Int.emod_eq_of_lt h0 (by omega)]
  rw [if_neg]
  simp
  omega
theorem makeSlice_ok (hM : MRel φ g w) {t : TypeId} {l c av : AV} {lv cv : Value} {eff : Eff} (hf : Free φ nx eff) (h : makeSlice P nx t l c = some (av, eff)) (hl : VRel φ l lv) (hc : VRel φ c cv) :
    VOk P φ g nx w (Instr.makeSlice t lv cv) av eff := by
  cases hl <;> simp only [makeSlice] at h <;> try cases h
  rename_i kl l
  cases hc <;> simp only at h <;> try cases h
  rename_i kc c
  unfold telem at h
  cases hu : P.underlying t with
  | none => rw [hu] at h; simp at h
  | some d =>
    rw [hu] at h
    cases d <;> simp only at h <;> try cases h
    rename_i e
    cases hs : tsize P e with
    | none => rw [hs] at h; simp at h
    | some n =>
      cases hz : tzero P e with
      | none => rw [hs, hz] at h; simp at h
      | some z =>
        cases hb : tbytes P e with
        | none => rw [hs, hz, hb] at h; simp at h
        | some bs =>
          rw [hs, hz, hb] at h
          simp only at h
          split at h
          · cases h
          · rename_i hn
            simp only [Bool.or_eq_true, decide_eq_true_eq, not_or, Decidable.not_not, ne_eq] at hn
            unfold mostCells at hn
            obtain ⟨⟨⟨⟨⟨hn0, hn1⟩, hn2⟩, hn3⟩, hn4⟩, hn5⟩ := hn
            split at h
            · simp only [Option.some.injEq, Prod.mk.injEq] at h
              obtain ⟨rfl, rfl⟩ := h
              have hf := hf.new
              obtain ⟨zv, hz1, hz2⟩ := run_zero hz
              have hc0 : 0 ≤ c := by omega
              have hcn : c.toNat * n ≤ 100000 := by
                have h5 : c * (n : Int) ≤ 100000 := by have := hn5; omega
                have e1 : (c.toNat : Int) = c := Int.toNat_of_nonneg hc0
                rw [← e1] at h5
                have h6 : ((c.toNat * n : Nat) : Int) ≤ 100000 := by rw [Int.natCast_mul]; exact h5
                omega
              have hct : c.toNat ≤ 100000 := Nat.le_trans (Nat.le_mul_of_pos_right _ (Nat.pos_of_ne_zero hn0)) hcn
              have hc1 : c ≤ 100000 := by omega
              have hzc := (hz2 φ).cells
              have hlen : (rep c.toNat z.cells).length = c.toNat * n := by rw [rep_length, hn1]
              have hrow := row_ok (P := P) hM hf (rep_rel hzc c.toNat (c.toNat * n) (by rw [hn1])) e l.toNat c.toNat n (by omega) (Nat.pos_of_ne_zero hn0) hlen
              obtain ⟨v, w', φ', r1, r2, r3, r4⟩ := hrow
              refine ⟨v, w', φ', ?_, r2, r3, r4⟩
              simp only [tbytes, Option.map_eq_some_iff] at hb
              obtain ⟨i, hi, rfl⟩ := hb
              have hbc : (i.bytes : Int) * c ≤ 1000000 * 100000 := Int.mul_le_mul (by omega) hc1 hc0 (by omega)
              simp only [Instr.makeSlice, Sem.run_bind, run_under hu, Result.andThen_ok, asInt, asIntOf, Sem.run_pure, run_info hi, wrap_small (show 0 ≤ l by omega) (by omega), wrap_small hc0 (by omega)]
              have hcond : (decide (c < 0) || decide ((i.bytes : Int) * c > 2 ^ 48) || decide (l < 0) || decide (l > c)) = false := by
                simp only [Bool.or_eq_false_iff, decide_eq_false_iff_not]
                omega
              rw [hcond]
              simp only [Bool.false_eq_true, if_false, Result.andThen_ok, run_askRoom, Sem.run_bind, run_size hs]
              by_cases h0 : c.toNat * n = 0
              · have e0 : ((Array.range 0).map fun x => (#[] : Array Value)[x % (#[] : Array Value).size]!) = ((Array.range (c.toNat * n)).map (zv.cells[· % zv.cells.size]!)) := by rw [h0]; simp
                simp only [h0, if_true, pure_bind]
                rw [e0]
                simpa using r1
              · simp only [h0, if_false, Sem.run_bind, hz1, Result.andThen_ok, Sem.run_pure]
                simpa using r1
            · cases h
end
end Go.Am
end
section
namespace Go.Am
section
variable {P : Program} {φ : Emb} {g : Get} {nx : Nat} {w : World}
inductive ORels (φ : Emb) : Option AV → Option Value → Prop
  | none : ORels φ none none
  | some {a : AV} {v : Value} (h : VRel φ a v) : ORels φ (some a) (some v)
theorem bound_run {x : AV} {v : Value} (hx : VRel φ x v) {y d k : Nat} (h : bound y (some x) d = some k) (y' : Nat) (hy : y ≤ y') (code : BoundsCode) (w : World) :
    (Instr.sliceBound v y' code).run P w = .ok k w ∧ k ≤ y := by
  cases hx <;> simp only [bound] at h <;> try cases h
  split at h
  · rename_i hc
    simp only [Option.some.injEq] at h
    subst h
    simp only [Bool.and_eq_true, decide_eq_true_eq] at hc
    refine ⟨?_, by omega⟩
    simp only [Instr.sliceBound, asIntOf, Sem.run_bind, Sem.run_pure, Result.andThen_ok]
    rw [if_pos (by omega)]
    rfl
  · cases h
theorem bounds_run {lo hi : Option AV} {lo' hi' : Option Value} (hlo : ORels φ lo lo') (hhi : ORels φ hi hi') {cap len h l : Nat} (h1 : bound cap hi len = some h) (h2 : bound h lo 0 = some l) (hlen : len ≤ cap)
    (isSlice : Bool) (cap' : Nat) (hc : cap ≤ cap') (w : World) :
    (Instr.sliceBounds isSlice len cap' lo' hi' none).run P w = .ok (l, h, cap') w ∧ l ≤ h ∧ h ≤ cap := by
  cases hhi with
  | none =>
    simp only [bound, Option.some.injEq] at h1
    subst h1
    cases hlo with
    | none =>
      simp only [bound, Option.some.injEq] at h2
      subst h2
      exact ⟨rfl, Nat.zero_le _, hlen⟩
    | some hv =>
      have := bound_run (P := P) hv h2 len (Nat.le_refl _) .sliceB w
      exact ⟨by simp [Instr.sliceBounds, this.1], this.2, hlen⟩
  | some hw =>
    have k := bound_run (P := P) hw h1 cap' hc (if isSlice then .sliceAcap else .sliceAlen) w
    cases hlo with
    | none =>
      simp only [bound, Option.some.injEq] at h2
      subst h2
      exact ⟨by simp [Instr.sliceBounds, k.1], Nat.zero_le _, k.2⟩
    | some hv =>
      have := bound_run (P := P) hv h2 h (Nat.le_refl _) .sliceB w
      exact ⟨by simp [Instr.sliceBounds, k.1, this.1], this.2, k.2⟩
theorem extract_list (s : List UInt8) (l h : Nat) : (⟨s.toArray⟩ : ByteArray).extract l h = ⟨((s.take h).drop l).toArray⟩ := by
  apply ByteArray.ext
  rw [ByteArray.data_extract]
  apply Array.ext'
  rw [Array.toList_extract]
  simp [List.drop_take]
theorem slice_ok (hM : MRel φ g w) {t : TypeId} {x av : AV} {v : Value} {lo hi : Option AV} {lo' hi' : Option Value} (h : sliceOp P t x lo hi = some av) (hx : VRel φ x v) (hlo : ORels φ lo lo') (hhi : ORels φ hi hi') :
    ∃ u, (Instr.sliceAt t v lo' hi' none).run P w = .ok u w ∧ VRel φ av u := by
  have _ := hM
  unfold sliceOp at h
  cases hu : P.underlying t with
  | none => rw [hu] at h; simp at h
  | some d =>
    rw [hu] at h
    cases hx <;> cases d <;> simp only at h <;> try cases h
    · rename_i s
      split at h
      · rename_i hh h1
        split at h
        · rename_i l h2
          simp only [Option.some.injEq] at h
          subst h
          obtain ⟨k1, k2, k3⟩ := bounds_run (P := P) hlo hhi h1 h2 (Nat.le_refl _) false s.length (Nat.le_refl _) w
          refine ⟨_, ?_, .str _⟩
          have hsz : (⟨s.toArray⟩ : ByteArray).size = s.length := by simp [ByteArray.size]
          simp only [Instr.sliceAt, Instr.slice, Sem.run_bind, run_under hu, Result.andThen_ok, Option.isSome_none, Bool.false_eq_true, if_false, hsz, k1, Sem.run_pure, extract_list]
        · cases h
      · cases h
    · rename_i e
      split at h
      · cases h
      · rename_i hs
        cases hs' : tsize P e with
        | none => rw [hs'] at hs; simp at hs
        | some n =>
          split at h
          · rename_i hh h1
            split at h
            · rename_i l h2
              simp only [Option.some.injEq] at h
              subst h
              obtain ⟨k1, k2, k3⟩ := bounds_run (P := P) hlo hhi h1 h2 (Nat.le_refl _) true 0 (Nat.le_refl _) w
              have hl0 : l = 0 := by omega
              have hh0 : hh = 0 := by omega
              subst hl0; subst hh0
              refine ⟨_, ?_, .nilslice⟩
              simp only [Instr.sliceAt, Instr.slice, Sem.run_bind, run_under hu, Result.andThen_ok, k1, run_size hs', Sem.run_pure, if_true, Nat.sub_self]
            · cases h
          · cases h
    · rename_i b e o len cap es o' cap' he hl hc hes hp el
      split at h
      · cases h
      · rename_i hs
        simp only [ne_eq, Decidable.not_not] at hs
        split at h
        · rename_i hh h1
          split at h
          · rename_i l h2
            simp only [Option.some.injEq] at h
            subst h
            obtain ⟨k1, k2, k3⟩ := bounds_run (P := P) hlo hhi h1 h2 hl true cap' hc w
            refine ⟨.slice (if cap' = l then some ⟨e.blk, o', none⟩ else some ⟨e.blk, o' + l * es, none⟩) (hh - l) (cap' - l), ?_, ?_⟩
            · simp only [Instr.sliceAt, Instr.slice, Sem.run_bind, run_under hu, Result.andThen_ok, k1, run_size hs, Sem.run_pure, Option.map_some, addr_add]
            · split
              · rename_i hcl
                exact .slice he (by omega) (by omega) hes fun hpos => by omega
              · rename_i hcl
                refine .slice he (by omega) (by omega) hes fun _ => ?_
                obtain ⟨p1, p2⟩ := hp (by omega)
                have : l * es + (cap' - l) * es = cap' * es := by rw [← Nat.add_mul]; congr 1; omega
                omega
          · cases h
        · cases h
theorem fieldAddr_ok {t : TypeId} {x av : AV} {v : Value} {f : Nat} (h : fieldAddr P t x f = some av) (hx : VRel φ x v) : ∃ u, (Instr.fieldAt t v f).run P w = .ok u w ∧ VRel φ av u := by
  unfold fieldAddr at h
  cases hu : P.underlying t with
  | none => rw [hu] at h; simp at h
  | some d =>
    rw [hu] at h
    cases hx <;> cases d <;> simp only at h <;> try cases h
    rename_i b e o he fs
    split at h
    · rename_i fl hf
      split at h
      · rename_i n hs
        simp only [Option.some.injEq] at h
        subst h
        refine ⟨.pointer (some ⟨e.blk, e.base + o + fl.offset, none⟩), ?_, by rw [Nat.add_assoc]; exact .ptr _ he⟩
        simp only [Instr.fieldAt, Sem.run_bind, run_under hu, Result.andThen_ok, hf, Instr.sureAddr, Sem.run_pure, fieldPlace, run_size hs, addr_add]
        simp
      · cases h
    · cases h
theorem indexAddr_ok {t : TypeId} {x i av : AV} {v vi : Value} (h : indexAddr P t x i = some av) (hx : VRel φ x v) (hi : VRel φ i vi) : ∃ u, (Instr.indexAt t v vi).run P w = .ok u w ∧ VRel φ av u := by
  cases hx <;> simp only [indexAddr] at h <;> try cases h
  rename_i b e o len cap es o' cap' he hl hc hes hp
  cases hi <;> simp only at h <;> try cases h
  rename_i k i
  unfold telem at h
  cases hu : P.underlying t with
  | none => rw [hu] at h; simp at h
  | some d =>
    rw [hu] at h
    cases d <;> simp only at h <;> try cases h
    rename_i el
    split at h
    · rename_i hcond
      simp only [Bool.and_eq_true, decide_eq_true_eq] at hcond
      obtain ⟨⟨hs, h0⟩, hlt⟩ := hcond
      simp only [Option.some.injEq] at h
      subst h
      refine ⟨.pointer (some ⟨e.blk, e.base + (o + i.toNat * es), none⟩), ?_, .ptr _ he⟩
      obtain ⟨p1, p2⟩ := hp (by omega)
      subst p1
      simp only [Instr.indexAt, asIntOf, Sem.run_bind, Sem.run_pure, Result.andThen_ok, run_under hu]
      rw [if_pos ⟨h0, hlt⟩]
      simp only [Sem.run_bind, run_size hs, Result.andThen_ok, Sem.run_pure, addr_add, Nat.add_assoc]
    · cases h
theorem part_ok {t : TypeId} {cs : List AV} {c : Array Value} {off : Nat} {av : AV} (h : partOf P t cs off = some av) (hc : VRels φ cs c.toList) (w : World) : ∃ u, (part t c off).run P w = .ok u w ∧ VRel φ av u := by
  unfold partOf at h
  cases hagg : tagg P t with
  | none => rw [hagg] at h; simp at h
  | some ag =>
    cases hsz : tsize P t with
    | none => rw [hagg, hsz] at h; cases ag <;> simp at h
    | some n =>
      rw [hagg, hsz] at h
      cases ag
      · simp only at h
        obtain ⟨v, h1, h2⟩ := hc.get h
        refine ⟨v, ?_, h2⟩
        rw [Array.getElem?_toList] at h1
        simp only [part, Sem.run_bind, run_agg hagg, Result.andThen_ok, Bool.false_eq_true, if_false, h1, Sem.run_pure]
      · simp only at h
        split at h
        · simp only [Option.some.injEq] at h
          subst h
          refine ⟨.agg (c.extract off (off + n)), ?_, ?_⟩
          · simp only [part, Sem.run_bind, run_agg hagg, Result.andThen_ok, if_true, run_size hsz, Sem.run_pure]
          · have := VRel.agg ((hc.drop off).take n)
            have e1 : c.extract off (off + n) = ((c.toList.drop off).take n).toArray := by
              apply Array.ext'
              rw [Array.toList_extract]
              simp
            rw [e1]; exact this
        · cases h
theorem field_ok {t : TypeId} {x av : AV} {v : Value} {f : Nat} (h : field P t x f = some av) (hx : VRel φ x v) : ∃ u, (Instr.field t v f).run P w = .ok u w ∧ VRel φ av u := by
  unfold field at h
  cases hu : P.underlying t with
  | none => rw [hu] at h; simp at h
  | some d =>
    rw [hu] at h
    cases hx <;> cases d <;> simp only at h <;> try cases h
    rename_i cs cs' hcs fs
    split at h
    · rename_i fl hf
      obtain ⟨u, h1, h2⟩ := part_ok (P := P) h (c := cs'.toArray) (by simpa using hcs) w
      refine ⟨u, ?_, h2⟩
      simp only [Instr.field, Sem.run_bind, run_under hu, Result.andThen_ok, hf, asAgg, Sem.run_pure, h1]
    · cases h
theorem byte_at (s : List UInt8) (i : Nat) : (⟨s.toArray⟩ : ByteArray)[i]? = s[i]? := by
  show (if h : i < (⟨s.toArray⟩ : ByteArray).size then some ((⟨s.toArray⟩ : ByteArray)[i]) else none) = _
  by_cases h : i < s.length
  · rw [dif_pos (by simpa [ByteArray.size] using h), List.getElem?_eq_getElem h]
    rfl
  · rw [dif_neg (by simpa [ByteArray.size] using h), List.getElem?_eq_none (by omega)]
theorem index_ok {t : TypeId} {x i av : AV} {v vi : Value} (h : index P t x i = some av) (hx : VRel φ x v) (hi : VRel φ i vi) : ∃ u, (Instr.index t v vi).run P w = .ok u w ∧ VRel φ av u := by
  cases hx <;> simp only [index] at h <;> try cases h
  · rename_i s
    cases hi <;> simp only at h <;> try cases h
    rename_i k i
    cases hu : P.underlying t with
    | none => rw [hu] at h; simp at h
    | some d =>
      rw [hu] at h
      cases d <;> simp only at h <;> try cases h
      split at h
      · rename_i h0
        simp only [Option.map_eq_some_iff] at h
        obtain ⟨b, hb, rfl⟩ := h
        refine ⟨.int .u8 b.toNat, ?_, .int _ _⟩
        simp only [Instr.index, asIntOf, Sem.run_bind, Sem.run_pure, Result.andThen_ok, run_under hu, h0, if_true, byte_at, hb]
      · cases h
  · rename_i cs cs' hcs
    cases hi <;> simp only at h <;> try cases h
    rename_i k i
    cases hu : P.underlying t with
    | none => rw [hu] at h; simp at h
    | some d =>
      rw [hu] at h
      cases d <;> simp only at h <;> try cases h
      rename_i len e
      split at h
      · rename_i n hs
        split at h
        · rename_i hc
          simp only [Bool.and_eq_true, decide_eq_true_eq] at hc
          obtain ⟨u, h1, h2⟩ := part_ok (P := P) h (c := cs'.toArray) (by simpa using hcs) w
          refine ⟨u, ?_, h2⟩
          simp only [Instr.index, asIntOf, Sem.run_bind, Sem.run_pure, Result.andThen_ok, run_under hu]
          rw [if_pos hc]
          simp only [Sem.run_bind, run_size hs, Result.andThen_ok, h1]
        · cases h
      · cases h
end
end Go.Am
end
section
namespace Go.Am
def OkTypes (P : Program) (ok : TypeId → Bool) : Prop := ∀ t, ok t = true → P.eqGuardType P.depth t = false ∧ P.stoodInHeld t = false
section
variable {P : Program} {φ : Emb} {g : Get} {nx : Nat} {w : World} {ok : TypeId → Bool}
theorem bytes_beq (a b : List UInt8) : ((⟨a.toArray⟩ : ByteArray) == ⟨b.toArray⟩) = (a == b) := by
  rw [beq_toListBytes, ByteArray.toList_eq, ByteArray.toList_eq]
theorem bytes_list (a : List UInt8) : (⟨a.toArray⟩ : ByteArray).toList = a := by rw [ByteArray.toList_eq]
theorem eq_ok (hok : OkTypes P ok) (w : World) : ∀ d : Nat,
    (∀ (t : TypeId) (x y : AV) (b : Bool) (D : Nat) (vx vy : Value), d ≤ D → eqIn P ok d t x y = some b → VRel φ x vx → VRel φ y vy → (Op.equalIn D t vx vy).run P w = .ok b w) ∧
    (∀ (fs : List Field) (xs ys : List AV) (b : Bool) (D : Nat) (cx cy : Array Value), d ≤ D → eqFields P ok d fs xs ys = some b → VRels φ xs cx.toList → VRels φ ys cy.toList → (Op.eqFields D cx cy fs).run P w = .ok b w) := by
  intro d
  induction d with
  | zero => exact ⟨fun t x y b D vx vy _ h => by simp [eqIn] at h, fun fs xs ys b D cx cy _ h => by simp [eqFields] at h⟩
  | succ d ih =>
    refine ⟨?_, ?_⟩
    · intro t x y b D vx vy hD h hx hy
      obtain ⟨D, rfl⟩ : ∃ k, D = k + 1 := ⟨D - 1, by omega⟩
      simp only [eqIn] at h
      split at h
      all_goals first
        | (cases h; done)
        | (rename_i hu; cases hx; cases hy; cases h; simp [Op.equalIn, run_under hu]; done)
        | (rename_i hu; cases hx; cases hy; cases h; simp [Op.equalIn, run_under hu, bytes_beq]; done)
        | skip
      · rename_i j a k b' hu
        cases hx; cases hy
        split at h
        · rename_i hk
          cases h
          subst hk
          simp [Op.equalIn, run_under hu]
        · cases h
      · rename_i fs xs ys hu
        cases hx with
        | agg hcx =>
          cases hy with
          | agg hcy =>
            split at h
            · rename_i hot
              have hf : P.fieldsOf t = fs := by simp [Program.fieldsOf, hu]
              rw [run_equalIn_struct w D t _ _ (by rw [hf]; exact hu) (hok t hot).2, hf]
              exact ih.2 _ _ _ _ D _ _ (by omega) h (by simpa using hcx) (by simpa using hcy)
            · cases h
    · intro fs xs ys b D cx cy hD h hx hy
      cases fs with
      | nil => simp [eqFields] at h; subst h; simp [Op.eqFields]
      | cons f fs =>
        simp only [eqFields] at h
        split at h
        · cases h
        · rename_i hn
          split at h
          · rename_i a b' h1 h2
            obtain ⟨u, k1, k2⟩ := part_ok (P := P) h1 hx w
            obtain ⟨u', k3, k4⟩ := part_ok (P := P) h2 hy w
            simp only [Op.eqFields, ne_eq, hn, not_false_eq_true, if_true, Sem.run_bind, k1, k3, Result.andThen_ok]
            split at h
            · rename_i he
              rw [ih.1 _ _ _ _ D _ _ (by omega) he k2 k4]
              simp only [Result.andThen_ok, Bool.not_true, Bool.false_eq_true, if_false]
              exact ih.2 _ _ _ _ D _ _ (by omega) h hx hy
            · rename_i he
              cases h
              rw [ih.1 _ _ _ _ D _ _ (by omega) he k2 k4]
              simp
            · cases h
          · cases h
theorem guard_int (op : BinOp) (t : TypeId) (ox oy : Operand) (j k : IntKind) (a b : Int) : (eqGuard op t ox oy (.int j a) (.int k b)).run P w = .ok () w := by cases op <;> rfl
theorem guard_str (op : BinOp) (t : TypeId) (ox oy : Operand) (a b : ByteArray) : (eqGuard op t ox oy (.string a) (.string b)).run P w = .ok () w := by cases op <;> rfl
theorem shift_ok {op : BinOp} (ho : op = .shl ∨ op = .shr) {k j : IntKind} {a b n : Int} (h : arith op k a b = some n) {t : TypeId} {ox oy : Operand} :
    ∃ u, (do eqGuard op t ox oy (.int k a) (.int j b); Go.binOp op t (.int k a) (.int j b) : Sem Value).run P w = .ok u w ∧ VRel φ (.int k n) u := by
  refine ⟨_, ?_, .int k n⟩
  simp only [Sem.run_bind, guard_int, Result.andThen_ok]
  rcases ho with rfl | rfl <;> simp only [arith] at h <;> split at h <;> try (cases h; done)
  · rename_i hb
    simp only [Option.some.injEq] at h
    subst h
    simp only [Go.binOp, Op.shift, hb, if_false, Sem.run_pure]
  · rename_i hb
    simp only [Option.some.injEq] at h
    subst h
    simp only [Go.binOp, Op.shift, hb, if_false, Sem.run_pure]
theorem int_ok {op : BinOp} {j : IntKind} {a b : Int} {av : AV}
    (h : (match op with
      | .add | .sub | .mul | .quo | .rem => (arith op j a b).map (AV.int j)
      | .and | .or | .xor | .andNot => (bits op j a b).map (AV.int j)
      | op => (cmpInt op a b).map AV.bool) = some av) (h1 : op = .shl → False) (h2 : op = .shr → False) {t : TypeId} {ox oy : Operand} :
    ∃ u, (do eqGuard op t ox oy (.int j a) (.int j b); Go.binOp op t (.int j a) (.int j b) : Sem Value).run P w = .ok u w ∧ VRel φ av u := by
  simp only [Sem.run_bind, guard_int, Result.andThen_ok]
  cases op <;> simp only [Option.map_eq_some_iff] at h <;> try (exact absurd rfl h1; done)
  all_goals first
    | (exact (h1 rfl).elim)
    | (exact (h2 rfl).elim)
    | (obtain ⟨n, hn, rfl⟩ := h; simp only [arith, Option.some.injEq] at hn; subst hn; exact ⟨_, by simp only [Go.binOp, ne_eq, not_true_eq_false, if_false, Op.intArith, Sem.run_pure], .int _ _⟩)
    | (obtain ⟨n, hn, rfl⟩ := h; simp only [cmpInt, Option.some.injEq] at hn; subst hn; exact ⟨_, by simp only [Go.binOp, ne_eq, not_true_eq_false, if_false, Op.intCmp, Sem.run_pure], .bool _⟩)
    | (obtain ⟨n, hn, rfl⟩ := h; simp only [bits, Option.some.injEq] at hn; subst hn; exact ⟨_, by simp only [Go.binOp, ne_eq, not_true_eq_false, if_false, Op.intBits, Sem.run_pure], .int _ _⟩)
    | (obtain ⟨n, hn, rfl⟩ := h; simp only [arith] at hn; split at hn; · cases hn
       · rename_i hb; simp only [Option.some.injEq] at hn; subst hn; exact ⟨_, by simp only [Go.binOp, ne_eq, not_true_eq_false, if_false, Op.intDiv, hb, Sem.run_pure], .int _ _⟩)
theorem bytes_append (x y : List UInt8) : (⟨x.toArray⟩ : ByteArray) ++ ⟨y.toArray⟩ = ⟨(x ++ y).toArray⟩ := by
  apply ByteArray.ext
  rw [ByteArray.data_append]
  simp
theorem str_ok {op : BinOp} {a b : List UInt8} {av : AV} (h : cmpStr op a b = some av) {t : TypeId} {ox oy : Operand} :
    ∃ u, (do eqGuard op t ox oy (.string ⟨a.toArray⟩) (.string ⟨b.toArray⟩); Go.binOp op t (.string ⟨a.toArray⟩) (.string ⟨b.toArray⟩) : Sem Value).run P w = .ok u w ∧ VRel φ av u := by
  simp only [Sem.run_bind, guard_str, Result.andThen_ok]
  cases op <;> simp only [cmpStr] at h
  all_goals first
    | (cases h; done)
    | (simp only [Option.some.injEq] at h; subst h; exact ⟨_, by simp only [Go.binOp, Op.stringOp, bytes_list, Sem.run_pure], .bool _⟩)
    | (split at h
       · rename_i hl
         simp only [Option.some.injEq] at h
         subst h
         refine ⟨_, ?_, .str _⟩
         have hs : ∀ l : List UInt8, (⟨l.toArray⟩ : ByteArray).size = l.length := fun l => by simp [ByteArray.size]
         simp only [Go.binOp, Op.stringOp, hs]
         rw [if_neg (by have : IntKind.i64.max = 9223372036854775807 := by decide
                        omega)]
         rw [bytes_append]
         rfl
       · cases h)
theorem eqIn_any {t : TypeId} {x y : AV} {b : Bool} : ∀ {n : Nat}, eqIn P ok n t x y = some b → x ≠ .any ∧ y ≠ .any := by
  intro n h
  cases n with
  | zero => simp [eqIn] at h
  | succ n =>
    constructor
    · intro hx
      subst hx
      simp only [eqIn] at h
      cases P.underlying t with
      | none => simp at h
      | some d => cases d <;> simp at h
    · intro hy
      subst hy
      simp only [eqIn] at h
      cases P.underlying t with
      | none => simp at h
      | some d => cases d <;> cases x <;> simp at h
theorem eql_run {t : TypeId} {x y : AV} {vx vy : Value} {b : Bool} (hx : VRel φ x vx) (hy : VRel φ y vy) (h0 : x ≠ .any ∧ y ≠ .any) (h1 : ∀ j a k b, x = .int j a → y = .int k b → False) (h2 : ∀ a b, x = .str a → y = .str b → False)
    (h : (Op.equal t vx vy).run P w = .ok b w) : (Go.binOp .eql t vx vy).run P w = .ok (.bool b) w := by
  have e : Go.binOp .eql t vx vy = (do pure (.bool (← Op.equal t vx vy))) := by
    cases hx <;> cases hy <;> first | rfl | (exact absurd rfl h0.1) | (exact absurd rfl h0.2) | (exact (h1 _ _ _ _ rfl rfl).elim) | (exact (h2 _ _ rfl rfl).elim)
  rw [e]
  simp [h]
theorem neq_run {t : TypeId} {x y : AV} {vx vy : Value} {b : Bool} (hx : VRel φ x vx) (hy : VRel φ y vy) (h0 : x ≠ .any ∧ y ≠ .any) (h1 : ∀ j a k b, x = .int j a → y = .int k b → False) (h2 : ∀ a b, x = .str a → y = .str b → False)
    (h : (Op.equal t vx vy).run P w = .ok b w) : (Go.binOp .neq t vx vy).run P w = .ok (.bool !b) w := by
  have e : Go.binOp .neq t vx vy = (do pure (.bool (!(← Op.equal t vx vy)))) := by
    cases hx <;> cases hy <;> first | rfl | (exact absurd rfl h0.1) | (exact absurd rfl h0.2) | (exact (h1 _ _ _ _ rfl rfl).elim) | (exact (h2 _ _ rfl rfl).elim)
  rw [e]
  simp [h]
def guardFree (x y : Operand) (a b : AV) : Prop := a.isNilIface = true → b.isNilIface = true → isConst x = true ∨ isConst y = true
theorem binOp_ok (hok : OkTypes P ok) {op : BinOp} {t : TypeId} {x y av : AV} {vx vy : Value} {ox oy : Operand} (h : binOp P ok op t x y = some av) (hg : guardFree ox oy x y) (hx : VRel φ x vx) (hy : VRel φ y vy) :
    ∃ u, (do eqGuard op t ox oy vx vy; Go.binOp op t vx vy : Sem Value).run P w = .ok u w ∧ VRel φ av u := by
  have hE : ∀ b, eqIn P ok eqFuel t x y = some b → (Op.equal t vx vy).run P w = .ok b w := fun b hb => (eq_ok (φ := φ) hok w eqFuel).1 t x y b Op.maxDepth vx vy (by unfold eqFuel Op.maxDepth; omega) hb hx hy
  have key : ∀ b, eqIn P ok eqFuel t x y = some b → (eqGuard .eql t ox oy vx vy).run P w = .ok () w ∧ (eqGuard .neq t ox oy vx vy).run P w = .ok () w := by
    intro b hb
    have h0 := eqIn_any hb
    unfold eqFuel at hb
    cases hx <;> cases hy <;> first | (exact absurd rfl h0.1) | (exact absurd rfl h0.2) | (constructor <;> rfl) | skip
    · rcases hg rfl rfl with hc | hc
      · cases ox <;> simp [isConst] at hc
        constructor <;> rfl
      · cases oy <;> simp [isConst] at hc
        constructor <;> cases ox <;> rfl
    · simp only [eqIn] at hb
      cases hu : P.underlying t with
      | none => rw [hu] at hb; simp at hb
      | some d =>
        rw [hu] at hb
        cases d <;> simp only at hb <;> try cases hb
        split at hb
        · rename_i ho
          exact ⟨run_eqGuard_agg w .eql t ox oy _ _ (hok t ho).1, run_eqGuard_agg w .neq t ox oy _ _ (hok t ho).1⟩
        · cases hb
  unfold binOp at h
  split at h
  · cases hx; cases hy
    simp only [Option.map_eq_some_iff] at h
    obtain ⟨n, hn, rfl⟩ := h
    exact shift_ok (Or.inl rfl) hn
  · cases hx; cases hy
    simp only [Option.map_eq_some_iff] at h
    obtain ⟨n, hn, rfl⟩ := h
    exact shift_ok (Or.inr rfl) hn
  · rename_i j a k b h1 h2
    cases hx; cases hy
    split at h
    · cases h
    · rename_i hjk
      simp only [ne_eq, Decidable.not_not] at hjk
      subst hjk
      exact int_ok h h1 h2
  · cases hx; cases hy
    exact str_ok h
  · simp only [Option.map_eq_some_iff] at h
    obtain ⟨b, hb, rfl⟩ := h
    rename_i h1 h2
    refine ⟨.bool b, ?_, .bool b⟩
    simp only [Sem.run_bind, (key b hb).1, Result.andThen_ok]
    exact eql_run hx hy (eqIn_any hb) h1 h2 (hE b hb)
  · simp only [Option.map_eq_some_iff] at h
    obtain ⟨b, hb, rfl⟩ := h
    rename_i h1 h2
    refine ⟨.bool !b, ?_, .bool _⟩
    simp only [Sem.run_bind, (key b hb).2, Result.andThen_ok]
    exact neq_run hx hy (eqIn_any hb) h1 h2 (hE b hb)
  · cases h
end
end Go.Am
end
section
namespace Go.Am
section
variable {P : Program} {φ : Emb} {g : Get} {nx : Nat} {w : World}
theorem unOp_ok {op : UnOp} {x av : AV} {v : Value} (h : unOp op x = some av) (hx : VRel φ x v) : ∃ u, (Op.unary op v).run P w = .ok u w ∧ VRel φ av u := by
  cases hx <;> cases op <;> simp only [unOp] at h <;> try cases h
  · exact ⟨_, rfl, .bool _⟩
  · exact ⟨_, rfl, .int _ _⟩
theorem bytesOf_rel : ∀ {cs : List AV} {vs : List Value} {l : List UInt8}, bytesOf cs = some l → VRels φ cs vs → ∀ (s : ByteArray) (w : World),
    (forIn (m := Sem) vs s fun c s => (match c with
      | .int .u8 n => pure (ForInStep.yield (s.push (UInt8.ofNat n.toNat)))
      | _ => do stuck "bytesToString: byte expected"; pure (ForInStep.yield s))).run P w = .ok ⟨s.data ++ l.toArray⟩ w
  | [], _, l, h, hv, s, w => by
    cases hv
    simp only [bytesOf, Option.some.injEq] at h
    subst h
    simp
  | a :: cs, _, l, h, hv, s, w => by
    cases hv with
    | cons ha ht =>
      cases ha <;> first | (simp only [bytesOf] at h; cases h; done) | skip
      rename_i k n
      cases k <;> simp only [bytesOf] at h <;> try cases h
      simp only [Option.map_eq_some_iff] at h
      obtain ⟨l', hl, rfl⟩ := h
      have ih := bytesOf_rel hl ht (s.push (UInt8.ofNat n.toNat)) w
      simp only [List.forIn_cons, Sem.run_bind, Sem.run_pure, Result.andThen_ok]
      rw [ih]
      congr 2
      cases s
      simp [ByteArray.push]
theorem slice_read (hM : MRel φ g w) {b o len cap es n : Nat} {e : Spot} {o' cap' : Nat} (he : φ b = some e) (hl : n ≤ len) (hlc : len ≤ cap) (hc : cap ≤ cap') (hp : 0 < cap' → o' = e.base + o ∧ o' + cap' * es ≤ e.size)
    {l : List AV} (h : g.read b o (n * es) = some l) : ∃ u : Array Value, (∀ w', w'.heap = w.heap → (loadCells ⟨e.blk, o', none⟩ (n * es)).run P w' = .ok u w') ∧ VRels φ l u.toList := by
  obtain ⟨c, el, fz, h1, h2, _, h3⟩ := read_rel hM h he
  rcases Nat.eq_zero_or_pos cap' with h0 | h0
  · have hn : n = 0 := by omega
    subst hn
    have := read_length h
    simp only [Nat.zero_mul] at this
    cases l with
    | nil => exact ⟨#[], fun _ _ => by simp [loadCells, loadCellsFrom], .nil⟩
    | cons => simp at this
  · obtain ⟨rfl, _⟩ := hp h0
    exact ⟨_, fun w' hw => run_loadCells (hw ▸ h1) h2, by simpa using h3⟩
theorem convert_ok (hM : MRel φ g w) {src dst : TypeId} {x av : AV} {v : Value} {eff : Eff} (hf : Free φ nx eff) (h : convert P g nx src dst x = some (av, eff)) (hx : VRel φ x v) :
    VOk P φ g nx w (Go.convert src dst v) av eff := by
  unfold convert at h
  split at h
  · rename_i d k j n h1 h2
    cases hx
    simp only [Option.some.injEq, Prod.mk.injEq] at h
    obtain ⟨rfl, rfl⟩ := h
    exact .keep hM (v := .int k (k.wrap n)) (by simp only [Go.convert, Sem.run_bind, run_under h1, run_under h2, Result.andThen_ok]; rfl) (.int _ _)
  · rename_i d s h1 h2
    cases hx
    simp only [Option.some.injEq, Prod.mk.injEq] at h
    obtain ⟨rfl, rfl⟩ := h
    exact .keep hM (by simp only [Go.convert, Sem.run_bind, run_under h1, run_under h2, Result.andThen_ok]; rfl) (.str _)
  · rename_i d el s h1 h2
    cases hx
    split at h
    · rename_i h3
      simp only [Option.some.injEq, Prod.mk.injEq] at h
      obtain ⟨rfl, rfl⟩ := h
      have hf := hf.new
      have hs : (⟨s.toArray⟩ : ByteArray).size = s.length := by simp [ByteArray.size]
      let cap := s.length + w.tape w.drawn (.appendCap s.length 0 el) % (2 ^ 63 - s.length)
      let c : Array Value := (s.toArray.map fun b => Value.int .u8 b.toNat) ++ Array.replicate (cap - s.length) (.int .u8 0)
      have hcs : c.size = cap := by simp [c]; omega
      let w' : World := { w with heap := w.heap.push (.cells c el (cap, cap + 1)), drawn := w.drawn + 1 }
      have hx' : φ.Ext (upd φ nx (some ⟨w.heap.size, 0, cap⟩)) := by
        intro b e hb
        have : b ≠ nx := fun e => by subst e; rw [hf] at hb; cases hb
        rw [upd_ne _ _ this]; exact hb
      obtain ⟨k1, k2, k3⟩ := new_rel (w' := w') hM hf (o := .cells (s.map fun b => .int .u8 b.toNat)) (x := .cells c el (cap, cap + 1)) (base := 0) (size := cap) rfl ⟨rfl, rfl, rfl⟩ (fun _ => False) (by
        refine ⟨c, el, (cap, cap + 1), rfl, hcs, by simp; omega, fun i _ h _ => by simp only at h; omega, ?_⟩
        intro i a ha
        simp only [List.getElem?_map, Option.map_eq_some_iff] at ha
        obtain ⟨b, hb, rfl⟩ := ha
        refine ⟨.int .u8 b.toNat, ?_, .int _ _⟩
        have hi : i < s.length := by
          rcases Nat.lt_or_ge i s.length with h | h
          · exact h
          · rw [List.getElem?_eq_none h] at hb; cases hb
        simp only [c, Nat.zero_add]
        rw [Array.getElem?_append_left (by simpa using hi)]
        simp [hb])
      refine ⟨.slice (some ⟨w.heap.size, 0, none⟩) s.length cap, w', _, ?_, ?_, k2, k3⟩
      · simp only [Go.convert, Sem.run_bind, run_under h1, run_under h2, Result.andThen_ok, run_under h3, Conv.stringToBytes, hs, run_choose]
        have hq : (Question.appendCap s.length 0 el).forced = false := rfl
        simp only [hq, Bool.false_eq_true, if_false, Question.cut, Result.andThen_ok, newRow, Sem.run_bind, run_newObj, Sem.run_pure, markStringish, run_shape]
        have hsh : ∀ (x : World) (cc : Array Value), x.heap = w.heap.push (.cells cc el) → x.shape? w.heap.size = some (el, cc.size) := by
          intro x cc hx; simp [World.shape?, hx]
        rw [hsh _ c rfl]
        simp only [Result.andThen_ok, hcs, run_freeze]
        congr 1
        simp only [World.freeze, w', Nat.one_ne_zero, if_false]
        congr 1
        apply Array.ext_getElem?
        intro i
        simp only [Array.getElem?_modify, Array.getElem?_push]
        split
        · rename_i hi; subst hi; simp [c, cap]
        · rename_i hi; rw [if_neg (fun h => hi h.symm), if_neg (fun h => hi h.symm)]
      · exact .slice (b := nx) (e := ⟨w.heap.size, 0, cap⟩) (upd_same _ _ _) (Nat.le_refl _) (Nat.le_add_right _ _) (by omega) fun _ => ⟨rfl, by simp⟩
    · cases h
  · rename_i el b o len cap h1 h2
    split at h
    · rename_i h3
      split at h
      · rename_i cs hcs
        simp only [Option.map_eq_some_iff] at h
        obtain ⟨l, hl, h⟩ := h
        simp only [Prod.mk.injEq] at h
        obtain ⟨rfl, rfl⟩ := h
        cases hx with
        | slice he hlen hc hes hp =>
          rename_i e o' cap'
          obtain ⟨u, k1, k2⟩ := slice_read (P := P) (n := len) (es := 1) hM he (Nat.le_refl _) hlen hc hp (by simpa using hcs)
          have k1 := k1 w rfl
          simp only [Nat.mul_one] at k1
          refine .keep hM (v := .string ⟨l.toArray⟩) ?_ (.str l)
          simp only [Go.convert, Sem.run_bind, run_under h1, run_under h2, Result.andThen_ok, run_under h3, Conv.bytesToString, k1]
          rw [← Array.forIn_toList]
          have h9 := congrArg (fun r => Result.andThen r fun a w' => Sem.run P (Pure.pure (Value.string a) : Sem Value) w') (bytesOf_rel (P := P) hl k2 .empty w)
          exact h9.trans (by simp)
      · cases h
    · cases h
  · cases h
end
end Go.Am
end
section
namespace Go.Am
section
variable {P : Program} {φ : Emb} {g : Get} {nx : Nat} {w : World}
theorem run_getMap {r : Nat} {ms : Array MapEntry} {clock : Nat} (h : w.heap[r]? = some (.map ms clock)) : (getObj r).run P w = .ok (.map ms clock) w := by simp [getObj, Sem.run, h]
theorem run_setMap {r : Nat} {ms : Array MapEntry} {clock : Nat} (h : w.heap[r]? = some (.map ms clock)) (o : Obj) : (setObj r o).run P w = .ok () (World.turn w r o) := by simp [setObj, Sem.run, h, World.turn]
theorem run_getIter {r : Nat} {m : Option Nat} {s : Nat} {seen : Array Nat} {st : Nat} (h : w.heap[r]? = some (.mapIter m s seen st)) : (getObj r).run P w = .ok (.mapIter m s seen st) w := by simp [getObj, Sem.run, h]
theorem run_setIter {r : Nat} {m : Option Nat} {s : Nat} {seen : Array Nat} {st : Nat} (h : w.heap[r]? = some (.mapIter m s seen st)) (o : Obj) : (setObj r o).run P w = .ok () (World.turn w r o) := by simp [setObj, Sem.run, h, World.turn]
theorem sameKey_rel {d : TypeDesc} {a b : AV} {x y : Value} {r : Bool} (h : sameKey d a b = some r) (ha : VRel φ a x) (hb : VRel φ b y) : Instr.sameNow d x y = some r := by
  cases ha <;> cases hb <;> simp only [sameKey] at h <;> try cases h
  · cases d <;> simp only at h <;> try cases h
    rfl
  · cases d <;> simp only at h <;> try cases h
    exact h
  · cases d <;> simp only at h <;> try cases h
    simp [Instr.sameNow, bytes_beq]
theorem sameKey_true {d : TypeDesc} {a b : AV} {x y : Value} (h : sameKey d a b = some true) (ha : VRel φ a x) (hb : VRel φ b y) : x = y := by
  cases ha <;> cases hb <;> simp only [sameKey] at h <;> try cases h
  · cases d <;> simp only at h <;> try cases h
    rename_i h; simp at h; rw [h]
  · cases d <;> simp only at h <;> try cases h
    split at h
    · rename_i hk; simp at h; rw [hk, h]
    · cases h
  · cases d <;> simp only at h <;> try cases h
    rename_i h; simp at h; rw [h]
theorem findKey_rel {d : TypeDesc} {k : AV} {kv : Value} (hk : VRel φ k kv) : ∀ {es : List (AV × AV × Nat)} {ms : List MapEntry}, ERels φ es ms → ∀ {i : Nat} {r : Option (Nat × AV)}, findKey d k es i = some r →
    (match r with
     | none => Instr.findNow d kv ms i = some none
     | some (j, v) => ∃ u m, Instr.findNow d kv ms i = some (some (j, u)) ∧ VRel φ v u ∧ i ≤ j ∧ ms[j - i]? = some m ∧ m.key = kv)
  | _, _, .nil, i, r, h => by simp only [findKey, Option.some.injEq] at h; subst h; rfl
  | _, _, .cons (e := e) (m := m) (es := es) (ms := ms) he ht, i, r, h => by
    obtain ⟨k', v, s⟩ := e
    obtain ⟨h1, h2, _⟩ := he
    simp only [findKey] at h
    split at h
    · rename_i hs
      simp only [Option.some.injEq] at h
      subst h
      have := sameKey_rel hs hk h1
      exact ⟨m.val, m, by simp only [Instr.findNow, this], h2, Nat.le_refl _, by simp, (sameKey_true hs hk h1).symm⟩
    · rename_i hs
      have hn := sameKey_rel hs hk h1
      have ih := findKey_rel hk ht h
      cases r with
      | none => simp only [Instr.findNow, hn]; exact ih
      | some jv =>
        obtain ⟨j, v'⟩ := jv
        obtain ⟨u, m', k1, k2, k3, k4, k5⟩ := ih
        refine ⟨u, m', by simp only [Instr.findNow, hn]; exact k1, k2, by omega, ?_, k5⟩
        rw [show j - i = (j - (i + 1)) + 1 by omega]
        simpa using k4
    · cases h
theorem run_findKey {kt : TypeId} {d : TypeDesc} (hd : P.underlying kt = some d) {k : Value} {es : List MapEntry} {r : Option (Nat × Value)} (h : Instr.findNow d k es 0 = some r) :
    (Instr.findKey kt k es).run P w = .ok r w := by
  simp only [Instr.findKey, Sem.run_bind, run_under hd, Result.andThen_ok, h]
  rfl
theorem run_checkKey {kt : TypeId} {d : TypeDesc} (hd : P.underlying kt = some d) {k : AV} {kv : Value} (hk : keyOk d k = true) (hv : VRel φ k kv) (b : Bool) : (Instr.checkKey b 10000 kt kv).run P w = .ok () w := by
  show (Instr.checkKey b (9999 + 1) kt kv).run P w = _
  generalize 9999 = n
  simp only [Instr.checkKey, Sem.run_bind, run_under hd, Result.andThen_ok]
  cases hv <;> cases d <;> simp only [keyOk] at hk <;> first | rfl | cases hk
theorem findKey_apart {d : TypeDesc} {k : AV} : ∀ {l : List (AV × AV × Nat)} {i j : Nat} {v : AV}, findKey d k l i = some (some (j, v)) → ∃ e ∈ l, sameKey d k e.1 = some true ∧ e.2.1 = v
  | [], i, j, v, h => by simp [findKey] at h
  | (k', u, s) :: l, i, j, v, h => by
    simp only [findKey] at h
    split at h
    · rename_i hs
      simp only [Option.some.injEq, Prod.mk.injEq] at h
      exact ⟨(k', u, s), by simp, hs, h.2⟩
    · obtain ⟨e, he, h1, h2⟩ := findKey_apart h
      exact ⟨e, by simp [he], h1, h2⟩
    · cases h
theorem findKey_none {d : TypeDesc} {k : AV} : ∀ {l : List (AV × AV × Nat)} {i : Nat}, findKey d k l i = some none → ∀ e ∈ l, sameKey d k e.1 = some false
  | [], i, h, e, he => by simp at he
  | (k', u, s) :: l, i, h, e, he => by
    simp only [findKey] at h
    split at h
    · cases h
    · rename_i hs
      rcases List.mem_cons.1 he with rfl | he
      · exact hs
      · exact findKey_none h e he
    · cases h
theorem findKey_all {d : TypeDesc} {k : AV} : ∀ {l : List (AV × AV × Nat)} (i : Nat), (∀ e ∈ l, sameKey d k e.1 = some false) → findKey d k l i = some none
  | [], i, _ => rfl
  | (k', u, s) :: l, i, h => by
    simp only [findKey, h (k', u, s) (by simp)]
    exact findKey_all (i + 1) fun e he => h e (by simp [he])
theorem findKey_one {d : TypeDesc} {k v : AV} : ∀ {l : List (AV × AV × Nat)} (i : Nat), (∃ e ∈ l, sameKey d k e.1 = some true ∧ e.2.1 = v) → (∀ e ∈ l, sameKey d k e.1 = some false ∨ (sameKey d k e.1 = some true ∧ e.2.1 = v)) →
    ∃ j, findKey d k l i = some (some (j, v))
  | [], i, h, _ => by obtain ⟨e, he, _⟩ := h; simp at he
  | (k', u, s) :: l, i, h, hall => by
    rcases hall (k', u, s) (by simp) with h0 | ⟨h0, h1⟩
    · simp only [findKey, h0]
      refine findKey_one (i + 1) ?_ fun e he => hall e (by simp [he])
      obtain ⟨e, he, h2, h3⟩ := h
      rcases List.mem_cons.1 he with rfl | he
      · rw [h0] at h2; cases h2
      · exact ⟨e, he, h2, h3⟩
    · simp only [findKey, h0]
      exact ⟨i, by simp only at h1; rw [h1]⟩
theorem keyNe_comm {a b : AV} (h : keyNe a b = true) : keyNe b a = true := by
  cases a <;> cases b <;> simp only [keyNe] at h ⊢ <;> first | (cases h; done) | skip
  · simp only [Bool.not_eq_true', beq_eq_false_iff_ne] at h ⊢; exact fun e => h e.symm
  · simp only [Bool.and_eq_true, decide_eq_true_eq, Bool.not_eq_true', decide_eq_false_iff_not] at h ⊢
    exact ⟨h.1.symm, fun e => h.2 e.symm⟩
  · simp only [Bool.not_eq_true', beq_eq_false_iff_ne] at h ⊢; exact fun e => h e.symm
theorem sameKey_ne {d : TypeDesc} {k a b : AV} (h : sameKey d k a = some true) (hn : keyNe a b = true) : sameKey d k b = some false := by
  cases k <;> cases a <;> simp only [sameKey] at h <;> try (cases h; done)
  all_goals cases b <;> simp only [keyNe] at hn <;> try (cases hn; done)
  all_goals simp only [sameKey]
  · cases d <;> simp only at h ⊢ <;> try (cases h; done)
    simp at h hn ⊢; rw [h]; exact hn
  · cases d <;> simp only at h ⊢ <;> try (cases h; done)
    split at h
    · rename_i hk
      simp at h hn
      rw [if_pos (hk.trans hn.1)]
      simp; rw [h]; exact hn.2
    · cases h
  · cases d <;> simp only at h ⊢ <;> try (cases h; done)
    simp at h hn ⊢; rw [h]; exact hn
theorem apart_all {d : TypeDesc} {k v : AV} : ∀ {es : List (AV × AV)}, keysApart es = true → ∀ e ∈ es, sameKey d k e.1 = some true → e.2 = v → ∀ x ∈ es, sameKey d k x.1 = some false ∨ (sameKey d k x.1 = some true ∧ x.2 = v)
  | [], _, e, he, _, _, _, _ => by simp at he
  | p :: es, h, e, he, hs, hv, x, hx => by
    simp only [keysApart, Bool.and_eq_true, apartFrom, List.all_eq_true] at h
    rcases List.mem_cons.1 he with he' | he'
    · subst he'
      rcases List.mem_cons.1 hx with hx' | hx'
      · subst hx'; exact .inr ⟨hs, hv⟩
      · exact .inl (sameKey_ne hs (h.1 x hx'))
    · rcases List.mem_cons.1 hx with hx' | hx'
      · subst hx'; exact .inl (sameKey_ne hs (keyNe_comm (h.1 e he')))
      · exact apart_all h.2 e he' hs hv x hx'
def pairsOf (es : List (AV × AV × Nat)) : List (AV × AV) := es.map fun e => (e.1, e.2.1)
def Alike (es' es : List (AV × AV × Nat)) : Prop := es' = es ∨ ((pairsOf es').Perm (pairsOf es) ∧ keysApart (pairsOf es) = true)
theorem findKey_alike {d : TypeDesc} {k : AV} {es es' : List (AV × AV × Nat)} (ha : Alike es' es) {r : Option (Nat × AV)} (h : findKey d k es 0 = some r) : ∃ r', findKey d k es' 0 = some r' ∧ r'.map (·.2) = r.map (·.2) := by
  rcases ha with rfl | ⟨hp, hk⟩
  · exact ⟨r, h, rfl⟩
  · have mem : ∀ e, e ∈ es' → ∃ s, (e.1, e.2.1, s) ∈ es := fun e he => by
      have : (e.1, e.2.1) ∈ pairsOf es := hp.mem_iff.1 (List.mem_map.2 ⟨e, he, rfl⟩)
      obtain ⟨⟨a, b, s⟩, h1, h2⟩ := List.mem_map.1 this
      simp only [Prod.mk.injEq] at h2
      obtain ⟨rfl, rfl⟩ := h2
      exact ⟨s, h1⟩
    cases r with
    | none => exact ⟨none, findKey_all 0 fun e he => by obtain ⟨s, hs⟩ := mem e he; exact findKey_none h (e.1, e.2.1, s) hs, rfl⟩
    | some jv =>
      obtain ⟨j, v⟩ := jv
      obtain ⟨e, he, h1, h2⟩ := findKey_apart h
      have hin : (e.1, e.2.1) ∈ pairsOf es := List.mem_map.2 ⟨e, he, rfl⟩
      obtain ⟨e', he', h3⟩ := List.mem_map.1 (hp.mem_iff.2 hin)
      simp only [Prod.mk.injEq] at h3
      obtain ⟨j', hj'⟩ := findKey_one (d := d) (k := k) (v := v) (l := es') 0 ⟨e', he', by rw [h3.1]; exact h1, by rw [h3.2]; exact h2⟩ fun x hx => by
        have hx' : (x.1, x.2.1) ∈ pairsOf es := hp.mem_iff.1 (List.mem_map.2 ⟨x, hx, rfl⟩)
        exact apart_all hk _ hin h1 h2 _ hx'
      exact ⟨some (j', v), hj', rfl⟩
theorem entries_rel (hM : MRel φ g w) {m : AV} {mv : Value} {es : List (AV × AV × Nat)} (h : entries g m = some es) (hm : VRel φ m mv) :
    ∃ (es' : List (AV × AV × Nat)) (ms : Array MapEntry), Alike es' es ∧ ERels φ es' ms.toList ∧ (mv = .map none ∧ ms = #[] ∨ ∃ r clock, mv = .map (some r) ∧ w.heap[r]? = some (.map ms clock)) := by
  cases hm <;> simp only [entries] at h <;> try cases h
  · exact ⟨[], #[], .inl rfl, .nil, .inl ⟨rfl, rfl⟩⟩
  · rename_i b e he
    cases hg : g b with
    | none => rw [hg] at h; cases h
    | some o =>
      rw [hg] at h
      cases o <;> simp only at h <;> try cases h
      · obtain ⟨ms, h1, h2⟩ := hM.obj b _ e hg he
        exact ⟨_, ms, .inl rfl, h2, .inr ⟨e.blk, _, rfl, h1⟩⟩
      · rename_i bs
        obtain ⟨ms, clock, es', h1, h2, h3, h4⟩ := hM.obj b _ e hg he
        have hb : pairsOf (bs.map fun e => (e.1, e.2, 0)) = bs := by simp [pairsOf, List.map_map, Function.comp_def]
        exact ⟨es', ms, .inr ⟨by rw [hb]; exact h3, by rw [hb]; exact h4⟩, h2, .inr ⟨e.blk, clock, rfl, h1⟩⟩
theorem lookup_ok (hM : MRel φ g w) {t : TypeId} {m k av : AV} {mv kv : Value} {c : Bool} (h : lookup P g t m k c = some av) (hm : VRel φ m mv) (hk : VRel φ k kv) :
    ∃ u, (Instr.lookup t mv kv c).run P w = .ok u w ∧ VRel φ av u := by
  unfold lookup at h
  split at h
  · rename_i kt et es h1 h2
    cases hd : P.underlying kt with
    | none => rw [hd] at h; simp at h
    | some d =>
      rw [hd] at h
      simp only at h
      split at h
      · cases h
      · rename_i hkey
        have hkey : keyOk d k = true := by simpa using hkey
        obtain ⟨es', ms, hal, hes, hmv⟩ := entries_rel hM h2 hm
        split at h
        · rename_i j0 v0 hf0
          obtain ⟨r', hf, hr'⟩ := findKey_alike hal hf0
          obtain ⟨j, v, rfl⟩ : ∃ j v, r' = some (j, v) := by
            cases r' with
            | none => simp at hr'
            | some jv => exact ⟨jv.1, jv.2, rfl⟩
          simp only [Option.map_some, Option.some.injEq] at hr'
          subst hr'
          obtain ⟨u, m', k1, k2, _⟩ := findKey_rel hk hes hf
          simp only [Option.some.injEq] at h
          refine ⟨if c then .tuple #[u, .bool true] else u, ?_, ?_⟩
          · simp only [Instr.lookup, Sem.run_bind, run_under h1, Result.andThen_ok]
            rcases hmv with ⟨rfl, rfl⟩ | ⟨r, clock, rfl, hr⟩
            · simp only [Sem.run_bind, Sem.run_pure, run_checkKey hd hkey hk, Result.andThen_ok, run_findKey hd k1]
            · simp only [Sem.run_bind, run_getMap hr, Result.andThen_ok, Sem.run_pure, run_checkKey hd hkey hk, run_findKey hd k1]
          · subst h
            cases c
            · exact k2
            · exact .tuple (.cons k2 (.cons (.bool true) .nil))
        · rename_i z hf0 hz
          obtain ⟨r', hf, hr'⟩ := findKey_alike hal hf0
          obtain rfl : r' = none := by
            cases r' with
            | none => rfl
            | some jv => simp at hr'
          have k1 := findKey_rel hk hes hf
          obtain ⟨zv, hz1, hz2⟩ := run_zero hz
          simp only [Option.some.injEq] at h
          refine ⟨if c then .tuple #[zv, .bool false] else zv, ?_, ?_⟩
          · simp only [Instr.lookup, Sem.run_bind, run_under h1, Result.andThen_ok]
            rcases hmv with ⟨rfl, rfl⟩ | ⟨r, clock, rfl, hr⟩
            · simp only [Sem.run_bind, Sem.run_pure, run_checkKey hd hkey hk, Result.andThen_ok, run_findKey hd k1, hz1]
            · simp only [Sem.run_bind, run_getMap hr, Result.andThen_ok, Sem.run_pure, run_checkKey hd hkey hk, run_findKey hd k1, hz1]
          · subst h
            cases c
            · exact hz2 φ
            · exact .tuple (.cons (hz2 φ) (.cons (.bool false) .nil))
        · cases h
  · cases h
theorem setAt_rel {k v : AV} {kv vv : Value} (hk : VRel φ k kv) (hv : VRel φ v vv) : ∀ {es : List (AV × AV × Nat)} {ms : List MapEntry}, ERels φ es ms → ∀ i : Nat,
    ERels φ (setAt i k v es) (ms.modify i fun e => { e with key := kv, val := vv })
  | _, _, .nil, i => by simp [setAt]; exact .nil
  | _, _, .cons (e := e) he ht, 0 => by
    obtain ⟨k', v', s⟩ := e
    simp only [setAt, List.modify_zero_cons]
    exact .cons ⟨hk, hv, he.2.2⟩ ht
  | _, _, .cons (e := e) he ht, i + 1 => by
    simp only [setAt, List.modify_succ_cons]
    exact .cons he (setAt_rel hk hv ht i)
theorem ERels.append {es' : List (AV × AV × Nat)} {ms' : List MapEntry} : ∀ {es : List (AV × AV × Nat)} {ms : List MapEntry}, ERels φ es ms → ERels φ es' ms' → ERels φ (es ++ es') (ms ++ ms')
  | _, _, .nil, k => k
  | _, _, .cons h t, k => .cons h (ERels.append t k)
theorem sameBits_refl {d : TypeDesc} {k : AV} {kv : Value} (hk : keyOk d k = true) (hv : VRel φ k kv) : Instr.sameBits 10000 kv kv = true := by
  cases hv <;> cases d <;> simp only [keyOk] at hk <;> first | (cases hk; done) | simp [Instr.sameBits, bytes_beq]
theorem mapUpdate_ok (hM : MRel φ g w) {t : TypeId} {m k v : AV} {mv kv vv : Value} {eff : Eff} (h : mapUpdate P g t m k v = some eff) (hm : VRel φ m mv) (hk : VRel φ k kv) (hv : VRel φ v vv) :
    UOk P φ g nx w (Instr.mapUpdate t mv kv vv) eff := by
  unfold mapUpdate at h
  split at h
  · rename_i kt et r h1
    cases hm with
    | map he =>
      rename_i e
      split at h
      · rename_i d es clock hd hg
        split at h
        · cases h
        · rename_i hkey
          have hkey : keyOk d k = true := by simpa using hkey
          obtain ⟨ms, ho1, ho2⟩ := hM.obj r _ e hg he
          have main : ∀ (es' : List (AV × AV × Nat)) (ms' : Array MapEntry) (clock' : Nat), ERels φ es' ms'.toList → (Instr.mapUpdate t (.map (some e.blk)) kv vv).run P w = .ok () (World.turn w e.blk (.map ms' clock')) → UOk P φ g nx w (Instr.mapUpdate t (.map (some e.blk)) kv vv) (.put r (.map es' clock')) := by
            intro es' ms' clock' hr hrun
            obtain ⟨k1, k2⟩ := put_rel (w' := World.turn w e.blk (.map ms' clock')) (o' := .map es' clock') hM hg he rfl (turn_like _ _ _) nx nx ⟨ms', rfl, hr⟩
            exact ⟨_, φ, hrun, k1, k2⟩
          split at h
          · rename_i i v' hf
            obtain ⟨u, m', k1, k2, _, k4, k5⟩ := findKey_rel hk ho2 hf
            simp only [Option.some.injEq] at h
            subst h
            have hmod := setAt_rel hk hv ho2 i
            refine main _ (ms.modify i fun e => { e with key := kv, val := vv }) clock (by rw [Array.toList_modify]; exact hmod) ?_
            have hold : ((ms[i]?).map (·.key)).getD kv = kv := by
              have : ms[i]? = some m' := by simpa using k4
              rw [this]; simpa using k5
            simp only [Instr.mapUpdate, Sem.run_bind, run_under h1, Result.andThen_ok, run_getMap ho1, run_checkKey hd hkey hk, run_findKey hd k1, Instr.keyThatStays, hold, sameBits_refl hkey hk, if_true, Sem.run_pure, run_setMap ho1]
          · rename_i hf
            have k1 := findKey_rel hk ho2 hf
            simp only [Option.some.injEq] at h
            subst h
            refine main _ (ms.push { key := kv, val := vv, born := clock }) (clock + 1) (by rw [Array.toList_push]; exact ERels.append ho2 (.cons ⟨hk, hv, rfl⟩ .nil)) ?_
            simp only [Instr.mapUpdate, Sem.run_bind, run_under h1, Result.andThen_ok, run_getMap ho1, run_checkKey hd hkey hk, run_findKey hd k1, run_setMap ho1]
          · cases h
      · cases h
  · cases h
end
end Go.Am
end
section
namespace Go.Am
section
variable {P : Program} {φ : Emb} {g : Get} {nx : Nat} {w : World}
theorem range_ok (hM : MRel φ g w) {t : TypeId} {m av : AV} {mv : Value} {eff : Eff} (hf : Free φ nx eff) (h : rangeOp P g nx t m = some (av, eff)) (hm : VRel φ m mv) : VOk P φ g nx w (Instr.range t mv) av eff := by
  unfold rangeOp at h
  split at h
  · rename_i kt et h1
    cases hm
    simp only [Option.some.injEq, Prod.mk.injEq] at h
    obtain ⟨rfl, rfl⟩ := h
    have hf := hf.new
    obtain ⟨k1, k2, k3⟩ := new_rel (w' := { w with heap := w.heap.push (.mapIter none 0 #[] 0) }) hM hf (o := .iter none 0 [] 0) (x := .mapIter none 0 #[] 0) (base := 0) (size := 0) rfl ⟨rfl, rfl, rfl⟩ (fun _ => False) ⟨rfl, none, rfl, rfl⟩
    refine ⟨.pointer (some ⟨w.heap.size, 0, none⟩), _, _, ?_, ?_, k2, k3⟩
    · simp [Instr.range, run_under h1]
    · exact .ptr (b := nx) (e := ⟨w.heap.size, 0, 0⟩) 0 (upd_same _ _ _)
  · rename_i kt et r h1
    cases hm with
    | map he =>
      rename_i e
      split at h
      · rename_i es clock hg
        simp only [Option.some.injEq, Prod.mk.injEq] at h
        obtain ⟨rfl, rfl⟩ := h
        have hf := hf.new
        have hx' : φ.Ext (upd φ nx (some ⟨w.heap.size, 0, 0⟩)) := by
          intro b e hb
          have : b ≠ nx := fun e => by subst e; rw [hf] at hb; cases hb
          rw [upd_ne _ _ this]; exact hb
        obtain ⟨ms, ho1, ho2⟩ := hM.obj r _ e hg he
        obtain ⟨k1, k2, k3⟩ := new_rel (w' := { w with heap := w.heap.push (.mapIter (some e.blk) clock #[] clock) }) hM hf (o := .iter (some r) clock [] clock) (x := .mapIter (some e.blk) clock #[] clock) (base := 0) (size := 0) rfl ⟨rfl, rfl, rfl⟩ (fun _ => False)
          ⟨rfl, some e.blk, rfl, e, hx' _ _ he, rfl⟩
        refine ⟨.pointer (some ⟨w.heap.size, 0, none⟩), _, _, ?_, ?_, k2, k3⟩
        · simp [Instr.range, run_under h1, run_getMap ho1]
        · exact .ptr (b := nx) (e := ⟨w.heap.size, 0, 0⟩) 0 (upd_same _ _ _)
      · cases h
  · cases h
theorem filter_rel {q : Nat → Bool} : ∀ {es : List (AV × AV × Nat)} {ms : List MapEntry}, ERels φ es ms → ERels φ (es.filter fun e => q e.2.2) (ms.filter fun m => q m.born)
  | _, _, .nil => .nil
  | _, _, .cons he ht => by
    have hb := he.2.2
    simp only [List.filter_cons, ← hb]
    split
    · exact .cons he (filter_rel ht)
    · exact filter_rel ht
theorem born_lt : ∀ {es : List (AV × AV × Nat)} {ms : List MapEntry} {s : Nat}, ERels φ es ms → es.all (fun e => e.2.2 < s) = true → ∀ m ∈ ms, m.born < s
  | _, _, _, .nil, _, m, hm => by cases hm
  | _, _, _, .cons he ht, h, m, hm => by
    simp only [List.all_cons, Bool.and_eq_true, decide_eq_true_eq] at h
    cases hm with
    | head => rw [← he.2.2]; exact h.1
    | tail _ hm => exact born_lt ht h.2 m hm
theorem next_ok (hM : MRel φ g w) {it av : AV} {iv : Value} {s : Bool} {eff : Eff} (h : nextOp g it s = some (av, eff)) (hi : VRel φ it iv) (ty : TypeId) : VOk P φ g nx w (Instr.next iv s ty) av eff := by
  unfold nextOp at h
  split at h
  · rename_i r
    cases hi with
    | ptr _ he =>
      rename_i e
      split at h
      · rename_i since seen last hg
        simp only [Option.some.injEq, Prod.mk.injEq] at h
        obtain ⟨rfl, rfl⟩ := h
        obtain ⟨h0, m', ho1, ho2⟩ := hM.obj r _ e hg he
        subst ho2
        rw [h0]
        exact .keep hM (v := .tuple #[.bool false]) (by simp only [Instr.next, Sem.run_bind, run_getIter ho1, Result.andThen_ok]; rfl) (.tuple (.cons (.bool false) .nil))
      · rename_i m since seen last hg
        split at h
        · rename_i es clock hgm
          split at h
          · cases h
          · rename_i hcond
            simp only [Bool.or_eq_true, bne_iff_ne, ne_eq, not_or, Decidable.not_not, Bool.not_eq_true', Bool.not_eq_false] at hcond
            obtain ⟨⟨hc1, hc2⟩, hall⟩ := hcond
            subst hc1
            subst hc2
            obtain ⟨h0, m', ho1, e', he', ho2⟩ := hM.obj r _ e hg he
            subst ho2
            obtain ⟨ms, hm1, hm2⟩ := hM.obj m _ e' hgm he'
            have hlt := born_lt hm2 hall
            rw [h0]
            have hfil := filter_rel (q := fun n => !seen.contains n) hm2
            have hold : (ms.filter fun e => !seen.toArray.contains e.born).filter (fun e => decide (e.born < last)) = ms.filter fun e => !seen.toArray.contains e.born := by
              apply Array.filter_eq_self.2
              intro x hx
              have : x ∈ ms := (Array.mem_filter.1 hx).1
              simpa using hlt x (by simpa using this)
            have hnew : (ms.filter fun e => !seen.toArray.contains e.born).filter (fun e => decide (e.born ≥ last)) = #[] := by
              rw [Array.filter_eq_empty_iff]
              intro x hx
              have : x ∈ ms := (Array.mem_filter.1 hx).1
              have := hlt x (by simpa using this)
              simp; omega
            have hbad : (!seen.toArray.isEmpty && !ms.isEmpty && ms.all fun e => decide (e.born ≥ last)) = false := by
              cases hms : ms.toList with
              | nil =>
                have : ms = #[] := by apply Array.ext'; simpa using hms
                subst this; simp
              | cons x xs =>
                have hx : x ∈ ms.toList := by rw [hms]; simp
                have := hlt x hx
                have : (ms.all fun e => decide (e.born ≥ last)) = false := by
                  rw [Array.all_eq_false]
                  have hx' : x ∈ ms := by simpa using hx
                  obtain ⟨i, hi, hxi⟩ := Array.mem_iff_getElem.1 hx'
                  exact ⟨i, hi, by rw [hxi]; simp; omega⟩
                simp [this]
            have hlist : (ms.filter fun e => !seen.toArray.contains e.born).toList = ms.toList.filter fun e => !seen.contains e.born := by simp
            split at h
            · rename_i hnil
              simp only [Option.some.injEq, Prod.mk.injEq] at h
              obtain ⟨rfl, rfl⟩ := h
              rw [hnil] at hfil
              have hemp : (ms.filter fun e => !seen.toArray.contains e.born) = #[] := by
                apply Array.ext'
                rw [hlist]
                generalize (ms.toList.filter fun e => !seen.contains e.born) = l at hfil
                cases hfil; rfl
              refine .keep hM (v := .tuple #[.bool false]) ?_ (.tuple (.cons (.bool false) .nil))
              simp only [Instr.next, Sem.run_bind, run_getIter ho1, Result.andThen_ok, run_getMap hm1, hbad, Bool.false_eq_true, if_false, hemp]
              simp [run_choose, Question.forced]
            · rename_i x hone
              simp only [Option.some.injEq, Prod.mk.injEq] at h
              obtain ⟨rfl, rfl⟩ := h
              rw [hone] at hfil
              have hex : ∃ y, (ms.filter fun e => !seen.toArray.contains e.born) = #[y] ∧ ERel φ x y := by
                have hl2 := hlist
                generalize (ms.toList.filter fun e => !seen.contains e.born) = l at hfil hl2
                cases hfil with
                | cons hy hr =>
                  rename_i y ys
                  cases hr
                  exact ⟨y, by apply Array.ext'; rw [hl2], hy⟩
              obtain ⟨y, hy1, hy2⟩ := hex
              obtain ⟨k1, k2⟩ := put_rel (w' := World.turn w e.blk (.mapIter (some e'.blk) last (seen.toArray.push y.born) last)) (o' := .iter (some m) last (seen ++ [x.2.2]) last) hM hg he rfl (turn_like _ _ _) nx nx
                ⟨h0, some e'.blk, by rw [hy2.2.2]; simp, e', he', rfl⟩
              refine ⟨.tuple #[.bool true, y.key, y.val], _, φ, ?_, .tuple (.cons (.bool true) (.cons hy2.1 (.cons hy2.2.1 .nil))), k1, k2⟩
              rw [hy1] at hold hnew
              simp only [Instr.next, Sem.run_bind, run_getIter ho1, Result.andThen_ok, run_getMap hm1, hbad, Bool.false_eq_true, if_false, hy1, hold, hnew]
              have hch : (choose (Question.mapNext ((if (#[y] : Array MapEntry).isEmpty then #[(none : Option MapEntry)] else #[]) ++ (#[y] ++ (#[] : Array MapEntry)).map some).size)).run P w = .ok 0 w := by
                simp [run_choose, Question.forced]
              rw [hch]
              simp [run_setIter ho1]
            · cases h
        · cases h
      · cases h
  · cases h
theorem find_rel {s : Nat} : ∀ {es : List (AV × AV × Nat)} {ms : List MapEntry}, ERels φ es ms → ∀ {x : AV × AV × Nat}, es.find? (fun e => e.2.2 == s) = some x → ∃ y, ms.find? (fun m => m.born == s) = some y ∧ ERel φ x y
  | _, _, .nil, _, h => by simp at h
  | _, _, .cons (e := e) (m := m) he ht, x, h => by
    have hb := he.2.2
    simp only [List.find?_cons] at h ⊢
    rw [← hb]
    split at h
    · rename_i hs
      simp only [Option.some.injEq] at h
      subst h
      exact ⟨m, rfl, he⟩
    · rename_i hs
      obtain ⟨y, h1, h2⟩ := find_rel ht h
      exact ⟨y, h1, h2⟩
theorem entry_ok (hM : MRel φ g w) {it av : AV} {iv : Value} (h : entryOp g it = some av) (hi : VRel φ it iv) : ∃ u, (Instr.entry iv).run P w = .ok u w ∧ VRel φ av u := by
  unfold entryOp at h
  split at h
  · rename_i r
    cases hi with
    | ptr _ he =>
      rename_i e
      split at h
      · rename_i m since seen stepped hg
        split at h
        · rename_i st es clock hs hgm
          split at h
          · cases h
          · rename_i hc
            simp only [bne_iff_ne, ne_eq, Decidable.not_not] at hc
            subst hc
            simp only [Option.map_eq_some_iff] at h
            obtain ⟨x, hx, rfl⟩ := h
            obtain ⟨h0, m', ho1, e', he', ho2⟩ := hM.obj r _ e hg he
            subst ho2
            obtain ⟨ms, hm1, hm2⟩ := hM.obj m _ e' hgm he'
            obtain ⟨y, k1, k2⟩ := find_rel hm2 hx
            rw [h0]
            refine ⟨.tuple #[y.key, y.val], ?_, .tuple (.cons k2.1 (.cons k2.2.1 .nil))⟩
            have hb : seen.toArray.back? = some st := by rw [Array.back?_eq_getElem?]; simpa [List.getLast?_eq_getElem?] using hs
            have hf : ms.find? (fun e => e.born == st) = some y := by rw [← Array.find?_toList]; exact k1
            simp only [Instr.entry, Sem.run_bind, run_getIter ho1, Result.andThen_ok, hb, run_getMap hm1, bne_self_eq_false, Bool.false_eq_true, if_false, hf, Sem.run_pure]
        · cases h
      · rename_i m last stepped hg
        split at h
        · rename_i es clock hgm
          split at h
          · cases h
          · rename_i hc
            simp only [bne_iff_ne, ne_eq, Decidable.not_not] at hc
            subst hc
            simp only [Option.map_eq_some_iff] at h
            obtain ⟨x, hx, rfl⟩ := h
            obtain ⟨h0, e', since, seen, he', ho1, hb⟩ := hM.obj r _ e hg he
            obtain ⟨ms, hm1, hm2⟩ := hM.obj m _ e' hgm he'
            obtain ⟨y, k1, k2⟩ := find_rel hm2 hx
            rw [h0]
            refine ⟨.tuple #[y.key, y.val], ?_, .tuple (.cons k2.1 (.cons k2.2.1 .nil))⟩
            have hf : ms.find? (fun e => e.born == last) = some y := by rw [← Array.find?_toList]; exact k1
            simp only [Instr.entry, Sem.run_bind, run_getIter ho1, Result.andThen_ok, hb, run_getMap hm1, bne_self_eq_false, Bool.false_eq_true, if_false, hf, Sem.run_pure]
        · cases h
      · cases h
  · cases h
end
end Go.Am
end
section
namespace Go.Am
section
variable {P : Program} {φ : Emb} {g : Get} {nx : Nat} {w : World}
theorem len_ok (hM : MRel φ g w) {t ty : TypeId} {ts : Array TypeId} {x : AV} {v : Value} {n : Nat} (h : lenOf P g t x = some n) (hx : VRel φ x v) (ht : ts[0]? = some t) :
    (Builtin.len_ ts ty #[v]).run P w = .ok (.int .i64 n) w := by
  unfold lenOf at h
  split at h
  · rename_i s h1
    cases hx
    simp only [Option.some.injEq] at h
    subst h
    have hs : (⟨s.toArray⟩ : ByteArray).size = s.length := by show s.toArray.size = _; simp
    simp only [Builtin.len_, List.getElem?_toArray, List.getElem?_cons_zero, ht, Sem.run_bind, run_under h1, Result.andThen_ok, goInt, hs]
    rfl
  · rename_i el b o n' c es h1
    cases hx
    simp only [Option.some.injEq] at h
    subst h
    simp [Builtin.len_, ht, run_under h1, goInt]
  · rename_i el h1
    cases hx
    simp only [Option.some.injEq] at h
    subst h
    simp [Builtin.len_, ht, run_under h1, goInt]
  · rename_i k el h1
    cases hx
    simp only [Option.some.injEq] at h
    subst h
    simp [Builtin.len_, ht, run_under h1, goInt]
  · rename_i k el r h1
    cases hx with
    | map he =>
      split at h
      · rename_i es clock hg
        simp only [Option.some.injEq] at h
        subst h
        obtain ⟨ms, ho1, ho2⟩ := hM.obj r _ _ hg he
        have hl : es.length = ms.size := by
          have : ∀ {es : List (AV × AV × Nat)} {ms : List MapEntry}, ERels φ es ms → es.length = ms.length := by
            intro es ms h
            induction h with
            | nil => rfl
            | cons _ _ ih => simp [ih]
          simpa using this ho2
        simp [Builtin.len_, ht, run_under h1, goInt, run_getMap ho1, hl]
      · rename_i es hg
        simp only [Option.some.injEq] at h
        subst h
        obtain ⟨ms, clock, es', ho1, ho2, ho3, _⟩ := hM.obj r _ _ hg he
        have hl : es.length = ms.size := by
          have : ∀ {es : List (AV × AV × Nat)} {ms : List MapEntry}, ERels φ es ms → es.length = ms.length := by
            intro es ms h
            induction h with
            | nil => rfl
            | cons _ _ ih => simp [ih]
          have h3 := ho3.length_eq
          rw [List.length_map] at h3
          rw [← h3]
          simpa using this ho2
        simp [Builtin.len_, ht, run_under h1, goInt, run_getMap ho1, hl]
      · cases h
  · cases h
theorem lenVal_rel {x : AV} {v : Value} {m : Nat} (h : lenVal x = some m) (hx : VRel φ x v) (w : World) : (Builtin.lenOf v).run P w = .ok m w := by
  cases hx <;> simp only [lenVal, Option.some.injEq] at h <;> try cases h
  · rename_i s
    have hs : (⟨s.toArray⟩ : ByteArray).size = s.length := by show s.toArray.size = _; simp
    simp only [Builtin.lenOf, hs]
    rfl
  · rfl
  · rfl
theorem first_rel (hM : MRel φ g w) {x : AV} {v : Value} {n k : Nat} {l : List AV} (h : firstCells g n k x = some l) (hx : VRel φ x v) :
    ∃ u : Array Value, (∀ w', w'.heap = w.heap → (Builtin.firstCells n k v).run P w' = .ok u w') ∧ VRels φ l u.toList := by
  cases hx <;> simp only [firstCells] at h <;> try cases h
  · rename_i s
    split at h
    · rename_i hc
      simp only [Bool.and_eq_true, decide_eq_true_eq] at hc
      obtain ⟨rfl, hk⟩ := hc
      simp only [Option.some.injEq] at h
      subst h
      refine ⟨_, fun _ _ => rfl, ?_⟩
      have e1 : (⟨s.toArray⟩ : ByteArray).extract 0 k = ⟨((s.take k).drop 0).toArray⟩ := extract_list s 0 k
      rw [e1]
      simp only [List.drop_zero, Array.toList_map]
      generalize s.take k = l
      induction l with
      | nil => exact .nil
      | cons b l ih => exact .cons (.int _ _) ih
    · cases h
  · split at h
    · simp only [Option.some.injEq] at h
      subst h
      exact ⟨#[], fun _ _ => rfl, .nil⟩
    · cases h
  · rename_i b e o len cap es o' cap' he hl hc hes hp
    split at h
    · rename_i hcond
      simp only [Bool.and_eq_true, decide_eq_true_eq] at hcond
      obtain ⟨rfl, hk⟩ := hcond
      obtain ⟨u, h1, h2⟩ := slice_read (P := P) hM he hk hl hc hp h
      exact ⟨u, h1, h2⟩
    · cases h
theorem first_length {x : AV} {n k : Nat} {l : List AV} (h : firstCells g n k x = some l) : l.length = k * n := by
  cases x <;> simp only [firstCells] at h <;> try cases h
  · split at h
    · rename_i hc
      simp only [Bool.and_eq_true, decide_eq_true_eq] at hc
      simp only [Option.some.injEq] at h
      subst h
      simp [hc.1, Nat.min_eq_left hc.2]
    · cases h
  · split at h
    · simp only [Option.some.injEq] at h
      subst h
      rename_i h0; simp [h0]
    · cases h
  · split at h
    · exact read_length h
    · cases h
theorem copy_ok (hM : MRel φ g w) {t ty : TypeId} {ts : Array TypeId} {d s av : AV} {dv sv : Value} {eff : Eff} (h : copyOp P g t d s = some (av, eff)) (hd : VRel φ d dv) (hs : VRel φ s sv) (ht : ts[0]? = some t) :
    VOk P φ g nx w (Builtin.copy_ ts ty #[dv, sv]) av eff := by
  unfold copyOp telem at h
  cases hu : P.underlying t with
  | none => rw [hu] at h; simp at h
  | some dd =>
    rw [hu] at h
    cases dd <;> simp only at h <;> try cases h
    rename_i e
    split at h
    · rename_i e' ns he' hns
      simp only [Option.some.injEq] at he'
      subst he'
      have hlen := lenVal_rel (P := P) hns hs w
      split at h
      · rename_i n b o len cap es hsz
        split at h
        · cases h
        · rename_i hc
          simp only [Bool.or_eq_true, decide_eq_true_eq, not_or, Decidable.not_not, ne_eq] at hc
          obtain ⟨hn0, rfl⟩ := hc
          split at h
          · rename_i cs hcs
            obtain ⟨u, k1, k2⟩ := first_rel (P := P) hM hcs hs
            have k1 := k1 w rfl
            cases hd with
            | slice he hl hcap hes hp =>
              rename_i sp o' cap'
              split at h
              · rename_i hk
                simp only [Option.some.injEq, Prod.mk.injEq] at h
                obtain ⟨rfl, rfl⟩ := h
                have hu0 : u = #[] := by
                  have h1 := first_length hcs
                  rw [hk] at h1
                  have h2 := k2.length
                  rw [h1, Nat.zero_mul, Array.length_toList] at h2
                  exact Array.eq_empty_of_size_eq_zero h2.symm
                subst hu0
                refine .keep hM (v := .int .i64 0) ?_ (.int _ _)
                rw [hk] at k1
                simp only [Builtin.copy_, List.getElem?_toArray, List.getElem?_cons_zero, List.getElem?_cons_succ, ht, Sem.run_bind, run_under hu, Result.andThen_ok, hlen, run_size hsz, hk, k1]
                rfl
              · rename_i hk
                simp only [Option.map_eq_some_iff] at h
                obtain ⟨eff', hw, h⟩ := h
                simp only [Prod.mk.injEq] at h
                obtain ⟨rfl, rfl⟩ := h
                have hmin : Nat.min ns len ≤ len := Nat.min_le_right _ _
                obtain ⟨p1, p2⟩ := hp (by omega)
                subst p1
                obtain ⟨w', r1, r2, r3⟩ := write_rel (P := P) (nx := nx) hM hw he k2
                refine ⟨.int .i64 (Nat.min ns len : Nat), w', φ, ?_, .int _ _, r2, r3⟩
                simp only [Builtin.copy_, List.getElem?_toArray, List.getElem?_cons_zero, List.getElem?_cons_succ, ht, Sem.run_bind, run_under hu, Result.andThen_ok, hlen, run_size hsz, k1, r1]
                rfl
          · cases h
      · rename_i n hsz
        simp only [Option.some.injEq, Prod.mk.injEq] at h
        obtain ⟨rfl, rfl⟩ := h
        cases hd
        have hm0 : Nat.min ns 0 = 0 := Nat.min_zero ns
        have h0 : ∃ u, (Builtin.firstCells n 0 sv).run P w = .ok u w := by
          cases hs <;> simp only [lenVal] at hns <;> try cases hns
          · exact ⟨_, rfl⟩
          · exact ⟨_, rfl⟩
          · exact ⟨#[], by simp [Builtin.firstCells, loadCells, loadCellsFrom]⟩
        obtain ⟨u, k1⟩ := h0
        refine .keep hM (v := .int .i64 0) ?_ (.int _ _)
        simp only [Builtin.copy_, List.getElem?_toArray, List.getElem?_cons_zero, List.getElem?_cons_succ, ht, Sem.run_bind, run_under hu, Result.andThen_ok, hlen, run_size hsz, hm0, k1]
        rfl
      · cases h
    · cases h
theorem max_ok {isMax : Bool} : ∀ {rest : List AV} {x av : AV} {v : Value} {vs : List Value}, maxInt isMax x rest = some av → VRel φ x v → VRels φ rest vs →
    ∃ u, (vs.foldlM (if isMax then Builtin.max2 else Builtin.min2) v).run P w = .ok u w ∧ VRel φ av u
  | [], x, av, v, vs, h, hx, hr => by
    cases hr
    simp only [maxInt, Option.some.injEq] at h
    subst h
    exact ⟨v, by simp, hx⟩
  | y :: rest, x, av, v, vs, h, hx, hr => by
    cases hr with
    | cons hy ht =>
      cases hx <;> cases hy <;> simp only [maxInt] at h <;> try cases h
      rename_i k a j b
      obtain ⟨u, h1, h2⟩ := max_ok h (.int k _) ht
      refine ⟨u, ?_, h2⟩
      cases isMax
      · simp only [List.foldlM_cons, Bool.false_eq_true, if_false, Sem.run_bind, Builtin.min2, Sem.run_pure, Result.andThen_ok] at *
        exact h1
      · simp only [List.foldlM_cons, if_true, Sem.run_bind, Builtin.max2, Sem.run_pure, Result.andThen_ok] at *
        exact h1
end
end Go.Am
end
section
namespace Go.Am
section
variable {P : Program} {φ : Emb} {g : Get} {nx : Nat} {w : World}
theorem growBy_le (newLen : Nat) : ∀ (rounds c : Nat), c ≤ 2 * newLen + 1000 → Builtin.growBy newLen rounds c ≤ 2 * newLen + 1000
  | 0, c, h => by simpa [Builtin.growBy] using h
  | r + 1, c, h => by
    simp only [Builtin.growBy]
    split
    · exact h
    · exact growBy_le newLen r _ (by omega)
theorem nextCap_le (need cap : Nat) (h : cap < need) : Builtin.nextslicecap need cap ≤ 2 * need + 1000 := by
  unfold Builtin.nextslicecap
  split
  · omega
  · split
    · omega
    · exact growBy_le need 4 cap (by omega)
theorem append_grow {ts ty : TypeId} {tss : Array TypeId} {e xt : TypeId} {d : TypeDesc} {n m bs len cap' : Nat} {base : Option Addr} {xv : Value} {z : AV} {old new : Array Value}
    (h1 : P.underlying ts = some (.slice e)) (h0 : tss[0]? = some ts) (hx : tss[1]? = some xt) (hd : P.underlying xt = some d) (hint : isIntD d = false)
    (hs : tsize P e = some n) (hz : tzero P e = some z) (hb : tbytes P e = some bs) (hm : (Builtin.lenOf xv).run P w = .ok m w)
    (hb1 : bs ≤ 1000000) (hlen : len ≤ 100000) (hmm : m ≤ 100000) (hgrow : cap' < len + m)
    (hold : ∀ w', w'.heap = w.heap → (Builtin.firstCells n len (.slice base len cap')).run P w' = .ok old w') (hnew : ∀ w', w'.heap = w.heap → (Builtin.firstCells n m xv).run P w' = .ok new w') :
    ∃ (c : Nat) (rest : Array Value) (w' : World), len + m ≤ c ∧ w'.heap = w.heap.push (.cells (old ++ new ++ rest) e) ∧ Like w w' ∧ (z.cells.length = n → rest.size = (c - (len + m)) * n) ∧
      (Builtin.append_ tss ty #[.slice base len cap', xv]).run P w = .ok (.slice (some ⟨w.heap.size, 0, none⟩) (len + m) c) w' := by
  obtain ⟨zv, hz1, hz2⟩ := run_zero hz
  simp only [tbytes, Option.map_eq_some_iff] at hb
  obtain ⟨i, hi, rfl⟩ := hb
  let q := Question.appendCap (len + m) cap' e
  let c := len + m + w.tape w.drawn q % (2 ^ 63 - (len + m))
  refine ⟨c, Builtin.zeroCells zv.cells (c - (len + m)), { w with heap := w.heap.push (.cells (old ++ new ++ Builtin.zeroCells zv.cells (c - (len + m))) e), drawn := w.drawn + 1 }, Nat.le_add_right _ _, rfl, ⟨rfl, rfl, rfl⟩, ?_, ?_⟩
  · intro hzl
    have := (hz2 (fun _ => none)).cells.length
    simp only [Array.length_toList] at this
    simp [Builtin.zeroCells, ← this, hzl]
  · have hmax : IntKind.i64.max = 9223372036854775807 := by decide
    have hnc := nextCap_le (len + m) cap' hgrow
    have hsmall : ¬ (Builtin.nextslicecap (len + m) cap' * i.bytes > 2 ^ 48) := by
      have : Builtin.nextslicecap (len + m) cap' * i.bytes ≤ 401000 * 1000000 := Nat.mul_le_mul (by omega) hb1
      omega
    have hq : q.forced = false := rfl
    have hc1 : ¬ (((len + m : Nat) : Int) > IntKind.i64.max ∧ (false = true ∨ i.bytes = 0)) := by rw [hmax]; omega
    have hle : ¬ len + m ≤ cap' := by omega
    simp only [Bool.false_eq_true] at hc1
    cases d <;> first
      | (simp [isIntD] at hint; done)
      | (simp only [Builtin.append_, List.getElem?_toArray, List.getElem?_cons_zero, List.getElem?_cons_succ, h0, Sem.run_bind, run_under h1, Result.andThen_ok, run_size hs, hx, run_under hd, Sem.run_pure, Bool.false_eq_true, if_false, hm, hle, run_info hi]
         rw [if_neg hc1]
         simp only [Sem.run_bind, run_info hi, Result.andThen_ok, hsmall, if_false, run_choose]
         show ((if q.forced = true then Result.ok 0 w else Result.ok (q.cut (w.tape w.drawn q)) { w with drawn := w.drawn + 1 }).andThen _) = _
         rw [hq]
         simp only [Bool.false_eq_true, if_false, Result.andThen_ok, run_askRoom, Bool.not_false, if_true]
         rw [hold { w with drawn := w.drawn + 1 } rfl]
         simp only [Result.andThen_ok]
         rw [hnew { w with drawn := w.drawn + 1 } rfl]
         simp only [Result.andThen_ok, hz1, newRow, Sem.run_bind, run_newObj, Sem.run_pure]
         rfl)
theorem append_stay {ts ty : TypeId} {tss : Array TypeId} {e xt : TypeId} {d : TypeDesc} {n m len cap' : Nat} {base : Option Addr} {xv : Value} {new : Array Value} {w' : World}
    (h1 : P.underlying ts = some (.slice e)) (h0 : tss[0]? = some ts) (hx : tss[1]? = some xt) (hd : P.underlying xt = some d) (hint : isIntD d = false)
    (hs : tsize P e = some n) (hm : (Builtin.lenOf xv).run P w = .ok m w) (hle : len + m ≤ cap') (hnew : (Builtin.firstCells n m xv).run P w = .ok new w)
    (hst : match base with | some a => (storeCells (a.add (len * n)) new.toList).run P w = .ok () w' | none => w' = w) :
    (Builtin.append_ tss ty #[.slice base len cap', xv]).run P w = .ok (.slice base (len + m) cap') w' := by
  cases d <;> first
    | (simp [isIntD] at hint; done)
    | (simp only [Builtin.append_, List.getElem?_toArray, List.getElem?_cons_zero, List.getElem?_cons_succ, h0, Sem.run_bind, run_under h1, Result.andThen_ok, run_size hs, hx, run_under hd, Sem.run_pure, Bool.false_eq_true, if_false, hm, hle, if_true, Bool.not_false, hnew]
       cases base with
       | none => simp only at hst; subst hst; rfl
       | some a => simp only at hst; simp only [Sem.run_bind, hst, Result.andThen_ok, Sem.run_pure])
theorem append_ok (hM : MRel φ g w) {ts ty : TypeId} {tss : Array TypeId} {s x av : AV} {sv xv : Value} {eff : Eff} (hf : Free φ nx eff) (h : append P g nx ts tss[1]? s x = some (av, eff)) (hs : VRel φ s sv) (hx : VRel φ x xv) (h0 : tss[0]? = some ts) :
    VOk P φ g nx w (Builtin.append_ tss ty #[sv, xv]) av eff := by
  unfold append telem at h
  cases hu : P.underlying ts with
  | none => rw [hu] at h; simp at h
  | some dd =>
    rw [hu] at h
    cases dd <;> simp only at h <;> try cases h
    rename_i e
    cases hxt : tss[1]? with
    | none => rw [hxt] at h; simp at h
    | some xt =>
      rw [hxt] at h
      simp only [Option.bind_some] at h
      cases hd : P.underlying xt with
      | none => rw [hd] at h; simp at h
      | some d =>
        rw [hd] at h
        simp only at h
        split at h
        · cases h
        · rename_i hint
          have hint : isIntD d = false := by simpa using hint
          split at h
          · rename_i n z bs m hsz hz hb hlv
            split at h
            · cases h
            · rename_i hc
              simp only [Bool.or_eq_true, decide_eq_true_eq, not_or, Decidable.not_not, ne_eq] at hc
              unfold mostCells at hc
              obtain ⟨⟨⟨hn0, hzl⟩, hb1⟩, hm1⟩ := hc
              split at h
              · cases h
              · rename_i new hnew
                split at h
                · cases h
                · rename_i hall
                  have hm := lenVal_rel (P := P) hlv hx w
                  have hnl := first_length hnew
                  obtain ⟨nu, n1, n2⟩ := first_rel (P := P) hM hnew hx
                  split at h
                  ·
                    cases hs
                    split at h
                    · rename_i hm0
                      simp only [Option.some.injEq, Prod.mk.injEq] at h
                      obtain ⟨rfl, rfl⟩ := h
                      subst hm0
                      exact .keep hM (append_stay hu h0 hxt hd hint hsz hm (Nat.le_refl _) (n1 w rfl) rfl) .nilslice
                    · rename_i hm0
                      simp only [Option.some.injEq, Prod.mk.injEq] at h
                      obtain ⟨rfl, rfl⟩ := h
                      have hf := hf.new
                      obtain ⟨c, rest, w', r1, r2, r3, r4, r5⟩ := append_grow (P := P) (w := w) (ty := ty) (base := none) (len := 0) (cap' := 0) (old := #[]) (new := nu) hu h0 hxt hd hint hsz hz hb hm (by omega) (by omega) (by omega) (by omega) (fun _ _ => rfl) n1
                      have hnu := n2.length
                      simp only [Array.length_toList] at hnu
                      have hrs := r4 hzl
                      have hsz' : (#[] ++ nu ++ rest).size = c * n := by
                        simp only [Array.size_append, List.size_toArray, List.length_nil, Nat.zero_add, hrs, ← hnu, hnl]
                        rw [← Nat.add_mul]; congr 1; omega
                      have hx' : φ.Ext (upd φ nx (some ⟨w.heap.size, 0, c * n⟩)) := by
                        intro b e hb
                        have : b ≠ nx := fun e => by subst e; rw [hf] at hb; cases hb
                        rw [upd_ne _ _ this]; exact hb
                      obtain ⟨k1, k2, k3⟩ := new_rel (w' := w') hM hf (o := .cells new) (base := 0) (size := c * n) r2 r3 (fun _ => False)
                        ⟨_, _, (0, 0), rfl, hsz', by rw [hnl]; simp only [Nat.zero_add]; exact Nat.mul_le_mul_right _ (by omega), fun i _ _ => by omega, by
                          intro i a ha
                          obtain ⟨v, hv, hr⟩ := n2.get ha
                          refine ⟨v, ?_, hr.mono hx'⟩
                          simp only [Nat.zero_add, Array.empty_append]
                          rw [Array.getElem?_toList] at hv
                          have hlt : i < nu.size := by
                            rcases Nat.lt_or_ge i nu.size with h | h
                            · exact h
                            · rw [Array.getElem?_eq_none h] at hv; cases hv
                          rw [Array.getElem?_append_left hlt]; exact hv⟩
                      refine ⟨_, w', _, r5, ?_, k2, k3⟩
                      simp only [Nat.zero_add] at r1 ⊢
                      exact .slice (b := nx) (e := ⟨w.heap.size, 0, c * n⟩) (upd_same _ _ _) (Nat.le_refl _) r1 (Nat.pos_of_ne_zero hn0) fun _ => ⟨rfl, by simp⟩
                  ·
                    cases hs with
                    | slice he hl hcap hes hp =>
                      rename_i b o len cap es sp o' cap'
                      split at h
                      · cases h
                      · rename_i hc2
                        simp only [Bool.or_eq_true, decide_eq_true_eq, not_or, Decidable.not_not, ne_eq] at hc2
                        unfold mostCells at hc2
                        obtain ⟨rfl, hlen1⟩ := hc2
                        split at h
                        · rename_i hfit
                          split at h
                          · rename_i hm0
                            simp only [Option.some.injEq, Prod.mk.injEq] at h
                            obtain ⟨rfl, rfl⟩ := h
                            subst hm0
                            have hnu : nu = #[] := by
                              have := n2.length
                              rw [hnl, Nat.zero_mul, Array.length_toList] at this
                              exact Array.eq_empty_of_size_eq_zero this.symm
                            subst hnu
                            refine .keep hM (append_stay hu h0 hxt hd hint hsz hm (by omega) (n1 w rfl) ?_) (.slice he hl hcap hes hp)
                            simp [storeCells]
                          · rename_i hm0
                            simp only [Option.map_eq_some_iff] at h
                            obtain ⟨eff', hw, h⟩ := h
                            simp only [Prod.mk.injEq] at h
                            obtain ⟨rfl, rfl⟩ := h
                            obtain ⟨p1, p2⟩ := hp (by omega)
                            subst p1
                            obtain ⟨w', r1, r2, r3⟩ := write_rel (P := P) (nx := nx) hM hw he n2
                            refine ⟨_, w', φ, append_stay hu h0 hxt hd hint hsz hm (by omega) (n1 w rfl) ?_, .slice he (by omega) hcap hes hp, r2, r3⟩
                            simp only [addr_add]
                            rw [Nat.add_assoc]; exact r1
                        · rename_i hfit
                          split at h
                          · rename_i old hold
                            simp only [Option.some.injEq, Prod.mk.injEq] at h
                            obtain ⟨rfl, rfl⟩ := h
                            have hf := hf.swap
                            obtain ⟨ou, o1, o2⟩ := slice_read (P := P) hM he (Nat.le_refl _) hl hcap hp hold
                            have hol := read_length hold
                            have hcell : ∃ cs, g b = some (.cells cs) ∧ o + len * es ≤ cs.length ∧ old = (cs.drop o).take (len * es) := by
                              unfold Get.read Get.cellsOf at hold
                              cases hg : g b with
                              | none => rw [hg] at hold; simp at hold
                              | some ob =>
                                rw [hg] at hold
                                cases ob with
                                | cells cs =>
                                  simp only at hold
                                  split at hold
                                  · rename_i hle
                                    simp only [Option.some.injEq] at hold
                                    exact ⟨cs, rfl, hle, hold.symm⟩
                                  · cases hold
                                | map _ _ => simp at hold
                                | iter _ _ _ _ => simp at hold
                                | loop _ _ _ _ _ _ _ => simp at hold
                                | bag _ => simp at hold
                                | «at» _ _ _ => simp at hold
                            obtain ⟨cs, hg, hle, holde⟩ := hcell
                            have hnul := n2.length
                            have houl := o2.length
                            simp only [Array.length_toList] at hnul houl
                            by_cases hin : len + m ≤ cap'
                            · obtain ⟨p1, p2⟩ := hp (by omega)
                              subst p1
                              obtain ⟨c, el, fz, b1, b2, b3, b4, b5⟩ := hM.obj b _ sp hg he
                              have hmul : (len + m) * es ≤ cap' * es := Nat.mul_le_mul_right _ hin
                              rw [Nat.add_mul] at hmul
                              have hnm : nu.toList.length = m * es := by simp; omega
                              obtain ⟨w', r1, r2, r3⟩ := run_storeCells (P := P) (o := sp.base + o + len * es) nu.toList 0 w c b1 (by omega) (fun k hk1 hk2 => b4 k (by omega) (by omega)) (scalars_one n2 (by simpa using hall))
                              have hx' : φ.Ext (upd φ nx (some ⟨sp.blk, sp.base + o, sp.size⟩)) := by
                                intro b e hb
                                have : b ≠ nx := fun e => by subst e; rw [hf] at hb; cases hb
                                rw [upd_ne _ _ this]; exact hb
                              have hlong : sp.base + o + len * es + nu.toList.length ≤ c.toList.length := by rw [hnm, Array.length_toList]; omega
                              obtain ⟨k1, k2, k3⟩ := stay_rel (w' := w') (base := sp.base + o) (o' := .cells (old ++ new)) hM hf hg he r2 r3
                                ⟨_, el, fz, rfl, by simp only [List.size_toArray, Nat.add_zero]; rw [splice'_length _ _ _ hlong]; simpa using b2,
                                  by simp only [List.length_append, hol, hnl]; omega, fun k hk1 hk2 => b4 k (by simp only at hk1; omega) hk2, by
                                  intro i a ha
                                  simp only [List.getElem?_toArray, Nat.add_zero]
                                  rw [splice'_get _ _ _ _ hlong]
                                  rw [List.getElem?_append] at ha
                                  split at ha
                                  · rename_i hi
                                    rw [if_neg (by omega)]
                                    rw [holde, List.getElem?_take, if_pos (by omega), List.getElem?_drop] at ha
                                    obtain ⟨v, v1, v2⟩ := b5 _ _ ha
                                    exact ⟨v, by rw [Array.getElem?_toList, ← v1]; congr 1; omega, v2.mono hx'⟩
                                  · rename_i hi
                                    obtain ⟨v, v1, v2⟩ := n2.get ha
                                    have hlt : i - old.length < nu.toList.length := by
                                      rcases Nat.lt_or_ge (i - old.length) nu.toList.length with h | h
                                      · exact h
                                      · rw [List.getElem?_eq_none h] at v1; cases v1
                                    rw [if_pos (by omega)]
                                    exact ⟨v, by rw [← v1]; congr 1; omega, v2.mono hx'⟩⟩
                              refine ⟨_, w', _, append_stay hu h0 hxt hd hint hsz hm hin (n1 w rfl) ?_, ?_, k2, k3⟩
                              · simp only [addr_add]
                                exact r1
                              · have hs' : VRel (upd φ nx (some ⟨sp.blk, sp.base + o, sp.size⟩)) (.slice nx 0 (len + m) (len + m) es) (.slice (some ⟨(⟨sp.blk, sp.base + o, sp.size⟩ : Spot).blk, sp.base + o, none⟩) (len + m) cap') :=
                                  .slice (upd_same _ _ _) (Nat.le_refl _) hin hes fun _ => ⟨rfl, by simp only; omega⟩
                                exact hs'
                            · obtain ⟨c, rest, w', r1, r2, r3, r4, r5⟩ := append_grow (P := P) (w := w) (ty := ty) (base := some ⟨sp.blk, o', none⟩) (len := len) (cap' := cap') (old := ou) (new := nu) hu h0 hxt hd hint hsz hz hb hm (by omega) (by omega) (by omega) (by omega) o1 n1
                              have hrs := r4 hzl
                              have hsz' : (ou ++ nu ++ rest).size = c * es := by
                                simp only [Array.size_append, hrs, ← hnul, hnl, ← houl, hol]
                                rw [← Nat.add_mul, ← Nat.add_mul]; congr 1; omega
                              have hx' : φ.Ext (upd φ nx (some ⟨w.heap.size, 0, c * es⟩)) := by
                                intro b e hb
                                have : b ≠ nx := fun e => by subst e; rw [hf] at hb; cases hb
                                rw [upd_ne _ _ this]; exact hb
                              obtain ⟨k1, k2, k3⟩ := leave_rel (w' := w') hM b hf (o := .cells (old ++ new)) (base := 0) (size := c * es) r2 r3
                                ⟨_, _, (0, 0), rfl, hsz', by
                                  simp only [List.length_append, hol, hnl, Nat.zero_add]
                                  rw [← Nat.add_mul]; exact Nat.mul_le_mul_right _ r1, fun i _ _ => by omega, by
                                  intro i a ha
                                  obtain ⟨v, hv, hr⟩ := (o2.append n2).get ha
                                  refine ⟨v, ?_, hr.mono hx'⟩
                                  simp only [Nat.zero_add]
                                  have hlt : i < (ou ++ nu).size := by
                                    rcases Nat.lt_or_ge i (ou ++ nu).size with h | h
                                    · exact h
                                    · rw [List.getElem?_eq_none (by simpa using h)] at hv; cases hv
                                  rw [Array.getElem?_append_left hlt, ← Array.getElem?_toList, Array.toList_append]; exact hv⟩
                              refine ⟨_, w', _, r5, ?_, k2, k3⟩
                              exact .slice (b := nx) (e := ⟨w.heap.size, 0, c * es⟩) (upd_same _ _ _) (Nat.le_refl _) r1 hes fun _ => ⟨rfl, by simp⟩
                          · cases h
                  · cases h
          · cases h
end
end Go.Am
end
section
namespace Go.Am
section
variable {P : Program} {φ : Emb} {w : World}
theorem ERels.get : ∀ {es : List (AV × AV × Nat)} {ms : List MapEntry}, ERels φ es ms → ∀ {i : Nat} {m : MapEntry}, ms[i]? = some m → ∃ e, es[i]? = some e ∧ ERel φ e m
  | _, _, .nil, i, m, h => by simp at h
  | _, _, .cons he ht, 0, m, h => by
    simp only [List.getElem?_cons_zero, Option.some.injEq] at h
    subst h
    exact ⟨_, rfl, he⟩
  | _, _, .cons he ht, i + 1, m, h => by
    simp only [List.getElem?_cons_succ] at h
    obtain ⟨e, h1, h2⟩ := ERels.get ht h
    exact ⟨e, by simpa using h1, h2⟩
def left (seen : List Nat) (es : List (AV × AV × Nat)) : List (AV × AV × Nat) := es.filter fun e => !seen.contains e.2.2
theorem next_raw {er em clock : Nat} {seen : List Nat} {ms : Array MapEntry} {es : List (AV × AV × Nat)} (h1 : w.heap[er]? = some (.mapIter (some em) clock seen.toArray clock)) (h2 : w.heap[em]? = some (.map ms clock))
    (hm2 : ERels φ es ms.toList) (hall : es.all (fun e => e.2.2 < clock) = true) (ty : TypeId) :
    (left seen es = [] → (Instr.next (.pointer (some ⟨er, 0, none⟩)) false ty).run P w = .ok (.tuple #[.bool false]) w) ∧
    (left seen es ≠ [] → ∃ e ∈ left seen es, ∃ y w1, ERel φ e y ∧ (Instr.next (.pointer (some ⟨er, 0, none⟩)) false ty).run P w = .ok (.tuple #[.bool true, y.key, y.val]) w1 ∧
      w1.heap = w.heap.setIfInBounds er (.mapIter (some em) clock (seen ++ [e.2.2]).toArray clock) ∧ Like w w1) := by
  have hlt := born_lt hm2 hall
  have hfil := filter_rel (q := fun n => !seen.contains n) hm2
  have hold : (ms.filter fun e => !seen.toArray.contains e.born).filter (fun e => decide (e.born < clock)) = ms.filter fun e => !seen.toArray.contains e.born := by
    apply Array.filter_eq_self.2
    intro x hx
    have : x ∈ ms := (Array.mem_filter.1 hx).1
    simpa using hlt x (by simpa using this)
  have hnew : (ms.filter fun e => !seen.toArray.contains e.born).filter (fun e => decide (e.born ≥ clock)) = #[] := by
    rw [Array.filter_eq_empty_iff]
    intro x hx
    have : x ∈ ms := (Array.mem_filter.1 hx).1
    have := hlt x (by simpa using this)
    simp; omega
  have hbad : (!seen.toArray.isEmpty && !ms.isEmpty && ms.all fun e => decide (e.born ≥ clock)) = false := by
    cases hms : ms.toList with
    | nil =>
      have : ms = #[] := by apply Array.ext'; simpa using hms
      subst this; simp
    | cons x xs =>
      have hx : x ∈ ms.toList := by rw [hms]; simp
      have := hlt x hx
      have : (ms.all fun e => decide (e.born ≥ clock)) = false := by
        rw [Array.all_eq_false]
        have hx' : x ∈ ms := by simpa using hx
        obtain ⟨i, hi, hxi⟩ := Array.mem_iff_getElem.1 hx'
        exact ⟨i, hi, by rw [hxi]; simp; omega⟩
      simp [this]
  have hlist : (ms.filter fun e => !seen.toArray.contains e.born).toList = ms.toList.filter fun e => !seen.contains e.born := by simp
  rw [← hlist] at hfil
  have hfil : ERels φ (left seen es) (ms.filter fun e => !seen.toArray.contains e.born).toList := hfil
  generalize hL : (ms.filter fun e => !seen.toArray.contains e.born) = L at hold hnew hfil
  refine ⟨fun hnil => ?_, fun hne => ?_⟩
  · rw [hnil] at hfil
    have hemp : L = #[] := by
      apply Array.ext'
      generalize L.toList = l at hfil
      cases hfil; rfl
    simp only [Instr.next, Sem.run_bind, run_getIter h1, Result.andThen_ok, run_getMap h2, hbad, Bool.false_eq_true, if_false, hL, hemp]
    simp [run_choose, Question.forced]
  · have hpos : 0 < L.size := by
      rcases Nat.eq_zero_or_pos L.size with h | h
      · exfalso
        have : L = #[] := Array.eq_empty_of_size_eq_zero h
        subst this
        generalize hes : left seen es = l at hfil hne
        cases hfil
        exact hne rfl
      · exact h
    have hemp : L.isEmpty = false := by
      rw [Bool.eq_false_iff]
      intro h
      rw [Array.isEmpty_iff] at h
      subst h
      simp at hpos
    have hcand : ((if L.isEmpty then #[(none : Option MapEntry)] else #[]) ++ (L ++ (#[] : Array MapEntry)).map some) = L.map some := by
      rw [hemp]; simp
    obtain ⟨i, w0, hi, hch, hh, hlk⟩ : ∃ i w0, i < L.size ∧ (choose (Question.mapNext (L.map some).size)).run P w = .ok i w0 ∧ w0.heap = w.heap ∧ Like w w0 := by
      rw [run_choose]
      by_cases hf : (Question.mapNext (L.map some).size).forced = true
      · rw [if_pos hf]
        exact ⟨0, w, hpos, rfl, rfl, .refl w⟩
      · rw [if_neg hf]
        refine ⟨_, _, ?_, rfl, rfl, ⟨rfl, rfl, rfl⟩⟩
        simp only [Question.cut, Array.size_map]
        exact Nat.mod_lt _ hpos
    obtain ⟨e, he, hye⟩ := hfil.get (i := i) (m := L[i]) (by rw [Array.getElem?_toList]; exact Array.getElem?_eq_getElem hi)
    have h1' : w0.heap[er]? = some (.mapIter (some em) clock seen.toArray clock) := by rw [hh]; exact h1
    refine ⟨e, List.mem_of_getElem? he, L[i], World.turn w0 er (.mapIter (some em) clock (seen.toArray.push L[i].born) clock), hye, ?_, ?_, ?_⟩
    · simp only [Instr.next, Sem.run_bind, run_getIter h1, Result.andThen_ok, run_getMap h2, hbad, Bool.false_eq_true, if_false, hL, hold, hnew, hcand, hch]
      have : (L.map some)[i]? = some (some L[i]) := by simp [hi]
      rw [this]
      simp [run_setIter h1']
    · rw [hye.2.2]
      simp [World.turn, hh]
    · exact ⟨hlk.os, hlk.tape, hlk.output⟩
end
end Go.Am
end
section
namespace Go.Am
mutual
def AV.same : AV → AV → Bool
  | .undef, .undef => true
  | .bool a, .bool b => a == b
  | .int j a, .int k b => decide (j = k) && decide (a = b)
  | .str a, .str b => decide (a = b)
  | .nilptr, .nilptr => true
  | .ptr a b, .ptr c d => a == c && b == d
  | .nilslice, .nilslice => true
  | .slice a b c d e, .slice a' b' c' d' e' => a == a' && (b == b' && (c == c' && (d == d' && e == e')))
  | .nilmap, .nilmap => true
  | .map a, .map b => a == b
  | .nilfunc, .nilfunc => true
  | .func f a c, .func g b d => f == g && (sameL a b && sameL c d)
  | .yieldv a, .yieldv b => a == b
  | .niliface, .niliface => true
  | .agg a, .agg b => sameL a b
  | .tuple a, .tuple b => sameL a b
  | _, _ => false
def sameL : List AV → List AV → Bool
  | [], [] => true
  | a :: as, b :: bs => a.same b && sameL as bs
  | _, _ => false
end
mutual
theorem AV.same_eq : ∀ (a b : AV), a.same b = true → a = b
  | a, b, h => by
    cases a <;> cases b <;> simp only [AV.same, Bool.and_eq_true, decide_eq_true_eq, beq_iff_eq] at h <;> try (cases h; done)
    all_goals first
      | rfl
      | (obtain ⟨h1, h2, h3⟩ := h; rw [h1, sameL_eq _ _ h2, sameL_eq _ _ h3])
      | (obtain ⟨rfl, rfl, rfl, rfl, rfl⟩ := h; rfl)
      | (obtain ⟨rfl, rfl⟩ := h; rfl)
      | (rw [sameL_eq _ _ h])
      | (rw [h])
theorem sameL_eq : ∀ (a b : List AV), sameL a b = true → a = b
  | [], [], _ => rfl
  | [], _ :: _, h => by simp [sameL] at h
  | _ :: _, [], h => by simp [sameL] at h
  | a :: as, b :: bs, h => by
    simp only [sameL, Bool.and_eq_true] at h
    rw [AV.same_eq a b h.1, sameL_eq as bs h.2]
end
def sameE : List (AV × AV × Nat) → List (AV × AV × Nat) → Bool
  | [], [] => true
  | a :: as, b :: bs => a.1.same b.1 && (a.2.1.same b.2.1 && (a.2.2 == b.2.2 && sameE as bs))
  | _, _ => false
theorem sameE_eq : ∀ (a b : List (AV × AV × Nat)), sameE a b = true → a = b
  | [], [], _ => rfl
  | [], _ :: _, h => by simp [sameE] at h
  | _ :: _, [], h => by simp [sameE] at h
  | (a, b, c) :: as, (a', b', c') :: bs, h => by
    simp only [sameE, Bool.and_eq_true, beq_iff_eq] at h
    rw [AV.same_eq _ _ h.1, AV.same_eq _ _ h.2.1, h.2.2.1, sameE_eq _ _ h.2.2.2]
def AObj.same : AObj → AObj → Bool
  | .cells a, .cells b => sameL a b
  | .map a c, .map b d => sameE a b && c == d
  | .iter a b c d, .iter a' b' c' d' => decide (a = a') && (decide (b = b') && (decide (c = c') && decide (d = d')))
  | _, _ => false
theorem AObj.same_eq : ∀ (a b : AObj), a.same b = true → a = b := by
  intro a b h
  cases a <;> cases b <;> simp only [AObj.same, Bool.and_eq_true, decide_eq_true_eq, beq_iff_eq] at h <;> try (cases h; done)
  · rw [sameL_eq _ _ h]
  · rw [sameE_eq _ _ h.1, h.2]
  · obtain ⟨rfl, rfl, rfl, rfl⟩ := h; rfl
end Go.Am
end
