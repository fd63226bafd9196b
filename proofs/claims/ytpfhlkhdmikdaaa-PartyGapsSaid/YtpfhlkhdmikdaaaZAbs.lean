/-
  The abstract machine: the model's code, run over values whose slices are either immutable inline rows or rows of a small heap of its own; capacities are hidden; calls run in a heap of what their arguments reach.
  Conditions: none (definitions alone).
-/
import Derived.Calls
namespace Go.Ws

inductive AV where
  | bool (b : Bool)
  | int (k : IntKind) (n : Int)
  | str (s : ByteArray)
  | nilp
  | hp (b o : Nat)
  | ep (sz b g i j : Nat)
  | ip (sz : Nat) (rows : List (List AV)) (i j : Nat)
  | nils
  | emps
  | inl (sz : Nat) (rows : List (List AV))
  | ref (sz b g i n : Nat) (full : Bool)
  | mapn
  | mp (b : Nat)
  | fn (f : Nat) (c : List AV)
  | nilf
  | agg (l : List AV)
  | tup (l : List AV)
  deriving Inhabited

inductive Blk where
  | row (c : List AV)
  | arr (sz : Nat) (rows : List (List AV)) (gen wgen : Nat) (ro : Bool)
  | map (es : List (AV × AV × Nat)) (clock : Nat)
  deriving Inhabited

def undefA : AV := .tup []

/-! ### The types' table -/
inductive TK where
  | bool | int (k : IntKind) | str | ptr (e : Nat) | slice (e : Nat) | array (n e : Nat) | map (k e : Nat) | struct (fs : List (Nat × Nat)) | func | other
  deriving Inhabited, DecidableEq

structure TI where
  k : TK
  sz : Nat
  bts : Nat
  z : Option AV
  cmp : Bool
  deriving Inhabited

def ofScalar : Value → Option AV
  | .bool b => some (.bool b)
  | .int k n => some (.int k n)
  | .string s => some (.str s)
  | .pointer none => some .nilp
  | .slice none 0 0 => some .nils
  | .map none => some .mapn
  | .nilFunc => some .nilf
  | _ => none

def ofVal : Value → Option AV
  | .agg cs => (cs.toList.mapM ofScalar).map .agg
  | .tuple cs => (cs.toList.mapM ofScalar).map .tup
  | v => ofScalar v

def tkOf : TypeDesc → TK
  | .bool => .bool
  | .int k => .int k
  | .string => .str
  | .pointer e => .ptr e
  | .slice e => .slice e
  | .array n e => .array n e
  | .map k e => .map k e
  | .struct fs => .struct (fs.toList.map fun f => (f.offset, f.type))
  | .func _ _ _ => .func
  | _ => .other

def namesOk : TypeDesc → Bool
  | .struct fs => fs.toList.all fun f => f.name != "_"
  | _ => true

def tiOf (P : Program) (t : Nat) : Option TI :=
  match P.underlying t, P.info? t with
  | some d, some i => some { k := tkOf d, sz := i.size, bts := i.bytes, z := i.zero.bind ofVal, cmp := !P.eqGuardType P.depth t && !P.stoodInHeld t && namesOk d }
  | _, _ => none

def TI.isAgg (i : TI) : Bool := match i.k with | .struct _ | .array _ _ => true | _ => false

/-! ### Reads are logged -/
inductive AM (α : Type) where
  | ret (a : α)
  | fail
  | rd (b : Nat) (k : Blk → AM α)

def AM.bind {α β : Type} : AM α → (α → AM β) → AM β
  | .ret a, f => f a
  | .fail, _ => .fail
  | .rd b k, f => .rd b fun x => (k x).bind f

instance : Monad AM where
  pure := AM.ret
  bind := AM.bind

def AM.run {α : Type} (h : Nat → Option Blk) : AM α → Option (α × List Nat)
  | .ret a => some (a, [])
  | .fail => none
  | .rd b k => match h b with
    | none => none
    | some x => match (k x).run h with
      | none => none
      | some (a, l) => some (a, b :: l)

def AM.of {α : Type} : Option α → AM α
  | some a => .ret a
  | none => .fail

def rdB (b : Nat) : AM Blk := .rd b .ret

structure Delta where
  v : AV
  up : List (Nat × Blk)
  nw : List Blk

def AM.val (v : AV) : AM Delta := .ret ⟨v, [], []⟩

/-! ### Helpers -/
def cellsAt (sz : Nat) (rows : List (List AV)) (i j k : Nat) : Option (List AV) :=
  if j + k ≤ sz then
    match rows[i]? with
    | some r => some ((r.drop j).take k)
    | none => none
  else if sz = 1 ∧ j = 0 ∧ i + k ≤ rows.length then some ((rows.drop i).take k).flatten
  else none

def AV.cells : AV → List AV
  | .agg l => l
  | v => [v]

def AV.one : AV → Bool
  | .agg _ => false
  | .tup _ => false
  | _ => true

def mkVal (agg : Bool) (l : List AV) : Option AV :=
  if agg then some (.agg l) else match l with
    | [v] => some v
    | _ => none

def setAt (l : List AV) (o : Nat) (v : List AV) : List AV := l.take o ++ v ++ l.drop (o + v.length)

mutual
def AV.refs : AV → List Nat
  | .hp b _ => [b]
  | .ep _ b _ _ _ => [b]
  | .ref _ b _ _ _ _ => [b]
  | .mp b => [b]
  | .fn _ c => AV.refsL c
  | .agg l => AV.refsL l
  | .tup l => AV.refsL l
  | _ => []
def AV.refsL : List AV → List Nat
  | [] => []
  | v :: l => v.refs ++ AV.refsL l
end

/-- May the cells stand in a row that is shared? -/
def flatB (l : List AV) : Bool := l.all AV.one && (AV.refsL l).isEmpty

mutual
def AV.hasInl : AV → Bool
  | .ip _ _ _ _ => true
  | .inl _ _ => true
  | .fn _ c => AV.hasInlL c
  | .agg l => AV.hasInlL l
  | .tup l => AV.hasInlL l
  | _ => false
def AV.hasInlL : List AV → Bool
  | [] => false
  | v :: l => v.hasInl || AV.hasInlL l
end

mutual
def AV.ren (r : Nat → Nat) : AV → AV
  | .hp b o => .hp (r b) o
  | .ep sz b g i j => .ep sz (r b) g i j
  | .ref sz b g i n f => .ref sz (r b) g i n f
  | .mp b => .mp (r b)
  | .fn f c => .fn f (AV.renL r c)
  | .agg l => .agg (AV.renL r l)
  | .tup l => .tup (AV.renL r l)
  | v => v
def AV.renL (r : Nat → Nat) : List AV → List AV
  | [] => []
  | v :: l => v.ren r :: AV.renL r l
end

def Blk.ren (r : Nat → Nat) : Blk → Blk
  | .row c => .row (AV.renL r c)
  | b => b

def Blk.refs : Blk → List Nat
  | .row c => AV.refsL c
  | _ => []

/-- A slice's rows, read. -/
def rowsOf (sz : Nat) : AV → AM (List (List AV))
  | .nils => .ret []
  | .emps => .ret []
  | .inl s rows => if s = sz then .ret rows else .fail
  | .ref s b g i n _ => if s = sz then .rd b fun
      | .arr s' rows gen wgen _ => if s' = sz ∧ wgen ≤ g ∧ g ≤ gen ∧ i + n ≤ rows.length then .ret ((rows.drop i).take n) else .fail
      | _ => .fail
    else .fail
  | .str s => if sz = 1 then .ret (s.data.toList.map fun b => [.int .u8 b.toNat]) else .fail
  | _ => .fail

def lenOf : AV → Option Nat
  | .nils => some 0
  | .emps => some 0
  | .inl _ rows => some rows.length
  | .ref _ _ _ _ n _ => some n
  | .str s => some s.size
  | _ => none

/-! ### Operations -/
section
variable (T : Nat → Option TI)

def aAlloc (n t : Nat) : AM Delta :=
  match T t with
  | some i => match i.z with
    | some z => .ret ⟨.hp n 0, [], [.row z.cells]⟩
    | none => .fail
  | none => .fail

def aBox (n : Nat) (v : AV) : AM Delta := .ret ⟨.hp n 0, [], [.row v.cells]⟩

def aLoad (t : Nat) (p : AV) : AM Delta :=
  match T t with
  | none => .fail
  | some i =>
    match p with
    | .hp b o => .rd b fun
      | .row c => if o + i.sz ≤ c.length then (AM.of (mkVal i.isAgg ((c.drop o).take i.sz))).bind AM.val else .fail
      | _ => .fail
    | .ep sz b g r j => .rd b fun
      | .arr s rows gen wgen _ => if s = sz ∧ wgen ≤ g ∧ g ≤ gen ∧ j + i.sz ≤ sz then (AM.of ((cellsAt sz rows r j i.sz).bind (mkVal i.isAgg))).bind AM.val else .fail
      | _ => .fail
    | .ip sz rows r j => (AM.of ((cellsAt sz rows r j i.sz).bind (mkVal i.isAgg))).bind AM.val
    | _ => .fail

def aStore (t : Nat) (p v : AV) : AM Delta :=
  match T t with
  | none => .fail
  | some i =>
    if v.cells.length = i.sz ∧ v.cells.all AV.one then
      match p with
      | .hp b o => .rd b fun
        | .row c => if o + i.sz ≤ c.length then .ret ⟨undefA, [(b, .row (setAt c o v.cells))], []⟩ else .fail
        | _ => .fail
      | .ep sz b g r j => .rd b fun
        | .arr s rows gen _ ro => if s = sz ∧ g = gen ∧ ro = false ∧ j + i.sz ≤ sz ∧ flatB v.cells then
            match rows[r]? with
            | some row => .ret ⟨undefA, [(b, .arr s (rows.set r (setAt row j v.cells)) gen gen false)], []⟩
            | none => .fail
          else .fail
        | _ => .fail
      | _ => .fail
    else .fail

def aFieldAddr (t : Nat) (p : AV) (f : Nat) : AM Delta :=
  match T t with
  | some { k := .struct fs, .. } =>
    match fs[f]? with
    | some (off, ft) => match T ft with
      | some fi => if fi.sz = 0 then .fail else
        match p with
        | .hp b o => .val (.hp b (o + off))
        | .ep sz b g i j => .val (.ep sz b g i (j + off))
        | .ip sz rows i j => .val (.ip sz rows i (j + off))
        | _ => .fail
      | none => .fail
    | none => .fail
  | _ => .fail

def aIndexAddr (t : Nat) (x ix : AV) : AM Delta :=
  match T t, ix with
  | some { k := .slice e, .. }, .int _ q =>
    match T e with
    | some ei => match x with
      | .inl sz rows => if sz = ei.sz ∧ 0 ≤ q ∧ q < rows.length then .val (.ip sz rows q.toNat 0) else .fail
      | .ref sz b g i n _ => if sz = ei.sz ∧ 0 ≤ q ∧ q < n then .val (.ep sz b g (i + q.toNat) 0) else .fail
      | _ => .fail
    | none => .fail
  | some { k := .array len e, .. }, .int _ q =>
    match T e with
    | some ei => if 0 ≤ q ∧ q < len then
        match x with
        | .hp b o => .val (.hp b (o + q.toNat * ei.sz))
        | .ep sz b g i j => .val (.ep sz b g i (j + q.toNat * ei.sz))
        | .ip sz rows i j => .val (.ip sz rows i (j + q.toNat * ei.sz))
        | _ => .fail
      else .fail
    | none => .fail
  | _, _ => .fail

def aIndex (t : Nat) (x ix : AV) : AM Delta :=
  match T t, x, ix with
  | some { k := .str, .. }, .str s, .int _ q =>
    if 0 ≤ q then match s[q.toNat]? with
      | some b => .val (.int .u8 b.toNat)
      | none => .fail
    else .fail
  | some { k := .array len e, .. }, .agg l, .int _ q =>
    match T e with
    | some ei => if 0 ≤ q ∧ q < len then
        (AM.of (if ei.isAgg then some (.agg ((l.drop (q.toNat * ei.sz)).take ei.sz)) else l[q.toNat * ei.sz]?)).bind AM.val
      else .fail
    | none => .fail
  | _, _, _ => .fail

def aField (t : Nat) (x : AV) (f : Nat) : AM Delta :=
  match T t, x with
  | some { k := .struct fs, .. }, .agg l =>
    match fs[f]? with
    | some (off, ft) => match T ft with
      | some fi => (AM.of (if fi.isAgg then some (.agg ((l.drop off).take fi.sz)) else l[off]?)).bind AM.val
      | none => .fail
    | none => .fail
  | _, _ => .fail

def intOf? : AV → Option Int
  | .int _ n => some n
  | _ => none

/-- A bound of a cut: given or not; within lo .. hi. -/
def aBound (x : Option AV) (d : Nat) (top : Nat) : Option Nat :=
  match x with
  | none => some d
  | some (.int _ q) => if 0 ≤ q ∧ q ≤ top then some q.toNat else none
  | some _ => none

def aSlice (t : Nat) (x : AV) (lo hi mx : Option AV) : AM Delta :=
  match T t with
  | some { k := .str, .. } =>
    match x, mx with
    | .str s, none => (AM.of ((aBound hi s.size s.size).bind fun h => (aBound lo 0 h).bind fun l => some (AV.str (s.extract l h)))).bind AM.val
    | _, _ => .fail
  | some { k := .slice e, .. } =>
    match T e with
    | none => .fail
    | some ei =>
      match x with
      | .nils => (AM.of ((aBound mx 0 0).bind fun m => (aBound hi 0 m).bind fun h => (aBound lo 0 h).bind fun _ => if mx.isSome && hi.isNone then none else some AV.nils)).bind AM.val
      | .emps => (AM.of ((aBound mx 0 0).bind fun m => (aBound hi 0 m).bind fun h => (aBound lo 0 h).bind fun _ => if mx.isSome && hi.isNone then none else some AV.emps)).bind AM.val
      | .inl sz rows => if sz = ei.sz then
          (AM.of ((aBound mx rows.length rows.length).bind fun m => (aBound hi rows.length m).bind fun h => (aBound lo 0 h).bind fun l =>
            if mx.isSome && hi.isNone then none else some (if mx.isSome && m == l then AV.emps else AV.inl sz ((rows.drop l).take (h - l))))).bind AM.val
        else .fail
      | .ref sz b g i n full => if sz = ei.sz then
          match mx with
          | none => .rd b fun
            | .arr _ rows gen _ _ => if g = gen ∧ full ∧ i + n ≤ rows.length then
                (AM.of ((aBound hi n (rows.length - i)).bind fun h => (aBound lo 0 h).bind fun l => some (AV.ref sz b g (i + l) (h - l) full))).bind AM.val
              else
                (AM.of ((aBound hi n n).bind fun h => (aBound lo 0 h).bind fun l => some (AV.ref sz b g (i + l) (h - l) full))).bind AM.val
            | _ => .fail
          | some _ => (AM.of ((aBound mx n n).bind fun m => (aBound hi n m).bind fun h => (aBound lo 0 h).bind fun l =>
              if hi.isNone then none else some (if m = l then AV.emps else AV.ref sz b g (i + l) (h - l) false))).bind AM.val
        else .fail
      | _ => .fail
  | _ => .fail

def aMakeSlice (n t : Nat) (len cap : AV) : AM Delta :=
  match T t, len, cap with
  | some { k := .slice e, .. }, .int _ l, .int _ c =>
    match T e with
    | some ei => match ei.z with
      | some z => if l = c ∧ 0 ≤ l ∧ l * ei.bts ≤ 140737488355328 ∧ 0 < ei.bts ∧ z.cells.length = ei.sz ∧ 0 < ei.sz ∧ flatB z.cells then
          if l = 0 then .val .emps else .ret ⟨.ref ei.sz n 0 0 l.toNat true, [], [.arr ei.sz (List.replicate l.toNat z.cells) 0 0 false]⟩
        else .fail
      | none => .fail
    | none => .fail
  | _, _, _ => .fail

def aParts (sz : Nat) : List (Nat × AV) → List (List AV) → Option (List (List AV))
  | [], rows => some rows
  | (i, v) :: rest, rows => if v.cells.length = sz ∧ i < rows.length ∧ flatB v.cells then aParts sz rest (rows.set i v.cells) else none

def aBuildSlice (n t len : Nat) (parts : List (Nat × AV)) : AM Delta :=
  match T t with
  | some { k := .slice e, .. } =>
    match T e with
    | some ei => match ei.z with
      | some z => if z.cells.length = ei.sz ∧ 0 < ei.sz ∧ len * ei.sz ≤ 16777216 ∧ flatB z.cells then
          match aParts ei.sz parts (List.replicate len z.cells) with
          | some rows => if len = 0 then .val .emps else .ret ⟨.ref ei.sz n 0 0 len true, [], [.arr ei.sz rows 0 0 false]⟩
          | none => .fail
        else .fail
      | none => .fail
    | none => .fail
  | _ => .fail

def aFill (place : Nat → Option (Nat × Nat)) (cells : List AV) : List (Nat × AV) → Option (List AV)
  | [] => some cells
  | (i, v) :: rest => match place i with
    | none => none
    | some (off, size) => if v.cells.length = size ∧ off + size ≤ cells.length then aFill place (setAt cells off v.cells) rest else none

def aBuild (t : Nat) (parts : List (Nat × AV)) : AM Delta :=
  match T t with
  | some { k := .struct fs, z := some z, .. } =>
    match fs.mapM (fun (f : Nat × Nat) => (T f.2).map fun fi => (f.1, fi.sz)) with
    | some places => (AM.of ((aFill (places[·]?) z.cells parts).map .agg)).bind AM.val
    | none => .fail
  | some { k := .array _ e, z := some z, .. } =>
    match T e with
    | some ei => (AM.of ((aFill (fun i => some (i * ei.sz, ei.sz)) z.cells parts).map .agg)).bind AM.val
    | none => .fail
  | _ => .fail

/-! maps -/
def keyEq : AV → AV → Option Bool
  | .int k a, .int k' b => if k = k' then some (a == b) else none
  | .str a, .str b => some (a == b)
  | .bool a, .bool b => some (a == b)
  | _, _ => none

def mFind (k : AV) : List (AV × AV × Nat) → Nat → Option (Option (Nat × AV × Nat))
  | [], _ => some none
  | (k', v, b) :: es, i =>
    match keyEq k k' with
    | some true => some (some (i, v, b))
    | some false => mFind k es (i + 1)
    | none => none

def scalarKey (T : Nat → Option TI) (t : Nat) : AV → Bool
  | .int k _ => match T t with | some { k := .int k', .. } => k == k' | _ => false
  | .str _ => match T t with | some { k := .str, .. } => true | _ => false
  | _ => false

def aLookup (t : Nat) (x k : AV) (ok : Bool) : AM Delta :=
  match T t with
  | some { k := .map kt et, .. } =>
    if scalarKey T kt k then
      match T et with
      | some ei => match ei.z with
        | some z =>
          match x with
          | .mapn => .val (if ok then .tup [z, .bool false] else z)
          | .mp b => .rd b fun
            | .map es _ => match mFind k es 0 with
              | some (some (_, v, _)) => .val (if ok then .tup [v, .bool true] else v)
              | some none => .val (if ok then .tup [z, .bool false] else z)
              | none => .fail
            | _ => .fail
          | _ => .fail
        | none => .fail
      | none => .fail
    else .fail
  | _ => .fail

def aMapUpdate (t : Nat) (x k v : AV) : AM Delta :=
  match T t with
  | some { k := .map kt _, .. } =>
    if scalarKey T kt k ∧ v.refs = [] then
      match x with
      | .mp b => .rd b fun
        | .map es c => match mFind k es 0 with
          | some (some (i, _, born)) => .ret ⟨undefA, [(b, .map (es.set i (k, v, born)) c)], []⟩
          | some none => .ret ⟨undefA, [(b, .map (es ++ [(k, v, c)]) (c + 1))], []⟩
          | none => .fail
        | _ => .fail
      | _ => .fail
    else .fail
  | _ => .fail

def aMapEntry (t : Nat) (x k : AV) : AM Delta :=
  match T t with
  | some { k := .map kt et, .. } =>
    if scalarKey T kt k then
      match T et with
      | some ei => match ei.z with
        | some z => if z.refs = [] then
          match x with
          | .mp b => .rd b fun
            | .map es c => match mFind k es 0 with
              | some (some (i, v, born)) => .ret ⟨.tup [v, .int .i64 born], [(b, .map (es.set i (k, v, born)) c)], []⟩
              | some none => .ret ⟨.tup [z, .int .i64 c], [(b, .map (es ++ [(k, z, c)]) (c + 1))], []⟩
              | none => .fail
            | _ => .fail
          | _ => .fail
          else .fail
        | none => .fail
      | none => .fail
    else .fail
  | _ => .fail

def setBorn (born : Int) (v : AV) : List (AV × AV × Nat) → Option (List (AV × AV × Nat))
  | [] => none
  | (k, v', b) :: es => if (b : Int) == born then some ((k, v, b) :: es) else (setBorn born v es).map ((k, v', b) :: ·)

def aEntryStore (x s v : AV) : AM Delta :=
  match x, s with
  | .mp b, .int _ born => if v.refs = [] then .rd b fun
      | .map es c => match setBorn born v es with
        | some es' => .ret ⟨undefA, [(b, .map es' c)], []⟩
        | none => .fail
      | _ => .fail
    else .fail
  | _, _ => .fail

/-! operators -/
def aIntOp (op : BinOp) (k : IntKind) (a b : Int) : Option AV :=
  match op with
  | .add => some (.int k (k.wrap (a + b)))
  | .sub => some (.int k (k.wrap (a - b)))
  | .mul => some (.int k (k.wrap (a * b)))
  | .quo => if b = 0 then none else some (.int k (k.wrap (a.tdiv b)))
  | .rem => if b = 0 then none else some (.int k (a.tmod b))
  | .and => some (.int k (k.wrap (BitVec.ofInt k.bits a &&& BitVec.ofInt k.bits b).toNat))
  | .or => some (.int k (k.wrap (BitVec.ofInt k.bits a ||| BitVec.ofInt k.bits b).toNat))
  | .xor => some (.int k (k.wrap (BitVec.ofInt k.bits a ^^^ BitVec.ofInt k.bits b).toNat))
  | .andNot => some (.int k (k.wrap (BitVec.ofInt k.bits a &&& ~~~(BitVec.ofInt k.bits b)).toNat))
  | .eql => some (.bool (a == b))
  | .neq => some (.bool (a != b))
  | .lss => some (.bool (decide (a < b)))
  | .leq => some (.bool (decide (a ≤ b)))
  | .gtr => some (.bool (decide (a > b)))
  | .geq => some (.bool (decide (a ≥ b)))
  | _ => none

/-- '==' of two values of one cell, of the same scalar kind. -/
def scEq (T : Nat → Option TI) (t : Nat) : AV → AV → Option Bool
  | .int k a, .int k' b => match T t with | some { k := .int _, .. } => if k = k' then some (a == b) else none | _ => none
  | .str a, .str b => match T t with | some { k := .str, .. } => some (a == b) | _ => none
  | .bool a, .bool b => match T t with | some { k := .bool, .. } => some (a == b) | _ => none
  | _, _ => none

def fieldsEq (T : Nat → Option TI) : List (Nat × Nat) → List AV → List AV → Option Bool
  | [], _, _ => some true
  | (off, ft) :: fs, a, b =>
    match a[off]?, b[off]? with
    | some x, some y => match scEq T ft x y with
      | some true => fieldsEq T fs a b
      | some false => some false
      | none => none
    | _, _ => none

/-- Is it nil? -/
def nilK : TK → AV → Option Bool
  | .slice _, .nils => some true
  | .slice _, .emps => some false
  | .slice _, .inl _ _ => some false
  | .slice _, .ref _ _ _ _ _ _ => some false
  | .ptr _, .nilp => some true
  | .ptr _, .hp _ _ => some false
  | .map _ _, .mapn => some true
  | .map _ _, .mp _ => some false
  | .func, .nilf => some true
  | .func, .fn _ _ => some false
  | _, _ => none

def nilEq (k : TK) (x y : AV) : Option Bool :=
  match nilK k x, nilK k y with
  | some true, some b => some b
  | some false, some true => some false
  | _, _ => none

def aEq (t : Nat) (x y : AV) : Option Bool :=
  match T t with
  | none => none
  | some i =>
    match x, y with
    | .bool a, .bool b => if i.k = .bool then some (a == b) else none
    | .agg a, .agg b =>
      if i.cmp then
        match i.k with
        | .struct fs => fieldsEq T fs a b
        | .array n e => match T e with
          | some ei => fieldsEq T ((List.range' 0 n).map fun i => (i * ei.sz, e)) a b
          | none => none
        | _ => none
      else none
    | x, y => nilEq i.k x y

def aBin (op : BinOp) (t : Nat) (x y : AV) : Option AV :=
  match x, y with
  | .int k a, .int k' b =>
    match op with
    | .shl => if 0 ≤ b then some (.int k (k.wrap (a * 2 ^ (min b.toNat k.bits)))) else none
    | .shr => if 0 ≤ b then some (.int k (a.fdiv (2 ^ (min b.toNat k.bits)))) else none
    | _ => if k = k' then aIntOp op k a b else none
  | .str a, .str b =>
    match op with
    | .add => if a.size + b.size ≤ 9223372036854775807 then some (.str (a ++ b)) else none
    | .eql => some (.bool (a == b))
    | .neq => some (.bool (!(a == b)))
    | _ => none
  | x, y =>
    match op with
    | .eql => (aEq T t x y).map .bool
    | .neq => (aEq T t x y).map fun b => .bool !b
    | _ => none

def aUn (op : UnOp) (x : AV) : Option AV :=
  match op, x with
  | .neg, .int k n => some (.int k (k.wrap (0 - n)))
  | .not, .bool b => some (.bool !b)
  | .xor, .int k n => some (.int k (k.wrap (BitVec.ofInt k.bits (if k.signed then -1 else k.max) ^^^ BitVec.ofInt k.bits n).toNat))
  | _, _ => none

def u8s : List (List AV) → Option (List UInt8)
  | [] => some []
  | [.int .u8 n] :: r => (u8s r).map (UInt8.ofNat n.toNat :: ·)
  | _ => none

def aToStr (si : TI) (x : AV) : AM Delta :=
  match si.k with
  | .slice e => match T e with
    | some { k := .int .u8, .. } => (rowsOf 1 x).bind fun rows => match u8s rows with
      | some bs => .val (.str ⟨bs.toArray⟩)
      | none => .fail
    | _ => .fail
  | _ => .fail

def aConvert (src dst : Nat) (x : AV) : AM Delta :=
  match T src, T dst with
  | some si, some di =>
    match di.k with
    | .int k => match x with
      | .int _ q => .val (.int k (k.wrap q))
      | _ => .fail
    | .str => match x with
      | .str s => .val (.str s)
      | x => aToStr T si x
    | .slice e => match x with
      | .str s => match T e with
        | some { k := .int .u8, .. } => .val (.inl 1 (s.data.toList.map fun b => [.int .u8 b.toNat]))
        | _ => .fail
      | _ => .fail
    | _ => .fail
  | _, _ => .fail

/-! builtins -/
def aYs (ei xi : TI) (x : AV) : AM (List (List AV)) :=
  match xi.k, x with
  | .int _, .int _ q => match ei.z with
    | some z => if 0 ≤ q ∧ q * ei.bts ≤ 140737488355328 ∧ z.cells.length = ei.sz ∧ flatB z.cells then .ret (List.replicate q.toNat z.cells) else .fail
    | none => .fail
  | .int _, _ => .fail
  | _, .int _ _ => .fail
  | _, x => rowsOf ei.sz x

def aAppend (n : Nat) (st xt : Nat) (s x : AV) : AM Delta :=
  match T st with
  | some { k := .slice e, .. } =>
    match T e, T xt with
    | some ei, some xi =>
      if 0 < ei.sz ∧ 0 < ei.bts ∧ (ei.z.map (·.cells.length)) = some ei.sz then
        (aYs ei xi x).bind fun ys =>
        match s with
        | .nils => if ys.length = 0 then .val .nils else if ys.length * ei.bts ≤ 140737488355328 then .ret ⟨.ref ei.sz n 0 0 ys.length true, [], [.arr ei.sz ys 0 0 false]⟩ else .fail
        | .emps => if ys.length = 0 then .val .emps else if ys.length * ei.bts ≤ 140737488355328 then .ret ⟨.ref ei.sz n 0 0 ys.length true, [], [.arr ei.sz ys 0 0 false]⟩ else .fail
        | .inl sz rows => if ys.length = 0 then .val (.inl sz rows) else .fail
        | .ref sz b g i k full =>
          if ys.length = 0 then .val (.ref sz b g i k full) else
          if sz = ei.sz ∧ i = 0 ∧ full ∧ (k + ys.length) * ei.bts ≤ 140737488355328 then
            .rd b fun
            | .arr s' rows gen wgen ro =>
              if s' = sz ∧ g = gen ∧ k ≤ rows.length then
                if k = rows.length then .ret ⟨.ref sz b (gen + 1) 0 (k + ys.length) true, [(b, .arr sz (rows ++ ys) (gen + 1) wgen ro)], []⟩
                else if ro then .fail
                else if k + ys.length ≤ rows.length then .ret ⟨.ref sz b (gen + 1) 0 (k + ys.length) true, [(b, .arr sz (rows.take k ++ ys ++ rows.drop (k + ys.length)) (gen + 1) (gen + 1) false)], []⟩
                else .ret ⟨.ref sz b (gen + 1) 0 (k + ys.length) true, [(b, .arr sz (rows.take k ++ ys) (gen + 1) (gen + 1) false)], []⟩
              else .fail
            | _ => .fail
          else .fail
        | _ => .fail
      else .fail
    | _, _ => .fail
  | _ => .fail

def aCopyN (sz0 m : Nat) (d : AV) (ys : List (List AV)) : AM Delta :=
  if m = 0 then .val (.int .i64 0) else
  match d with
  | .ref sz b g i _ _ => .rd b fun
    | .arr s' rows gen _ ro => if sz = sz0 ∧ s' = sz ∧ g = gen ∧ ro = false ∧ i + m ≤ rows.length then
        .ret ⟨.int .i64 m, [(b, .arr sz (rows.take i ++ ys.take m ++ rows.drop (i + m)) gen gen false)], []⟩ else .fail
    | _ => .fail
  | _ => .fail

def isStr : AV → Bool
  | .str _ => true
  | _ => false

def aCopy (dt : Nat) (d s : AV) : AM Delta :=
  match T dt with
  | some { k := .slice e, .. } =>
    match T e with
    | some ei =>
      (rowsOf ei.sz s).bind fun ys =>
      match lenOf d with
      | none => .fail
      | some dn => if isStr d then .fail else aCopyN ei.sz (min ys.length dn) d ys
    | none => .fail
  | _ => .fail

def aClear (t : Nat) (x : AV) : AM Delta :=
  match T t with
  | some { k := .slice e, .. } =>
    match T e with
    | some ei => match ei.z with
      | some z =>
        match x with
        | .nils => .val undefA
        | .emps => .val undefA
        | .inl _ rows => if rows.length = 0 then .val undefA else .fail
        | .ref sz b g i n _ => if n = 0 then .val undefA else .rd b fun
          | .arr s' rows gen _ ro => if sz = ei.sz ∧ s' = sz ∧ g = gen ∧ ro = false ∧ i + n ≤ rows.length ∧ z.cells.length = sz ∧ flatB z.cells then
              .ret ⟨undefA, [(b, .arr sz (rows.take i ++ List.replicate n z.cells ++ rows.drop (i + n)) gen gen false)], []⟩ else .fail
          | _ => .fail
        | _ => .fail
      | none => .fail
    | none => .fail
  | _ => .fail

def aLen (t : Nat) (x : AV) : AM Delta :=
  match T t with
  | some { k := .str, .. } => match x with | .str s => .val (.int .i64 s.size) | _ => .fail
  | some { k := .slice _, .. } => match x with
    | .nils => .val (.int .i64 0)
    | .emps => .val (.int .i64 0)
    | .inl _ rows => .val (.int .i64 rows.length)
    | .ref _ _ _ _ n _ => .val (.int .i64 n)
    | _ => .fail
  | some { k := .map _ _, .. } => match x with
    | .mapn => .val (.int .i64 0)
    | .mp b => .rd b fun
      | .map es _ => .val (.int .i64 es.length)
      | _ => .fail
    | _ => .fail
  | some { k := .array n _, .. } => .val (.int .i64 n)
  | _ => .fail

def aCap (t : Nat) (x : AV) : AM Delta :=
  match T t with
  | some { k := .slice _, .. } => match x with
    | .nils => .val (.int .i64 0)
    | .emps => .val (.int .i64 0)
    | _ => .fail
  | _ => .fail

def aMin (op : Bool) : AV → AV → Option AV
  | .int k x, .int k' y => if k = k' then some (.int k (if op then (if y > x then y else x) else (if y < x then y else x))) else none
  | _, _ => none

def aDelete (t : Nat) (x k : AV) : AM Delta :=
  match T t with
  | some { k := .map kt _, .. } =>
    if scalarKey T kt k then
      match x with
      | .mapn => .val undefA
      | .mp b => .rd b fun
        | .map es c => match mFind k es 0 with
          | some (some (i, _, _)) => .ret ⟨undefA, [(b, .map (es.eraseIdx i) c)], []⟩
          | some none => .ret ⟨undefA, [(b, .map es c)], []⟩
          | none => .fail
        | _ => .fail
      | _ => .fail
    else .fail
  | _ => .fail

def aBuiltin (n : Nat) (b : Builtin) (ts : List Nat) (args : List AV) : AM Delta :=
  match b, ts, args with
  | .append, [st, xt], [s, x] => aAppend T n st xt s x
  | .copy, dt :: _, [d, s] => aCopy T dt d s
  | .clear, [t], [x] => aClear T t x
  | .len, [t], [x] => aLen T t x
  | .cap, [t], [x] => aCap T t x
  | .max, _, [x, y] => (AM.of (aMin true x y)).bind AM.val
  | .min, _, [x, y] => (AM.of (aMin false x y)).bind AM.val
  | .delete, t :: _, [x, k] => aDelete T t x k
  | _, _, _ => .fail

/-! ### Calls -/
abbrev CallT := Bool → Nat → List AV → List Blk → Option (AV × List Blk)

def borrowV : AV → AM (AV × List (Nat × Blk))
  | .ref sz b g i n _ => .rd b fun
    | .arr s rows gen wgen ro => if s = sz ∧ wgen ≤ g ∧ g ≤ gen ∧ i + n ≤ rows.length then .ret (.inl sz ((rows.drop i).take n), [(b, .arr s rows gen wgen true)]) else .fail
    | _ => .fail
  | v => .ret (v, [])

def borrowC : List AV → AM (List AV × List (Nat × Blk))
  | [] => .ret ([], [])
  | v :: l => (borrowV v).bind fun (v', b) => (borrowC l).bind fun (l', bs) => .ret (v' :: l', b ++ bs)

def borrowL : List AV → AM (List AV × List (Nat × Blk))
  | [] => .ret ([], [])
  | .agg c :: l => (borrowC c).bind fun (c', b) => (borrowL l).bind fun (l', bs) => .ret (.agg c' :: l', b ++ bs)
  | v :: l => (borrowV v).bind fun (v', b) => (borrowL l).bind fun (l', bs) => .ret (v' :: l', b ++ bs)

/-- What the ids reach: ids in the order met, with their blocks. -/
def reach : Nat → List Nat → List (Nat × Blk) → AM (List (Nat × Blk))
  | 0, [], acc => .ret acc
  | 0, _ :: _, _ => .fail
  | _ + 1, [], acc => .ret acc
  | k + 1, b :: todo, acc => if acc.any (·.1 == b) then reach k todo acc else .rd b fun x => reach k (todo ++ x.refs) (acc ++ [(b, x)])

def backId (ids : List Nat) (n i : Nat) : Nat := if i < ids.length then ids.getD i 0 else n + (i - ids.length)

def callOp (call : CallT) (brw frz : Bool) (n f : Nat) (args : List AV) : AM Delta :=
  (if brw then borrowL args else .ret (args, [])).bind fun (args, bw) =>
  (reach 64 (AV.refsL args) []).bind fun bs =>
  if bs ≠ [] ∧ bw ≠ [] then .fail else
  let ids := bs.map (·.1)
  match call frz f (AV.renL ids.idxOf args) (bs.map fun x => x.2.ren ids.idxOf) with
  | none => .fail
  | some (v, h) =>
    .ret ⟨v.ren (backId ids n),
      (if bw = [] ∨ (v.hasInl = false ∧ h = []) then [] else bw) ++ ids.zip ((h.take ids.length).map (Blk.ren (backId ids n))),
      (h.drop ids.length).map (Blk.ren (backId ids n))⟩

/-! ### One operation -/
def evA (t : List AV) : Operand → Option AV
  | .tmp n => some (t.getD n undefA)
  | .const v => ofVal v
  | .global _ => none
  | .func f => some (.fn f [])

def evL (t : List AV) : List Operand → Option (List AV)
  | [] => some []
  | x :: l => match evA t x, evL t l with
    | some v, some vs => some (v :: vs)
    | _, _ => none

def evP (t : List AV) : List (Nat × Operand) → Option (List (Nat × AV))
  | [] => some []
  | (i, x) :: l => match evA t x, evP t l with
    | some v, some vs => some ((i, v) :: vs)
    | _, _ => none

def evO (t : List AV) : Option Operand → Option (Option AV)
  | none => some none
  | some x => (evA t x).map some

def aop (call : CallT) (cfg : Nat → Bool × Bool) (n : Nat) (t : List AV) (o : Op) : AM Delta :=
  let one (x : Operand) (k : AV → AM Delta) : AM Delta := match evA t x with | some v => k v | none => .fail
  match o with
  | .move x | .assign x => one x .val
  | .pick c a b => one c fun c => match c with | .bool c => if c then one a .val else one b .val | _ => .fail
  | .alloc e => aAlloc T n e
  | .box _ x => one x (aBox n)
  | .build ty ps => match evP t ps.toList with | some ps => aBuild T ty ps | none => .fail
  | .buildSlice ty len ps => match evP t ps.toList with | some ps => aBuildSlice T n ty len ps | none => .fail
  | .load ty a => one a (aLoad T ty)
  | .store ty a x => one a fun a => one x (aStore T ty a)
  | .nilCheck x => one x fun v => match v with
    | .nilp => .fail
    | .nilf => .fail
    | v => .val v
  | .binOp op ty x y _ => one x fun x => one y fun y => (AM.of (aBin T op ty x y)).bind AM.val
  | .unOp op _ x => one x fun x => (AM.of (aUn op x)).bind AM.val
  | .convert s d x => one x (aConvert T s d)
  | .sliceToArrayPointer ty x => one x fun x => match T ty with
    | some { k := .array len e, .. } => match T e, x with
      | some ei, .inl sz rows => if sz = ei.sz ∧ sz = 1 ∧ len ≤ rows.length ∧ 0 < len then .val (.ip sz rows 0 0) else .fail
      | _, _ => .fail
    | _ => .fail
  | .makeFunc (.func f) first c => match first.toList, evL t c.toList with
    | [], some c => .val (.fn f c)
    | _, _ => .fail
  | .makeMap _ none => .ret ⟨.mp n, [], [.map [] 0]⟩
  | .makeSlice ty l c => one l fun l => one c (aMakeSlice T n ty l)
  | .slice ty x lo hi mx => one x fun x => match evO t lo, evO t hi, evO t mx with
    | some lo, some hi, some mx => aSlice T ty x lo hi mx
    | _, _, _ => .fail
  | .fieldAddr ty x f => one x fun x => aFieldAddr T ty x f
  | .field ty x f => one x fun x => aField T ty x f
  | .indexAddr ty x i => one x fun x => one i (aIndexAddr T ty x)
  | .index ty x i => one x fun x => one i (aIndex T ty x)
  | .lookup ty x i ok => one x fun x => one i fun i => aLookup T ty x i ok
  | .mapUpdate ty m k x => one m fun m => one k fun k => one x (aMapUpdate T ty m k)
  | .mapEntry ty m k => one m fun m => one k (aMapEntry T ty m)
  | .entryStore _ m s x => one m fun m => one s fun s => one x (aEntryStore m s)
  | .extract x i => one x fun x => match x with
    | .tup l => match l[i]? with | some v => .val v | none => .fail
    | _ => .fail
  | .call c => match c.callee with
    | .builtin b => match evL t c.args.toList with | some args => aBuiltin T n b c.argTypes.toList args | none => .fail
    | .value f => one f fun f => match f, evL t c.args.toList with
      | .fn f cs, some args => callOp call (cfg f).1 (cfg f).2 n f (args ++ cs)
      | _, _ => .fail
    | _ => .fail
  | _ => .fail

structure St where
  t : List AV
  h : List Blk

def putA (t : List AV) : Option Nat → AV → List AV
  | some d, v => t.set d v
  | none, _ => t

def upd (h : List Blk) : List (Nat × Blk) → List Blk
  | [] => h
  | (b, x) :: l => upd (h.set b x) l

def wantedA (ops : List Oper) (t : List AV) (o : Oper) : Bool :=
  match o.guard with
  | none => true
  | some (j, want) => match (ops[j]?).bind (·.dst) with
    | some d => match t[d]? with
      | some (.bool b) => b == want
      | _ => false
    | none => false

def St.after (st : St) (dst : Option Nat) (δ : Delta) : St := ⟨putA st.t dst δ.v, upd st.h δ.up ++ δ.nw⟩

/-- One operation, where it is wanted. -/
def stepF (call : CallT) (cfg : Nat → Bool × Bool) (ops : List Oper) (n : Nat) (t : List AV) (h : Nat → Option Blk) (o : Oper) : Option (Delta × List Nat) :=
  if wantedA ops t o then (aop T call cfg n t o.op).run h else some (⟨undefA, [], []⟩, [])

/-- Changes are of blocks that are there. -/
def upOk (n : Nat) (δ : Delta) : Bool := δ.up.all fun p => decide (p.1 < n)

def runOps (call : CallT) (cfg : Nat → Bool × Bool) (ops : List Oper) : List Oper → St → Option St
  | [], st => some st
  | o :: rest, st =>
    match stepF T call cfg ops st.h.length st.t (st.h[·]?) o with
    | some (δ, _) => if upOk st.h.length δ then runOps call cfg ops rest (st.after o.dst δ) else none
    | none => none

/-- What an operation did: where its new blocks lie, what it yields, what it read. -/
structure Rec where
  n : Nat
  dst : Option Nat
  δ : Delta
  l : List Nat

def runOpsD (call : CallT) (cfg : Nat → Bool × Bool) (ops : List Oper) : List Oper → St → Option (St × List Rec)
  | [], st => some (st, [])
  | o :: rest, st =>
    match stepF T call cfg ops st.h.length st.t (st.h[·]?) o with
    | some (δ, l) => if upOk st.h.length δ then match runOpsD call cfg ops rest (st.after o.dst δ) with
        | some (st', rs) => some (st', ⟨st.h.length, o.dst, δ, l⟩ :: rs)
        | none => none
      else none
    | none => none

/-- The temporaries that an operation looks at. -/
def looks (ops : List Oper) (o : Oper) : List Nat :=
  (o.op.operands.toList.filterMap fun | .tmp t => some t | _ => none) ++
  (match o.guard with
   | some (g, _) => ((ops[g]?).bind (·.dst)).toList
   | none => [])

/-- What an operation touches: what it reads, what it writes (new blocks as well); its temporaries. -/
structure Foot where
  r : List Nat
  w : List Nat
  tr : List Nat
  tw : List Nat

def footOf (ops : List Oper) (o : Oper) (x : Rec) : Foot := ⟨x.l, x.δ.up.map (·.1) ++ List.range' x.n x.δ.nw.length, looks ops o, x.dst.toList⟩

def feet (ops : List Oper) : List Oper → List Rec → List Foot
  | o :: l, x :: xs => footOf ops o x :: feet ops l xs
  | _, _ => []

def disj (a b : List Nat) : Bool := a.all fun x => !b.contains x

def Foot.apart (x y : Foot) : Bool := disj x.w y.w && disj x.w y.r && disj x.r y.w && disj x.tw y.tw && disj x.tw y.tr && disj x.tr y.tw

/-- Which operations come ahead of one, by the edges that bind: a number's bits. -/
def befOne (acc : List Nat) (o : Oper) : Nat := o.after.toList.foldl (fun s e => if Region.binds .any e then s ||| 2 ^ e.on ||| acc.getD e.on 0 else s) 0
def befs : List Oper → List Nat → List Nat
  | [], acc => acc
  | o :: l, acc => befs l (acc ++ [befOne acc o])

/-- Whatever two operations wait for each other in no way are apart. -/
def feetOk (before : List Nat) (fs : List Foot) : Bool :=
  (List.range fs.length).all fun j => (List.range j).all fun i =>
    (before.getD j 0).testBit i || match fs[i]?, fs[j]? with
      | some x, some y => x.apart y
      | _, _ => true

/-- What binds an operation stands ahead of it. -/
def edgesOk : Nat → List Oper → Bool
  | _, [] => true
  | k, o :: l => o.after.toList.all (fun e => !Region.binds .any e || decide (e.on < k)) && edgesOk (k + 1) l

inductive AX where
  | normal
  | exit (id : Nat)
  | ret
  deriving DecidableEq, Inhabited

def runRegion (call : CallT) (cfg : Nat → Bool × Bool) (ops : Array Oper) (draw : Bool) (st : St) : Option St :=
  if draw then
    match runOpsD T call cfg ops.toList ops.toList st with
    | some (st', rs) => if edgesOk 0 ops.toList && feetOk (befs ops.toList []) (feet ops.toList ops.toList rs) then some st' else none
    | none => none
  else runOps T call cfg ops.toList ops.toList st

def iter : Nat → (St → Option (AX × St)) → St → Option (AX × St)
  | 0, _, _ => none
  | n + 1, f, st => match f st with
    | some (.normal, st') => iter n f st'
    | r => r

def exec (call : CallT) (cfg : Nat → Bool × Bool) (it : Nat) : Code → St → Option (AX × St)
  | .skip, st => some (.normal, st)
  | .label _, st => some (.normal, st)
  | .region _ ops draw, st => match runRegion T call cfg ops draw st with
    | some st' => some (.normal, st')
    | none => none
  | .seq a b, st => match exec call cfg it a st with
    | some (.normal, st') => exec call cfg it b st'
    | r => r
  | .cond c a b, st => match evA st.t c with
    | some (.bool x) => if x then exec call cfg it a st else exec call cfg it b st
    | _ => none
  | .block id c, st => match exec call cfg it c st with
    | some (.exit i, st') => if i = id then some (.normal, st') else some (.exit i, st')
    | r => r
  | .loop c, st => iter it (exec call cfg it c) st
  | .exit id, st => some (.exit id, st)
  | .ret, st => some (.ret, st)
  | _, _ => none

/-! ### A function -/
def resVal (st : St) : ResultVar → Option AV
  | .tmp t => some (st.t.getD t undefA)
  | .cell a ty => match T ty, st.t.getD a undefA with
    | some i, .hp b o => match st.h[b]? with
      | some (.row c) => if o + i.sz ≤ c.length then mkVal i.isAgg ((c.drop o).take i.sz) else none
      | _ => none
    | _, _ => none

def resVals (st : St) : List ResultVar → Option (List AV)
  | [] => some []
  | r :: l => match resVal T st r, resVals st l with
    | some v, some vs => some (v :: vs)
    | _, _ => none

def resTup : List AV → AV
  | [v] => v
  | l => .tup l

mutual
def frzV (h : List Blk) (m : Nat) : AV → Option AV
  | .ref sz b g i n full => if b < m then some (.ref sz b g i n full) else
    match h[b]? with
    | some (.arr s rows gen wgen _) => if s = sz ∧ wgen ≤ g ∧ g ≤ gen ∧ i + n ≤ rows.length then some (.inl sz ((rows.drop i).take n)) else none
    | _ => none
  | .agg l => match frzL h m l with | some l => some (.agg l) | none => none
  | .tup l => match frzL h m l with | some l => some (.tup l) | none => none
  | v => some v
def frzL (h : List Blk) (m : Nat) : List AV → Option (List AV)
  | [] => some []
  | v :: l => match frzV h m v, frzL h m l with
    | some v, some l => some (v :: l)
    | _, _ => none
end

def frzBs (h : List Blk) (m : Nat) : List Blk → Option (List Blk)
  | [] => some []
  | .row c :: l => match frzL h m c, frzBs h m l with
    | some c, some l => some (.row c :: l)
    | _, _ => none
  | b :: l => match frzBs h m l with
    | some l => some (b :: l)
    | none => none

/-- The new blocks that are reached, in the order met. -/
def newIds (h : List Blk) (m : Nat) : Nat → List Nat → List Nat → Option (List Nat)
  | _, [], acc => some acc
  | 0, _ :: _, _ => none
  | k + 1, b :: todo, acc => if b < m ∨ acc.contains b then newIds h m k todo acc else
    match h[b]? with
    | some x => newIds h m k (todo ++ x.refs) (acc ++ [b])
    | none => none

def backN (m : Nat) (new : List Nat) (b : Nat) : Nat := if b < m then b else m + new.idxOf b

def isArr : Option Blk → Bool
  | some (.arr _ _ _ _ _) => true
  | _ => false

def final (m : Nat) (frz : Bool) (v : AV) (h : List Blk) : Option (AV × List Blk) :=
  if h.length < m then none else
  match (if frz then frzV h m v else some v), (if frz then frzBs h m (h.take m) else some (h.take m)) with
  | some v, some kept =>
    match newIds h m 64 (v.refs ++ kept.flatMap Blk.refs) [] with
    | some new => if frz && new.any (fun b => isArr h[b]?) then none else
      some (v.ren (backN m new), kept.map (Blk.ren (backN m new)) ++ new.map fun b => ((h[b]?).getD (.row [])).ren (backN m new))
    | none => none
  | _, _ => none

/-- Functions; those that are taken by a law of their own ('I'); how a caller's calls are made ('C': borrow, freeze). -/
structure Prg where
  F : Nat → Option Func
  I : Nat → Option (Bool → List AV → List Blk → Option (AV × List Blk))
  C : Nat → Nat → Bool × Bool

def acall (p : Prg) : Nat → CallT
  | 0 => fun _ _ _ _ => none
  | k + 1 => fun frz f args h =>
    match p.I f with
    | some g => g frz args h
    | none =>
      match p.F f with
      | none => none
      | some fn =>
        match fn.body with
        | none => none
        | some c =>
          match exec T (acall p k) (p.C f) k c ⟨args ++ List.replicate (fn.ntmps - args.length) undefA, h⟩ with
          | some (.exit _, _) => none
          | some (_, st) => match resVals T st fn.results.toList with
            | some vs => final h.length frz (resTup vs) st.h
            | none => none
          | none => none

end
end Go.Ws
