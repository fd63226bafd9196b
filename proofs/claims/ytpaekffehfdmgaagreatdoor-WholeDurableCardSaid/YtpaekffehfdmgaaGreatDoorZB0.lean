/-
  The abstract machine and its soundness, part 0.
  Conditions: none.
-/
import Derived.Calls
import Derived.Laws.AppendOwn
import Derived.Laws.Cells
import Derived.Laws.StructEq
import Derived.Laws.BytesArg
import Derived.MapKept
set_option linter.unusedVariables false
set_option linter.unusedSimpArgs false
namespace Go.Ws

inductive Fl where
 | part | full | virt
 deriving DecidableEq,Inhabited

def Fl.whole:Fl→Bool
 | .part=>false
 | _=>true

inductive AV where
 | bool (b:Bool)
 | int (k:IntKind) (n:Int)
 | str (s:ByteArray)
 | nilp
 | hp (b o:Nat)
 | ep (sz b g i j:Nat)
 | ip (sz:Nat) (rows:List (List AV)) (i j:Nat)
 | nils
 | emps
 | any
 | inl (sz:Nat) (rows:List (List AV))
 | sl (sz:Nat) (rows:List (List AV))
 | ref (sz b g i n:Nat) (flg:Fl)
 | mapn
 | mp (b:Nat)
 | fn (f:Nat) (c:List AV)
 | ps (c:List AV)
 | pp (c:List AV) (i:Nat)
 | raw (a:Addr)
 | fm (ks vs:List AV) (bs:List Nat) (cl:Nat)
 | nilf
 | agg (l:List AV)
 | tup (l:List AV)
 deriving Inhabited

inductive Blk where
 | row (c:List AV)
 | arr (sz:Nat) (rows:List (List AV)) (gen wgen:Nat) (ro:Bool)
 | map (es:List (AV × AV × Nat)) (clock:Nat)
 | none
 deriving Inhabited

def dD:AV:=.tup []

inductive TK where
 | bool | int (k:IntKind) | str | ptr (e:Nat) | slice (e:Nat) | array (n e:Nat) | map (k e:Nat) | struct (fs:List (Nat × Nat)) | func | other
 deriving Inhabited,DecidableEq

structure TI where
 k:TK
 sz:Nat
 bts:Nat
 z:Option AV
 cmp:Bool
 deriving Inhabited

def pP:Value→Option AV
 | .bool b=>some (.bool b)
 | .int k n=>some (.int k n)
 | .string s=>some (.str s)
 | .pointer none=>some .nilp
 | .slice none 0 0=>some .nils
 | .map none=>some .mapn
 | .nilFunc=>some .nilf
 | _=>none

def zG:Value→Option AV
 | .agg cs=>(cs.toList.mapM pP).map .agg
 | .tuple cs=>(cs.toList.mapM pP).map .tup
 | v=>pP v

def oS:TypeDesc→TK
 | .bool=>.bool
 | .int k=>.int k
 | .string=>.str
 | .pointer e=>.ptr e
 | .slice e=>.slice e
 | .array n e=>.array n e
 | .map k e=>.map k e
 | .struct fs=>.struct (fs.toList.map fun f=>(f.offset,f.type))
 | .func _ _ _=>.func
 | _=>.other

def aG9:TypeDesc→Bool
 | .struct fs => fs.toList.all fun f => f.name != "_"
 | _=>true

def dS (P:Program) (t:Nat):Option TI :=
 match P.underlying t,P.info? t with
 | some d,some i=>some { k:=oS d,sz:=i.size,bts:=i.bytes,z:=i.zero.bind zG,cmp:=!P.eqGuardType P.depth t && !P.stoodInHeld t && aG9 d }
 | _,_=>none

def TI.isAgg (i:TI):Bool:=match i.k with | .struct _ | .array _ _=>true | _=>false

inductive AM (α:Type) where
 | ret (a:α)
 | fail
 | rd (b:Nat) (k:Blk→AM α)

def AM.bind {α β:Type}:AM α→(α→AM β)→AM β
 | .ret a,f=>f a
 | .fail,_=>.fail
 | .rd b k,f=>.rd b fun x=>(k x).bind f

instance:Monad AM where
 pure:=AM.ret
 bind:=AM.bind

def AM.run {α:Type} (h:Nat→Option Blk):AM α→Option (α × List Nat)
 | .ret a=>some (a,[])
 | .fail=>none
 | .rd b k=>match h b with
  | none=>none
  | some x=>match (k x).run h with
   | none=>none
   | some (a,l)=>some (a,b::l)

def AM.of {α:Type}:Option α→AM α
 | some a=>.ret a
 | none=>.fail

structure Delta where
 v:AV
 up:List (Nat × Blk)
 nw:List Blk

def AM.val (v:AV):AM Delta:=.ret ⟨v,[],[]⟩

def fR (sz:Nat) (rows:List (List AV)) (i j k:Nat):Option (List AV) :=
 if j+k≤sz then
  match rows[i]? with
  | some r=>some ((r.drop j).take k)
  | none=>none
 else if sz=1∧j=0∧i+k≤rows.length then some ((rows.drop i).take k).flatten
 else none

def AV.cells:AV→List AV
 | .agg l=>l
 | v=>[v]

def AV.one:AV→Bool
 | .agg _=>false
 | .tup _=>false
 | .any=>false
 | _=>true

def xC (agg:Bool) (l:List AV):Option AV :=
 if agg then some (.agg l) else match l with
  | [v]=>some v
  | _=>none

def tE (l:List AV) (o:Nat) (v:List AV):List AV:=l.take o++v++l.drop (o+v.length)

mutual
def AV.refs:AV→List Nat
 | .hp b _=>[b]
 | .ep _ b _ _ _=>[b]
 | .ref _ b _ _ _ _=>[b]
 | .mp b=>[b]
 | .fn _ c=>AV.refsL c
 | .ps c=>AV.refsL c
 | .pp c _=>AV.refsL c
 | .agg l=>AV.refsL l
 | .tup l=>AV.refsL l
 | _=>[]
def AV.refsL:List AV→List Nat
 | []=>[]
 | v::l=>v.refs++AV.refsL l
end

def oH (l:List AV):Bool:=l.all AV.one && (AV.refsL l).isEmpty

mutual
def AV.hasInl:AV→Bool
 | .ip _ _ _ _=>true
 | .inl _ _=>true
 | .sl _ _=>true
 | .ps _=>true
 | .pp _ _=>true
 | .fm _ _ _ _=>true
 | .fn _ c=>AV.hasInlL c
 | .agg l=>AV.hasInlL l
 | .tup l=>AV.hasInlL l
 | _=>false
def AV.hasInlL:List AV→Bool
 | []=>false
 | v::l=>v.hasInl || AV.hasInlL l
end

mutual
def AV.ren (r:Nat→Nat):AV→AV
 | .hp b o=>.hp (r b) o
 | .ep sz b g i j=>.ep sz (r b) g i j
 | .ref sz b g i n f=>.ref sz (r b) g i n f
 | .mp b=>.mp (r b)
 | .fn f c=>.fn f (AV.renL r c)
 | .ps c=>.ps (AV.renL r c)
 | .pp c i=>.pp (AV.renL r c) i
 | .agg l=>.agg (AV.renL r l)
 | .tup l=>.tup (AV.renL r l)
 | v=>v
def AV.renL (r:Nat→Nat):List AV→List AV
 | []=>[]
 | v::l=>v.ren r::AV.renL r l
end

def Blk.ren (r:Nat→Nat):Blk→Blk
 | .row c=>.row (AV.renL r c)
 | b=>b

def Blk.refs:Blk→List Nat
 | .row c=>AV.refsL c
 | _=>[]

def AV.canS (sz:Nat):AV→AV
 | .nils=>.sl sz []
 | .emps=>.sl sz []
 | .inl s rows=>.sl s rows
 | v=>v

def pE (sz:Nat):AV→AM (List (List AV))
 | .nils=>.ret []
 | .emps=>.ret []
 | .inl s rows=>if s=sz then .ret rows else .fail
 | .sl s rows=>if s=sz then .ret rows else .fail
 | .ref s b g i n _=>if s=sz then .rd b fun
  | .arr s' rows gen wgen _=>if s'=sz∧wgen≤g∧g≤gen∧i+n≤rows.length then .ret ((rows.drop i).take n) else .fail
  | _=>.fail
  else .fail
 | .str s=>if sz=1 then .ret (s.data.toList.map fun b=>[.int .u8 b.toNat]) else .fail
 | _=>.fail

def lenOf:AV→Option Nat
 | .nils=>some 0
 | .emps=>some 0
 | .inl _ rows=>some rows.length
 | .sl _ rows=>some rows.length
 | .ref _ _ _ _ n _=>some n
 | .str s=>some s.size
 | _=>none

section
variable (T:Nat→Option TI)

def aKC (n t:Nat):AM Delta :=
 match T t with
 | some i=>match i.z with
  | some z=>if z.cells.all AV.one then .ret ⟨.hp n 0,[],[.row z.cells]⟩ else .fail
  | none=>.fail
 | none=>.fail

def aBox (n:Nat) (v:AV):AM Delta:=if v.cells.all AV.one then .ret ⟨.hp n 0,[],[.row v.cells]⟩ else .fail

def aDY (t:Nat) (p:AV):AM Delta :=
 match T t with
 | none=>.fail
 | some i =>
  match p with
  | .hp b o=>.rd b fun
   | .row c=>if o+i.sz≤c.length then (AM.of (xC i.isAgg ((c.drop o).take i.sz))).bind AM.val else .fail
   | _=>.fail
  | .ep sz b g r j=>.rd b fun
   | .arr s rows gen wgen _=>if s=sz∧wgen≤g∧g≤gen∧j+i.sz≤sz then (AM.of ((fR sz rows r j i.sz).bind (xC i.isAgg))).bind AM.val else .fail
   | _=>.fail
  | .ip sz rows r j=>(AM.of ((fR sz rows r j i.sz).bind (xC i.isAgg))).bind AM.val
  | .pp c r=>if i.sz=1 then (AM.of ((c[r]?).bind fun v=>xC i.isAgg [v])).bind AM.val else .fail
  | _=>.fail

def aAT (t:Nat) (p v:AV):AM Delta :=
 match T t with
 | none=>.fail
 | some i =>
  if v.cells.length=i.sz∧v.cells.all AV.one then
   match p with
   | .hp b o=>.rd b fun
    | .row c=>if o+i.sz≤c.length then .ret ⟨dD,[(b,.row (tE c o v.cells))],[]⟩ else .fail
    | _=>.fail
   | .ep sz b g r j=>.rd b fun
    | .arr s rows gen _ ro=>if s=sz∧g=gen∧ro=false∧j+i.sz≤sz∧oH v.cells then
     match rows[r]? with
     | some row=>.ret ⟨dD,[(b,.arr s (rows.set r (tE row j v.cells)) gen gen false)],[]⟩
     | none=>.fail
     else .fail
    | _=>.fail
   | _=>.fail
  else .fail

def yG (t:Nat) (p:AV) (f:Nat):AM Delta :=
 match T t with
 | some { k:=.struct fs,.. } =>
  match fs[f]? with
  | some (off,ft)=>match T ft with
   | some fi=>if fi.sz=0 then .fail else
    match p with
    | .hp b o=>.val (.hp b (o+off))
    | .ep sz b g i j=>.val (.ep sz b g i (j+off))
    | .ip sz rows i j=>.val (.ip sz rows i (j+off))
    | _=>.fail
   | none=>.fail
  | none=>.fail
 | _=>.fail

def g6 (t:Nat) (x ix:AV):AM Delta :=
 match T t,ix with
 | some { k:=.slice e,.. },.int _ q =>
  match T e with
  | some ei=>match x with
   | .inl sz rows=>if sz=ei.sz∧0≤q∧q<rows.length then .val (.ip sz rows q.toNat 0) else .fail
   | .sl sz rows=>if sz=ei.sz∧0≤q∧q<rows.length then .val (.ip sz rows q.toNat 0) else .fail
   | .ref sz b g i n _=>if sz=ei.sz∧0≤q∧q<n then .val (.ep sz b g (i+q.toNat) 0) else .fail
   | .ps c=>if ei.sz=1∧0≤q∧q<c.length then .val (.pp c q.toNat) else .fail
   | _=>.fail
  | none=>.fail
 | some { k:=.array len e,.. },.int _ q =>
  match T e with
  | some ei=>if 0≤q∧q<len then
   match x with
   | .hp b o=>.val (.hp b (o+q.toNat*ei.sz))
   | .ep sz b g i j=>.val (.ep sz b g i (j+q.toNat*ei.sz))
   | .ip sz rows i j=>.val (.ip sz rows i (j+q.toNat*ei.sz))
   | _=>.fail
   else .fail
  | none=>.fail
 | _,_=>.fail

def aKV (t:Nat) (x ix:AV):AM Delta :=
 match T t,x,ix with
 | some { k:=.str,.. },.str s,.int _ q =>
  if 0≤q then match s[q.toNat]? with
   | some b=>.val (.int .u8 b.toNat)
   | none=>.fail
  else .fail
 | some { k:=.array len e,.. },.agg l,.int _ q =>
  match T e with
  | some ei=>if 0≤q∧q<len then
   (AM.of (if ei.isAgg then some (.agg ((l.drop (q.toNat*ei.sz)).take ei.sz)) else l[q.toNat*ei.sz]?)).bind AM.val
   else .fail
  | none=>.fail
 | _,_,_=>.fail

def aK2 (t:Nat) (x:AV) (f:Nat):AM Delta :=
 match T t,x with
 | some { k:=.struct fs,.. },.agg l =>
  match fs[f]? with
  | some (off,ft)=>match T ft with
   | some fi=>(AM.of (if fi.isAgg then some (.agg ((l.drop off).take fi.sz)) else l[off]?)).bind AM.val
   | none=>.fail
  | none=>.fail
 | _,_=>.fail

def bY (x:Option AV) (d:Nat) (top:Nat):Option Nat :=
 match x with
 | none=>some d
 | some (.int _ q)=>if 0≤q∧q≤top then some q.toNat else none
 | some _=>none

def nS (t:Nat) (x:AV) (lo hi mx:Option AV):AM Delta :=
 match T t with
 | some { k:=.str,.. } =>
  match x,mx with
  | .str s,none=>(AM.of ((bY hi s.size s.size).bind fun h=>(bY lo 0 h).bind fun l=>some (AV.str (s.extract l h)))).bind AM.val
  | _,_=>.fail
 | some { k:=.slice e,.. } =>
  match T e with
  | none=>.fail
  | some ei =>
   match x with
   | .nils=>(AM.of ((bY mx 0 0).bind fun m=>(bY hi 0 m).bind fun h=>(bY lo 0 h).bind fun _=>if mx.isSome && hi.isNone then none else some AV.nils)).bind AM.val
   | .emps=>(AM.of ((bY mx 0 0).bind fun m=>(bY hi 0 m).bind fun h=>(bY lo 0 h).bind fun _=>if mx.isSome && hi.isNone then none else some AV.emps)).bind AM.val
   | .inl sz rows=>if sz=ei.sz then
    (AM.of ((bY mx rows.length rows.length).bind fun m=>(bY hi rows.length m).bind fun h=>(bY lo 0 h).bind fun l =>
     if mx.isSome && hi.isNone then none else some (if mx.isSome && m == l then AV.emps else AV.sl sz ((rows.drop l).take (h - l))))).bind AM.val
    else .fail
   | .sl sz rows=>if sz=ei.sz then
    (AM.of ((bY mx rows.length rows.length).bind fun m=>(bY hi rows.length m).bind fun h=>(bY lo 0 h).bind fun l =>
     if mx.isSome && hi.isNone then none else some (if mx.isSome && m == l then AV.emps else AV.sl sz ((rows.drop l).take (h - l))))).bind AM.val
    else .fail
   | .ref sz b g i n flg=>if sz=ei.sz then
    if flg = .virt∧n=0 then
     (AM.of ((bY mx ([]:List (List AV)).length ([]:List (List AV)).length).bind fun m=>(bY hi ([]:List (List AV)).length m).bind fun h=>(bY lo 0 h).bind fun l=>if mx.isSome && hi.isNone then none else some (if mx.isSome && m == l then AV.emps else AV.sl sz ((([]:List (List AV)).drop l).take (h - l))))).bind AM.val
    else
    match mx with
    | none=>.rd b fun
     | .arr _ rows gen _ _=>if g=gen∧flg.whole∧i+n≤rows.length then
      (AM.of ((bY hi n (rows.length - i)).bind fun h=>(bY lo 0 h).bind fun l=>some (AV.ref sz b g (i+l) (h - l) (if lo.isNone then flg else .full)))).bind AM.val
      else
       (AM.of ((bY hi n n).bind fun h=>(bY lo 0 h).bind fun l=>some (AV.ref sz b g (i+l) (h - l) .part))).bind AM.val
     | _=>.fail
    | some _=>(AM.of ((bY mx n n).bind fun m=>(bY hi n m).bind fun h=>(bY lo 0 h).bind fun l =>
     if hi.isNone then none else some (if m=l then AV.emps else AV.ref sz b g (i+l) (h - l) .part))).bind AM.val
    else .fail
   | _=>.fail
 | _=>.fail

def mP (n t:Nat) (len cap:AV):AM Delta :=
 match T t,len,cap with
 | some { k:=.slice e,.. },.int _ l,.int _ c =>
  match T e with
  | some ei=>match ei.z with
   | some z=>if l=c∧0≤l∧l*ei.bts≤140737488355328∧0<ei.bts∧z.cells.length=ei.sz∧0<ei.sz∧oH z.cells then
    if l=0 then .val .emps else .ret ⟨.ref ei.sz n 0 0 l.toNat .full,[],[.arr ei.sz (List.replicate l.toNat z.cells) 0 0 false]⟩
    else .fail
   | none=>.fail
  | none=>.fail
 | _,_,_=>.fail

def nW:List (Nat × Nat)→List AV→List AV
 | [],l=>l
 | (i,sz)::vs,l=>nW vs (match l[i]? with | some v=>l.set i (v.canS sz) | none=>l)

def rB (vs:List (Nat × Nat)):AV→AV
 | .agg l=>.agg (nW vs l)
 | v=>match vs with
  | []=>v
  | (_,sz)::_=>v.canS sz

def iP (T:Nat→Option TI):Nat→Nat→Nat→List (Nat × Nat)
 | 0,_,_=>[]
 | q+1,t,o=>match T t with
  | some { k:=.slice e,.. }=>match T e with
   | some ei=>[(o,ei.sz)]
   | none=>[]
  | some { k:=.struct fs,.. }=>fs.flatMap fun p=>iP T q p.2 (o+p.1)
  | _=>[]

def aGZ (sz:Nat):List (Nat × AV)→List (List AV)→Option (List (List AV))
 | [],rows=>some rows
 | (i,v)::rest,rows=>if v.cells.length=sz∧i<rows.length∧oH v.cells then aGZ sz rest (rows.set i v.cells) else none

def aCO:List (Nat × AV)→List AV→Option (List AV)
 | [],c=>some c
 | (i,v)::rest,c=>if v.one=true∧i<c.length then aCO rest (c.set i v) else none

def tF (n t len:Nat) (parts:List (Nat × AV)):AM Delta :=
 match T t with
 | some { k:=.slice e,.. } =>
  match T e with
  | some ei=>match ei.z.map (fun z=>nW (iP T 4 e 0) z.cells) with
   | some z=>if z.length=ei.sz∧0<ei.sz∧len*ei.sz≤16777216∧oH z then
    match aGZ ei.sz (parts.map fun p=>(p.1,rB (iP T 4 e 0) p.2)) (List.replicate len z) with
    | some rows=>if len=0 then .val .emps else .ret ⟨.ref ei.sz n 0 0 len .full,[],[.arr ei.sz rows 0 0 false]⟩
    | none=>match aCO parts (List.replicate len (z.headD dD)) with
     | some c=>if len=0∨ei.sz≠1 then .fail else .val (.ps c)
     | none=>.fail
    else .fail
   | none=>.fail
  | none=>.fail
 | _=>.fail

def aIV (place:Nat→Option (Nat × Nat)) (cells:List AV):List (Nat × AV)→Option (List AV)
 | []=>some cells
 | (i,v)::rest=>match place i with
  | none=>none
  | some (off,size)=>if v.cells.length=size∧off+size≤cells.length∧v.cells.all AV.one then aIV place (tE cells off v.cells) rest else none

def aKO (t:Nat) (parts:List (Nat × AV)):AM Delta :=
 match T t with
 | some { k:=.struct fs,z:=some z,.. } =>
  match fs.mapM (fun (f:Nat × Nat)=>(T f.2).map fun fi=>(f.1,fi.sz)) with
  | some places=>(AM.of ((aIV (places[·]?) z.cells parts).map .agg)).bind AM.val
  | none=>.fail
 | some { k:=.array _ e,z:=some z,.. } =>
  match T e with
  | some ei=>(AM.of ((aIV (fun i=>some (i*ei.sz,ei.sz)) z.cells parts).map .agg)).bind AM.val
  | none=>.fail
 | _=>.fail

def keyEq:AV→AV→Option Bool
 | .int k a,.int k' b=>if k=k' then some (a == b) else none
 | .str a,.str b=>some (a == b)
 | .bool a,.bool b=>some (a == b)
 | _,_=>none

def o6 (k:AV):List (AV × AV × Nat)→Nat→Option (Option (Nat × AV × Nat))
 | [],_=>some none
 | (k',v,b)::es,i =>
  match keyEq k k' with
  | some true=>some (some (i,v,b))
  | some false=>o6 k es (i+1)
  | none=>none

def iD (T:Nat→Option TI) (t:Nat):AV→Bool
 | .int k _=>match T t with | some { k:=.int k',.. }=>k == k' | _=>false
 | .str _=>match T t with | some { k:=.str,.. }=>true | _=>false
 | _=>false

def uG (t:Nat) (x k:AV) (ok:Bool):AM Delta :=
 match T t with
 | some { k:=.map kt et,.. } =>
  if iD T kt k then
   match T et with
   | some ei=>match ei.z.map (rB (iP T 4 et 0)) with
    | some z =>
     match x with
     | .mapn=>.val (if ok then .tup [z,.bool false] else z)
     | .mp b=>.rd b fun
      | .map es _=>match o6 k es 0 with
       | some (some (_,v,_))=>.val (if ok then .tup [v,.bool true] else v)
       | some none=>.val (if ok then .tup [z,.bool false] else z)
       | none=>.fail
      | _=>.fail
     | _=>.fail
    | none=>.fail
   | none=>.fail
  else .fail
 | _=>.fail

def mX (t:Nat) (x k v:AV):AM Delta :=
 match T t with
 | some { k:=.map kt _,.. } =>
  if iD T kt k∧v.refs=[] then
   match x with
   | .mp b=>.rd b fun
    | .map es c=>match o6 k es 0 with
     | some (some (i,_,born))=>.ret ⟨dD,[(b,.map (es.set i (k,v,born)) c)],[]⟩
     | some none=>.ret ⟨dD,[(b,.map (es++[(k,v,c)]) (c+1))],[]⟩
     | none=>.fail
    | _=>.fail
   | _=>.fail
  else .fail
 | _=>.fail

def oT (t:Nat) (x k:AV):AM Delta :=
 match T t with
 | some { k:=.map kt et,.. } =>
  if iD T kt k then
   match T et with
   | some ei=>match ei.z.map (rB (iP T 4 et 0)) with
    | some z=>if z.refs=[] then
     match x with
     | .mp b=>.rd b fun
      | .map es c=>match o6 k es 0 with
       | some (some (i,v,born))=>.ret ⟨.tup [v,.int .i64 born],[(b,.map (es.set i (k,v,born)) c)],[]⟩
       | some none=>.ret ⟨.tup [z,.int .i64 c],[(b,.map (es++[(k,z,c)]) (c+1))],[]⟩
       | none=>.fail
      | _=>.fail
     | _=>.fail
     else .fail
    | none=>.fail
   | none=>.fail
  else .fail
 | _=>.fail

def uB (born:Int) (v:AV):List (AV × AV × Nat)→Option (List (AV × AV × Nat))
 | []=>none
 | (k,v',b)::es=>if (b:Int) == born then some ((k,v,b)::es) else (uB born v es).map ((k,v',b) :: ·)

def nJ (x s v:AV):AM Delta :=
 match x,s with
 | .mp b,.int _ born=>if v.refs=[] then .rd b fun
  | .map es c=>match uB born v es with
   | some es'=>.ret ⟨dD,[(b,.map es' c)],[]⟩
   | none=>.fail
  | _=>.fail
  else .fail
 | _,_=>.fail

def tJ (op:BinOp) (k:IntKind) (a b:Int):Option AV :=
 match op with
 | .add=>some (.int k (k.wrap (a+b)))
 | .sub=>some (.int k (k.wrap (a - b)))
 | .mul=>some (.int k (k.wrap (a*b)))
 | .quo=>if b=0 then none else some (.int k (k.wrap (a.tdiv b)))
 | .rem=>if b=0 then none else some (.int k (a.tmod b))
 | .and=>some (.int k (k.wrap (BitVec.ofInt k.bits a &&& BitVec.ofInt k.bits b).toNat))
 | .or=>some (.int k (k.wrap (BitVec.ofInt k.bits a ||| BitVec.ofInt k.bits b).toNat))
 | .xor=>some (.int k (k.wrap (BitVec.ofInt k.bits a ^^^ BitVec.ofInt k.bits b).toNat))
 | .andNot=>some (.int k (k.wrap (BitVec.ofInt k.bits a &&& ~~~(BitVec.ofInt k.bits b)).toNat))
 | .eql=>some (.bool (a == b))
 | .neq=>some (.bool (a != b))
 | .lss=>some (.bool (decide (a<b)))
 | .leq=>some (.bool (decide (a≤b)))
 | .gtr=>some (.bool (decide (a>b)))
 | .geq=>some (.bool (decide (a≥b)))
 | _=>none

def scEq (T:Nat→Option TI) (t:Nat):AV→AV→Option Bool
 | .int k a,.int k' b=>match T t with | some { k:=.int _,.. }=>if k=k' then some (a == b) else none | _=>none
 | .str a,.str b=>match T t with | some { k:=.str,.. }=>some (a == b) | _=>none
 | .bool a,.bool b=>match T t with | some { k:=.bool,.. }=>some (a == b) | _=>none
 | _,_=>none

def iA (T:Nat→Option TI):List (Nat × Nat)→List AV→List AV→Option Bool
 | [],_,_=>some true
 | (off,ft)::fs,a,b =>
  match a[off]?,b[off]? with
  | some x,some y=>match scEq T ft x y with
   | some true=>iA T fs a b
   | some false=>some false
   | none=>none
  | _,_=>none

def nilK:TK→AV→Option Bool
 | .slice _,.nils=>some true
 | .slice _,.inl _ _=>some false
 | .slice _,.ref _ _ _ _ _ f=>if f = .virt then none else some false
 | .ptr _,.nilp=>some true
 | .ptr _,.hp _ _=>some false
 | .map _ _,.mapn=>some true
 | .map _ _,.mp _=>some false
 | .func,.nilf=>some true
 | .func,.fn _ _=>some false
 | _,_=>none

def nilEq (k:TK) (x y:AV):Option Bool :=
 match nilK k x,nilK k y with
 | some true,some b=>some b
 | some false,some true=>some false
 | _,_=>none

def aEq (t:Nat) (x y:AV):Option Bool :=
 match T t with
 | none=>none
 | some i =>
  match x,y with
  | .bool a,.bool b=>if i.k = .bool then some (a == b) else none
  | .agg a,.agg b =>
   if i.cmp then
    match i.k with
    | .struct fs=>iA T fs a b
    | .array n e=>match T e with
     | some ei=>iA T ((List.range' 0 n).map fun i=>(i*ei.sz,e)) a b
     | none=>none
    | _=>none
   else none
  | x,y=>nilEq i.k x y

def aBin (op:BinOp) (t:Nat) (x y:AV):Option AV :=
 match x,y with
 | .int k a,.int k' b =>
  match op with
  | .shl=>if 0≤b then some (.int k (k.wrap (a*2 ^ (min b.toNat k.bits)))) else none
  | .shr=>if 0≤b then some (.int k (a.fdiv (2 ^ (min b.toNat k.bits)))) else none
  | _=>if k=k' then tJ op k a b else none
 | .str a,.str b =>
  match op with
  | .add=>if a.size+b.size≤9223372036854775807 then some (.str (a++b)) else none
  | .eql=>some (.bool (a == b))
  | .neq=>some (.bool (!(a == b)))
  | _=>none
 | x,y =>
  match op with
  | .eql=>(aEq T t x y).map .bool
  | .neq=>(aEq T t x y).map fun b=>.bool !b
  | _=>none

def aUn (op:UnOp) (x:AV):Option AV :=
 match op,x with
 | .neg,.int k n=>some (.int k (k.wrap (0 - n)))
 | .not,.bool b=>some (.bool !b)
 | .xor,.int k n=>some (.int k (k.wrap (BitVec.ofInt k.bits (if k.signed then -1 else k.max) ^^^ BitVec.ofInt k.bits n).toNat))
 | _,_=>none

def u8s:List (List AV)→Option (List UInt8)
 | []=>some []
 | [.int .u8 n]::r=>(u8s r).map (UInt8.ofNat n.toNat :: ·)
 | _=>none

def aD7 (si:TI) (x:AV):AM Delta :=
 match si.k with
 | .slice e=>match T e with
  | some { k:=.int .u8,.. }=>(pE 1 x).bind fun rows=>match u8s rows with
   | some bs=>.val (.str ⟨bs.toArray⟩)
   | none=>.fail
  | _=>.fail
 | _=>.fail

def markA (src dst e sz b g i n:Nat) (flg:Fl):AM Delta :=
 if src=dst∧0<n then match T e with
  | some { k:=.int .u8,.. }=>.rd b fun
   | .arr s rows gen wgen ro=>if s=1 then (if s=sz∧g=gen∧i=0∧n=rows.length then .ret ⟨.sl sz rows,[(b,.arr s rows gen wgen true)],[]⟩ else .ret ⟨.ref sz b g i n flg,[(b,.arr s rows gen wgen ro)],[]⟩) else .fail
   | _=>.fail
  | _=>.fail
 else .fail

def jY (src dst:Nat) (x:AV):AM Delta :=
 match T src,T dst with
 | some si,some di =>
  match di.k with
  | .int k=>match x with
   | .int _ q=>.val (.int k (k.wrap q))
   | _=>.fail
  | .str=>match x with
   | .str s=>.val (.str s)
   | x=>aD7 T si x
  | .slice e=>match x with
   | .str s=>match T e with
    | some { k:=.int .u8,.. }=>.val (.sl 1 (s.data.toList.map fun b=>[.int .u8 b.toNat]))
    | _=>.fail
   | .ref sz b g i n flg=>markA T src dst e sz b g i n flg
   | _=>.fail
  | _=>.fail
 | _,_=>.fail

def aYs (ei xi:TI) (x:AV):AM (List (List AV)) :=
 match xi.k,x with
 | .int _,.int _ q=>match ei.z with
  | some z=>if 0≤q∧q*ei.bts≤140737488355328∧z.cells.length=ei.sz∧oH z.cells then .ret (List.replicate q.toNat z.cells) else .fail
  | none=>.fail
 | .int _,_=>.fail
 | _,.int _ _=>.fail
 | _,x=>pE ei.sz x

def nG (n:Nat) (st xt:Nat) (s x:AV):AM Delta :=
 match T st with
 | some { k:=.slice e,.. } =>
  match T e,T xt with
  | some ei,some xi =>
   if 0<ei.sz∧0<ei.bts∧(ei.z.map (·.cells.length))=some ei.sz then
    (aYs ei xi x).bind fun ys =>
    match s with
    | .nils=>if ys.length*ei.bts≤140737488355328 then .ret ⟨.ref ei.sz n 0 0 ys.length .virt,[],[.arr ei.sz ys 0 0 false]⟩ else .fail
    | .emps=>if ys.length*ei.bts≤140737488355328 then .ret ⟨.ref ei.sz n 0 0 ys.length .virt,[],[.arr ei.sz ys 0 0 false]⟩ else .fail
    | .inl sz rows=>if ys.length=0 then .val (.inl sz rows) else .fail
    | .sl sz rows=>if ys.length=0 then .val (.sl sz rows) else .fail
    | .ref sz b g i k flg =>
     if sz=ei.sz∧i=0∧flg.whole∧(k+ys.length)*ei.bts≤140737488355328 then
      .rd b fun
      | .arr s' rows gen wgen ro =>
       if s'=sz∧g=gen∧k≤rows.length then
        if k=rows.length then .ret ⟨.ref sz b (gen+1) 0 (k+ys.length) flg,[(b,.arr sz (rows++ys) (gen+1) wgen ro)],[]⟩
        else if ro∨flg = .virt then .fail
        else if k+ys.length≤rows.length then .ret ⟨.ref sz b (gen+1) 0 (k+ys.length) .full,[(b,.arr sz (rows.take k++ys++rows.drop (k+ys.length)) (gen+1) (gen+1) false)],[]⟩
        else .ret ⟨.ref sz b (gen+1) 0 (k+ys.length) .full,[(b,.arr sz (rows.take k++ys) (gen+1) (gen+1) false)],[]⟩
       else .fail
      | _=>.fail
     else .fail
    | _=>.fail
   else .fail
  | _,_=>.fail
 | _=>.fail

def aEA (sz0 m:Nat) (d:AV) (ys:List (List AV)):AM Delta :=
 if m=0 then .val (.int .i64 0) else
 match d with
 | .ref sz b g i _ _=>.rd b fun
  | .arr s' rows gen _ ro=>if sz=sz0∧s'=sz∧g=gen∧ro=false∧i+m≤rows.length then
   .ret ⟨.int .i64 m,[(b,.arr sz (rows.take i++ys.take m++rows.drop (i+m)) gen gen false)],[]⟩ else .fail
  | _=>.fail
 | _=>.fail

def aIK:AV→Bool
 | .str _=>true
 | _=>false

def aE1 (dt:Nat) (d s:AV):AM Delta :=
 match T dt with
 | some { k:=.slice e,.. } =>
  match T e with
  | some ei =>
   (pE ei.sz s).bind fun ys =>
   match lenOf d with
   | none=>.fail
   | some dn=>if aIK d then .fail else aEA ei.sz (min ys.length dn) d ys
  | none=>.fail
 | _=>.fail

def rX (t:Nat) (x:AV):AM Delta :=
 match T t with
 | some { k:=.slice e,.. } =>
  match T e with
  | some ei=>match ei.z with
   | some z =>
    match x with
    | .nils=>.val dD
    | .emps=>.val dD
    | .inl _ rows=>if rows.length=0 then .val dD else .fail
    | .sl _ rows=>if rows.length=0 then .val dD else .fail
    | .ref sz b g i n _=>if n=0 then .val dD else .rd b fun
     | .arr s' rows gen _ ro=>if sz=ei.sz∧s'=sz∧g=gen∧ro=false∧i+n≤rows.length∧z.cells.length=sz∧oH z.cells then
      .ret ⟨dD,[(b,.arr sz (rows.take i++List.replicate n z.cells++rows.drop (i+n)) gen gen false)],[]⟩ else .fail
     | _=>.fail
    | _=>.fail
   | none=>.fail
  | none=>.fail
 | _=>.fail

def aCC (t:Nat) (x:AV):AM Delta :=
 match T t with
 | some { k:=.str,.. }=>match x with | .str s=>.val (.int .i64 s.size) | _=>.fail
 | some { k:=.slice _,.. }=>match x with
  | .nils=>.val (.int .i64 0)
  | .emps=>.val (.int .i64 0)
  | .inl _ rows=>.val (.int .i64 rows.length)
  | .sl _ rows=>.val (.int .i64 rows.length)
  | .ref _ _ _ _ n _=>.val (.int .i64 n)
  | .ps c=>.val (.int .i64 c.length)
  | _=>.fail
 | some { k:=.map _ _,.. }=>match x with
  | .mapn=>.val (.int .i64 0)
  | .mp b=>.rd b fun
   | .map es _=>.val (.int .i64 es.length)
   | _=>.fail
  | _=>.fail
 | some { k:=.array n _,.. }=>.val (.int .i64 n)
 | _=>.fail

def aCap (t:Nat) (x:AV):AM Delta :=
 match T t with
 | some { k:=.slice _,.. }=>match x with
  | .nils=>.val (.int .i64 0)
  | .emps=>.val (.int .i64 0)
  | _=>.fail
 | _=>.fail

def aMin (op:Bool):AV→AV→Option AV
 | .int k x,.int k' y=>if k=k' then some (.int k (if op then (if y>x then y else x) else (if y<x then y else x))) else none
 | _,_=>none

def uD (t:Nat) (x k:AV):AM Delta :=
 match T t with
 | some { k:=.map kt _,.. } =>
  if iD T kt k then
   match x with
   | .mapn=>.val dD
   | .mp b=>.rd b fun
    | .map es c=>match o6 k es 0 with
     | some (some (i,_,_))=>.ret ⟨dD,[(b,.map (es.eraseIdx i) c)],[]⟩
     | some none=>.ret ⟨dD,[(b,.map es c)],[]⟩
     | none=>.fail
    | _=>.fail
   | _=>.fail
  else .fail
 | _=>.fail

def pV (n:Nat) (b:Builtin) (ts:List Nat) (args:List AV):AM Delta :=
 match b,ts,args with
 | .append,[st,xt],[s,x]=>nG T n st xt s x
 | .copy,dt::_,[d,s]=>aE1 T dt d s
 | .clear,[t],[x]=>rX T t x
 | .len,[t],[x]=>aCC T t x
 | .cap,[t],[x]=>aCap T t x
 | .max,_,[x,y]=>(AM.of (aMin true x y)).bind AM.val
 | .min,_,[x,y]=>(AM.of (aMin false x y)).bind AM.val
 | .delete,t::_,[x,k]=>uD T t x k
 | _,_,_=>.fail

abbrev iO:=Nat→List AV→List Blk→Option (AV × List Blk)

def qO:List (List (Nat × Nat))→List AV→List AV
 | vs::r,v::l=>rB vs v::qO r l
 | _,l=>l

def nE:AV→AM (AV × List (Nat × Blk))
 | .ref sz b g i n _=>.rd b fun
  | .arr s rows gen wgen ro=>if s=sz∧wgen≤g∧g≤gen∧i+n≤rows.length then .ret (.sl sz ((rows.drop i).take n),[(b,.arr s rows gen wgen true)]) else .fail
  | _=>.fail
 | v=>.ret (v,[])

def uP:List AV→AM (List AV × List (Nat × Blk))
 | []=>.ret ([],[])
 | v::l=>(nE v).bind fun (v',b)=>(uP l).bind fun (l',bs)=>.ret (v'::l',b++bs)

def kR:List AV→AM (List AV × List (Nat × Blk))
 | []=>.ret ([],[])
 | .agg c::l=>(uP c).bind fun (c',b)=>(kR l).bind fun (l',bs)=>.ret (.agg c'::l',b++bs)
 | v::l=>(nE v).bind fun (v',b)=>(kR l).bind fun (l',bs)=>.ret (v'::l',b++bs)

def yY:Nat→List Nat→List (Nat × Blk)→AM (List (Nat × Blk))
 | 0,[],acc=>.ret acc
 | 0,_::_,_=>.fail
 | _+1,[],acc=>.ret acc
 | k+1,b::todo,acc=>if acc.any (·.1 == b) then yY k todo acc else .rd b fun x=>yY k (todo++x.refs) (acc++[(b,x)])

def dP (ids:List Nat) (n i:Nat):Nat:=if i<ids.length then ids.getD i 0 else n+(i - ids.length)

structure CC where
 brw:Bool
 cast:List (List (Nat × Nat))

def tC (call:iO) (cc:CC) (n f:Nat) (args:List AV):AM Delta :=
 (if cc.brw then kR (qO cc.cast args) else .ret (qO cc.cast args,[])).bind fun (args,bw) =>
 (yY 64 (AV.refsL args) []).bind fun bs =>
 if bs≠[]∧bw≠[] then .fail else
 let ids:=bs.map (·.1)
 match call f (AV.renL ids.idxOf args) (bs.map fun x=>x.2.ren ids.idxOf) with
 | none=>.fail
 | some (v,h) =>
  .ret ⟨v.ren (dP ids n),
   (if bw=[]∨(v.hasInl=false∧h=[]) then [] else bw)++ids.zip ((h.take ids.length).map (Blk.ren (dP ids n))),
   (h.drop ids.length).map (Blk.ren (dP ids n))⟩

def evA (t:List AV):Operand→Option AV
 | .tmp n=>some (t.getD n dD)
 | .const v=>zG v
 | .global _=>none
 | .func f=>if f<1000000 then some (.fn f []) else none

def evL (t:List AV):List Operand→Option (List AV)
 | []=>some []
 | x::l=>match evA t x,evL t l with
  | some v,some vs=>some (v::vs)
  | _,_=>none

def evP (t:List AV):List (Nat × Operand)→Option (List (Nat × AV))
 | []=>some []
 | (i,x)::l=>match evA t x,evP t l with
  | some v,some vs=>some ((i,v)::vs)
  | _,_=>none

def evO (t:List AV):Option Operand→Option (Option AV)
 | none=>some none
 | some x=>(evA t x).map some

def aop (call:iO) (cc:CC) (n:Nat) (t:List AV) (o:Op):AM Delta :=
 let one (x:Operand) (k:AV→AM Delta):AM Delta:=match evA t x with | some v=>k v | none=>.fail
 match o with
 | .move x | .assign x=>one x .val
 | .pick c a b=>one c fun c=>match c with | .bool c=>if c then one a .val else one b .val | _=>.fail
 | .alloc e=>aKC T n e
 | .box _ x=>one x (aBox n)
 | .build ty ps=>match evP t ps.toList with | some ps=>aKO T ty ps | none=>.fail
 | .buildSlice ty len ps=>match evP t ps.toList with | some ps=>tF T n ty len ps | none=>.fail
 | .load ty a=>one a (aDY T ty)
 | .store ty a x=>one a fun a=>one x (aAT T ty a)
 | .nilCheck x=>one x fun v=>match v with
  | .nilp=>.fail
  | .nilf=>.fail
  | .any=>.fail
  | v=>.val v
 | .binOp op ty x y _=>one x fun x=>one y fun y=>(AM.of (aBin T op ty x y)).bind AM.val
 | .unOp op _ x=>one x fun x=>(AM.of (aUn op x)).bind AM.val
 | .convert s d x=>one x (jY T s d)
 | .sliceToArrayPointer ty x=>one x fun x=>match T ty with
  | some { k:=.array len e,.. }=>match T e,x with
   | some ei,.sl sz rows=>if sz=ei.sz∧sz=1∧len≤rows.length∧0<len then .val (.ip sz rows 0 0) else .fail
   | _,_=>.fail
  | _=>.fail
 | .makeFunc (.func f) first c=>if f<1000000 then match evL t first.toList,evL t c.toList with
  | some [],some c=>.val (.fn f c)
  | some b,some []=>.val (.fn (f+1000000) b)
  | _,_=>.fail
  else .fail
 | .makeMap _ none=>.ret ⟨.mp n,[],[.map [] 0]⟩
 | .makeSlice ty l c=>one l fun l=>one c (mP T n ty l)
 | .slice ty x lo hi mx=>one x fun x=>match evO t lo,evO t hi,evO t mx with
  | some lo,some hi,some mx=>nS T ty x lo hi mx
  | _,_,_=>.fail
 | .fieldAddr ty x f=>one x fun x=>yG T ty x f
 | .field ty x f=>one x fun x=>aK2 T ty x f
 | .indexAddr ty x i=>one x fun x=>one i (g6 T ty x)
 | .index ty x i=>one x fun x=>one i (aKV T ty x)
 | .lookup ty x i ok=>one x fun x=>one i fun i=>uG T ty x i ok
 | .mapUpdate ty m k x=>one m fun m=>one k fun k=>one x (mX T ty m k)
 | .insert ty m k x=>one m fun m=>one k fun k=>one x (mX T ty m k)
 | .mapEntry ty m k=>one m fun m=>one k (oT T ty m)
 | .entryStore _ m s x=>one m fun m=>one s fun s=>one x (nJ m s)
 | .extract x i=>one x fun x=>match x with
  | .tup l=>match l[i]? with | some v=>.val v | none=>.fail
  | _=>.fail
 | .call c=>match c.callee with
  | .builtin b=>match evL t c.args.toList with | some args=>pV T n b c.argTypes.toList args | none=>.fail
  | .value f=>one f fun f=>match f,evL t c.args.toList with
   | .fn f cs,some args=>if f<1000000 then tC call cc n f (args++cs) else tC call cc n (f - 1000000) (cs++args)
   | _,_=>.fail
  | _=>.fail
 | _=>.fail

structure St where
 t:List AV
 h:List Blk

def aBH (t:List AV):Option Nat→AV→List AV
 | some d,v=>t.set d v
 | none,_=>t

def upd (h:List Blk):List (Nat × Blk)→List Blk
 | []=>h
 | (b,x)::l=>upd (h.set b x) l

def kU (ops:List Oper) (t:List AV) (o:Oper):Option Bool :=
 match o.guard with
 | none=>some true
 | some (j,want)=>match (ops[j]?).bind (·.dst) with
  | some d=>match t[d]? with
   | some (.bool b)=>some (b == want)
   | some .any=>none
   | _=>some false
  | none=>some false

def St.after (st:St) (dst:Option Nat) (δ:Delta):St:=⟨aBH st.t dst δ.v,upd st.h δ.up++δ.nw⟩

def nN (call:Option Nat→iO) (cfg:Option Nat→CC) (ops:List Oper) (n:Nat) (t:List AV) (h:Nat→Option Blk) (o:Oper):Option (Delta × List Nat) :=
 match kU ops t o with
 | some true=>(aop T (call o.dst) (cfg o.dst) n t o.op).run h
 | some false=>some (⟨dD,[],[]⟩,[])
 | none=>none

def upOk (n:Nat) (δ:Delta):Bool:=δ.up.all fun p=>decide (p.1<n)

def pF (call:Option Nat→iO) (cfg:Option Nat→CC) (ops:List Oper):List Oper→St→Option St
 | [],st=>some st
 | o::rest,st =>
  match nN T call cfg ops st.h.length st.t (st.h[·]?) o with
  | some (δ,_)=>if upOk st.h.length δ then pF call cfg ops rest (st.after o.dst δ) else none
  | none=>none

structure Rec where
 n:Nat
 dst:Option Nat
 δ:Delta
 l:List Nat

def nH (call:Option Nat→iO) (cfg:Option Nat→CC) (ops:List Oper):List Oper→St→Option (St × List Rec)
 | [],st=>some (st,[])
 | o::rest,st =>
  match nN T call cfg ops st.h.length st.t (st.h[·]?) o with
  | some (δ,l)=>if upOk st.h.length δ then match nH call cfg ops rest (st.after o.dst δ) with
   | some (st',rs)=>some (st',⟨st.h.length,o.dst,δ,l⟩::rs)
   | none=>none
   else none
  | none=>none

def looks (ops:List Oper) (o:Oper):List Nat :=
 (o.op.operands.toList.filterMap fun | .tmp t=>some t | _=>none) ++
 (match o.guard with
  | some (g,_)=>((ops[g]?).bind (·.dst)).toList
  | none=>[])

structure Foot where
 r:List Nat
 w:List Nat
 tr:List Nat
 tw:List Nat

def i6 (ops:List Oper) (o:Oper) (x:Rec):Foot:=⟨x.l,x.δ.up.map (·.1)++List.range' x.n x.δ.nw.length,looks ops o,x.dst.toList⟩

def feet (ops:List Oper):List Oper→List Rec→List Foot
 | o::l,x::xs=>i6 ops o x::feet ops l xs
 | _,_=>[]

def disj (a b:List Nat):Bool:=a.all fun x=>!b.contains x

def Foot.apart (x y:Foot):Bool:=disj x.w y.w && disj x.w y.r && disj x.r y.w && disj x.tw y.tw && disj x.tw y.tr && disj x.tr y.tw

def aDZ (acc:List Nat) (o:Oper):Nat:=o.after.toList.foldl (fun s e=>if Region.binds .any e then s ||| 2 ^ e.on ||| acc.getD e.on 0 else s) 0
def xT:List Oper→List Nat→List Nat
 | [],acc=>acc
 | o::l,acc=>xT l (acc++[aDZ acc o])

def aG7 (before:List Nat) (fs:List Foot):Bool :=
 (List.range fs.length).all fun j=>(List.range j).all fun i =>
  (before.getD j 0).testBit i || match fs[i]?,fs[j]? with
   | some x,some y=>x.apart y
   | _,_=>true

def rV:Nat→List Oper→Bool
 | _,[]=>true
 | k,o::l=>o.after.toList.all (fun e=>!Region.binds .any e || decide (e.on<k)) && rV (k+1) l

inductive AX where
 | normal
 | exit (id:Nat)
 | ret
 deriving DecidableEq,Inhabited

def rA (call:Option Nat→iO) (cfg:Option Nat→CC) (ops:Array Oper) (draw:Bool) (st:St):Option St :=
 if draw then
  match nH T call cfg ops.toList ops.toList st with
  | some (st',rs)=>if rV 0 ops.toList && aG7 (xT ops.toList []) (feet ops.toList ops.toList rs) then some st' else none
  | none=>none
 else pF T call cfg ops.toList ops.toList st

inductive NSrc where
 | tmp (i:Nat)
 | tcell (i j:Nat)
 | cell (b j:Nat)
 deriving Inhabited

structure Slot where
 src:NSrc
 vs:List (Nat × Nat)
 own:Option Nat
 deriving Inhabited

structure NSpec where
 live:List (Nat × List (Nat × Nat))
 slots:List Slot
 ro:Bool
 kv:List (List (Nat × Nat))
 kg:List (Option Nat)
 deriving Inhabited

mutual
def AV.gens:AV→List (Nat × Nat × Option Nat)
 | .hp b _=>[(b,0,none)]
 | .ep _ b g i _=>[(b,g,some (i+1))]
 | .ref _ b g i n _=>[(b,g,some (i+n))]
 | .mp b=>[(b,0,none)]
 | .fn _ c=>AV.gensL c
 | .ps c=>AV.gensL c
 | .pp c _=>AV.gensL c
 | .agg l=>AV.gensL l
 | .tup l=>AV.gensL l
 | _=>[]
def AV.gensL:List AV→List (Nat × Nat × Option Nat)
 | []=>[]
 | v::l=>v.gens++AV.gensL l
end

mutual
def AV.reg (r:Nat→Nat) (q:Nat→Nat→Nat):AV→AV
 | .hp b o=>.hp (r b) o
 | .ep sz b g i j=>.ep sz (r b) (q b g) i j
 | .ref sz b g i n f=>.ref sz (r b) (q b g) i n f
 | .mp b=>.mp (r b)
 | .fn f c=>.fn f (AV.regL r q c)
 | .ps c=>.ps (AV.regL r q c)
 | .pp c i=>.pp (AV.regL r q c) i
 | .agg l=>.agg (AV.regL r q l)
 | .tup l=>.tup (AV.regL r q l)
 | v=>v
def AV.regL (r:Nat→Nat) (q:Nat→Nat→Nat):List AV→List AV
 | []=>[]
 | v::l=>v.reg r q::AV.regL r q l
end

def Blk.gen:Blk→Nat
 | .arr _ _ gen _ _=>gen
 | _=>0

def Blk.isRo:Blk→Bool
 | .arr _ _ _ _ ro=>ro
 | _=>false

def Blk.gens:Blk→List (Nat × Nat × Option Nat)
 | .row c=>AV.gensL c
 | _=>[]

def AV.sub:AV→List AV
 | .agg l=>l
 | .tup l=>l
 | .fn _ l=>l
 | .ps l=>l
 | _=>[]

def AV.setSub (v:AV) (j:Nat) (x:AV):AV :=
 match v with
 | .agg l=>.agg (l.set j x)
 | .tup l=>.tup (l.set j x)
 | .fn f l=>.fn f (l.set j x)
 | .ps l=>.ps (l.set j x)
 | v=>v

def blkOf (m:Nat) (ids:List Nat) (b:Nat):Option Nat:=if b<m then some b else ids[b - m]?

def atV (m:Nat) (st:St) (ids:List Nat):NSrc→Option AV
 | .tmp i=>st.t[i]?
 | .tcell i j=>(st.t[i]?).bind fun v=>v.sub[j]?
 | .cell b j=>(blkOf m ids b).bind fun c=>match st.h[c]? with
  | some (.row l)=>l[j]?
  | _=>none

def rY (m:Nat) (st:St) (ids:List Nat) (x:AV):NSrc→St
 | .tmp i=>⟨st.t.set i x,st.h⟩
 | .tcell i j=>match st.t[i]? with
  | some v=>⟨st.t.set i (v.setSub j x),st.h⟩
  | none=>st
 | .cell b j=>match blkOf m ids b with
  | some c=>match st.h[c]? with
   | some (.row l)=>⟨st.t,st.h.set c (.row (l.set j x))⟩
   | _=>st
  | none=>st

def idOf:AV→Option Nat
 | .hp b _=>some b
 | .ref _ b _ _ _ _=>some b
 | .mp b=>some b
 | _=>none

def ownAt (m:Nat) (st:St) (ids:List Nat) (sz:Nat) (src:NSrc):AV→Option (Nat × Nat × St)
 | .nils=>if 0<sz then some (st.h.length,0,rY m ⟨st.t,st.h++[.arr sz [] 0 0 false]⟩ ids (.ref sz st.h.length 0 0 0 .virt) src) else none
 | .emps=>if 0<sz then some (st.h.length,0,rY m ⟨st.t,st.h++[.arr sz [] 0 0 false]⟩ ids (.ref sz st.h.length 0 0 0 .virt) src) else none
 | .ref s b g 0 n f=>if f.whole && (s == sz) then some (b,n,rY m st ids (.ref s b g 0 n .virt) src) else none
 | _=>none

def r6 (m:Nat):List Slot→St→List Nat→List (Option Nat)→Option (List Nat × List (Option Nat) × St)
 | [],st,ids,cuts=>some (ids,cuts,st)
 | s::l,st,ids,cuts=>match atV m st ids s.src with
  | none=>none
  | some v=>match s.own with
   | none=>match idOf v with
    | some b=>r6 m l st (ids++[b]) (cuts++[none])
    | none=>none
   | some sz=>match ownAt m st ids sz s.src v with
    | some (b,n,st')=>r6 m l st' (ids++[b]) (cuts++[some n])
    | none=>none

def mkT (n:Nat):List (Nat × AV)→List AV
 | []=>List.replicate n .any
 | (i,v)::l=>(mkT n l).set i v

def regB (m:Nat) (ids:List Nat) (b:Nat):Nat:=if b<m then b else m+ids.idxOf b
def aED (m:Nat) (kg:List (Option Nat)) (b g:Nat):Nat:=if b<m then (match kg[b]? with | some (some g1)=>g1 | _=>g) else 0

def aHL (m:Nat) (h:List Blk) (ids:List Nat) (kg:List (Option Nat)) (ro:Bool) (vs:List (Nat × Nat)) (cut:Option Nat) (c:Nat):Blk :=
 match h[c]? with
 | some (.row l)=>.row (AV.regL (regB m ids) (aED m kg) (nW vs l))
 | some (.arr sz rows _ _ ro')=>.arr sz (match cut with | some n=>if ro' then rows else rows.take n | none=>rows) 0 0 (ro' || ro)
 | some x=>x
 | none=>.none

def kY (m:Nat) (h:List Blk) (ids:List Nat) (kg:List (Option Nat)) (ro:Bool):List Slot→List (Option Nat)→List Nat→List Blk
 | s::l,c::cs,x::xs=>aHL m h ids kg ro s.vs c x::kY m h ids kg ro l cs xs
 | _,_,_=>[]

def aG5 (m:Nat) (ids:List Nat) (kg:List (Option Nat)) (vs:List (Nat × Nat)) (g:Option Nat):Blk→Blk
 | .row l=>.row (AV.regL (regB m ids) (aED m kg) (nW vs l))
 | .arr sz rows gen wgen ro=>match g with
  | some g1=>.arr sz rows g1 g1 ro
  | none=>.arr sz rows gen wgen ro
 | x=>x

def lK (m:Nat) (ids:List Nat) (kv:List (List (Nat × Nat))) (kg:List (Option Nat)):Nat→List Blk→List Blk
 | _,[]=>[]
 | i,x::l=>aG5 m ids kg (kv.getD i []) (kg.getD i none) x::lK m ids kv kg (i+1) l

def aDF:List Nat→Bool
 | []=>true
 | b::l=>!l.contains b && aDF l

def aBD (t:List AV):List (Nat × List (Nat × Nat))→Option (List (Nat × AV))
 | []=>some []
 | (i,vs)::l=>match t[i]?,aBD t l with
  | some v,some r=>some ((i,rB vs v)::r)
  | _,_=>none

def zO (r:Nat→Nat) (q:Nat→Nat→Nat):List (Nat × AV)→List (Nat × AV)
 | []=>[]
 | (i,v)::l=>(i,v.reg r q)::zO r q l

def yZ:List (Nat × AV)→List (Nat × Nat × Option Nat)
 | []=>[]
 | (_,v)::l=>v.gens++yZ l

def uM (h:List Blk):List Nat→List (Nat × Nat × Option Nat)
 | []=>[]
 | c::l=>(match h[c]? with | some x=>x.gens | none=>[])++uM h l

def aDC (m:Nat) (h:List Blk) (ids:List Nat) (kg:List (Option Nat)):List (Nat × Nat × Option Nat)→Bool
 | []=>true
 | (b,g,e)::l=>(if b<m then (match kg[b]? with
  | some (some _)=>e.isSome && (match h[b]? with | some x=>x.gen == g | none=>false)
  | _=>true)
  else ids.contains b && (match h[b]? with | some x=>x.gen == g | none=>false)) && aDC m h ids kg l

def aCY (m:Nat) (ids:List Nat) (cuts:List (Option Nat)):List (Nat × Nat × Option Nat)→Prop
 | []=>True
 | (_,_,none)::l=>aCY m ids cuts l
 | (b,_,some e)::l=>(match (if b<m then none else cuts.getD (ids.idxOf b) none) with | some n=>e≤n | none=>True)∧aCY m ids cuts l

def aIH (m n:Nat):List Nat→Bool
 | []=>true
 | b::l=>decide (m≤b) && decide (b<n) && aIH m n l

def kgOk (lim:List Nat):Nat→List (Option Nat)→List Blk→Bool
 | _,[],_=>true
 | i,none::l,h=>kgOk lim (i+1) l h.tail
 | i,some g::l,h=>(match h.head? with
  | some (.arr _ _ _ _ _)=>decide (lim.getD i 0<g)
  | _=>false) && kgOk lim (i+1) l h.tail

def aHT (m:Nat) (s:NSpec) (ids:List Nat) (cuts:List (Option Nat)) (lv:List (Nat × AV)) (st:St):St :=
 ⟨mkT st.t.length (zO (regB m ids) (aED m s.kg) lv),lK m ids s.kv s.kg 0 (st.h.take m)++kY m st.h ids s.kg s.ro s.slots cuts ids⟩

def lB (m:Nat) (st:St) (ids:List Nat) (lv:List (Nat × AV)):List (Nat × Nat × Option Nat):=yZ lv++((st.h.take m).flatMap Blk.gens++uM st.h ids)

structure NormR (m:Nat) (lim:List Nat) (s:NSpec) (st0 st':St):Prop where
 le:m≤st0.h.length
 ex:∃ids cuts st lv,r6 m s.slots st0 [] []=some (ids,cuts,st)∧aBD st.t s.live=some lv∧aDF ids=true∧aIH m st.h.length ids=true ∧
  aDC m st.h ids s.kg (lB m st ids lv)=true∧aCY m ids cuts (lB m st ids lv)∧kgOk lim 0 s.kg (st.h.take m)=true∧st'=aHT m s ids cuts lv st

def aHI (st:St):ResultVar→Option AV
 | .tmp t=>some (st.t.getD t dD)
 | .cell a ty=>match T ty,st.t.getD a dD with
  | some i,.hp b o=>match st.h[b]? with
   | some (.row c)=>if o+i.sz≤c.length then xC i.isAgg ((c.drop o).take i.sz) else none
   | _=>none
  | _,_=>none

def uR (st:St):List ResultVar→Option (List AV)
 | []=>some []
 | r::l=>match aHI T st r,uR st l with
  | some v,some vs=>some (v::vs)
  | _,_=>none

def resTup:List AV→AV
 | [v]=>v
 | l=>.tup l

mutual
def frzV (h:List Blk) (m:Nat):AV→Option AV
 | .ref sz b g i n flg=>if b<m then some (.ref sz b g i n flg) else
  match h[b]? with
  | some (.arr s rows gen wgen _)=>if s=sz∧wgen≤g∧g≤gen∧i+n≤rows.length then some (.sl sz ((rows.drop i).take n)) else none
  | _=>none
 | .agg l=>match frzL h m l with | some l=>some (.agg l) | none=>none
 | .tup l=>match frzL h m l with | some l=>some (.tup l) | none=>none
 | v=>some v
def frzL (h:List Blk) (m:Nat):List AV→Option (List AV)
 | []=>some []
 | v::l=>match frzV h m v,frzL h m l with
  | some v,some l=>some (v::l)
  | _,_=>none
end

def oI (h:List Blk) (m:Nat):List Blk→Option (List Blk)
 | []=>some []
 | .row c::l=>match frzL h m c,oI h m l with
  | some c,some l=>some (.row c::l)
  | _,_=>none
 | b::l=>match oI h m l with
  | some l=>some (b::l)
  | none=>none

def tS (h:List Blk) (m:Nat):Nat→List Nat→List Nat→Option (List Nat)
 | _,[],acc=>some acc
 | 0,_::_,_=>none
 | k+1,b::todo,acc=>if b<m∨acc.contains b then tS h m k todo acc else
  match h[b]? with
  | some x=>tS h m k (todo++x.refs) (acc++[b])
  | none=>none

def aAK (m:Nat) (new:List Nat) (b:Nat):Nat:=if b<m then b else m+new.idxOf b

def isArr:Option Blk→Bool
 | some (.arr _ _ _ _ _)=>true
 | _=>false

def aFY (m:Nat) (frz:Bool) (v:AV) (h:List Blk):Option (AV × List Blk) :=
 if h.length<m then none else
 match (if frz then frzV h m v else some v),(if frz then oI h m (h.take m) else some (h.take m)) with
 | some v,some kept =>
  match tS h m 64 (v.refs++kept.flatMap Blk.refs) [] with
  | some new=>if frz && new.any (fun b=>isArr h[b]?) then none else
   some (v.ren (aAK m new),kept.map (Blk.ren (aAK m new))++new.map fun b=>((h[b]?).getD (.row [])).ren (aAK m new))
  | none=>none
 | _,_=>none

end
end Go.Ws

namespace Go.Ws

structure Loc where
 blk:Nat
 m:Nat

abbrev Sig:=Nat→Nat→Option Loc
abbrev bX:=Nat→Nat→Prop

def AV.flat (v:AV):Prop:=v.one=true∧v.refs=[]

def fH (sz:Nat) (rows:List (List AV)):Prop:=∀row∈rows,row.length=sz∧∀v∈row,v.flat

inductive VR (σ:Sig) (π:bX) (w:World):AV→Value→Prop
 | bool (b:Bool):VR σ π w (.bool b) (.bool b)
 | int (k:IntKind) (n:Int):VR σ π w (.int k n) (.int k n)
 | str (s:ByteArray):VR σ π w (.str s) (.string s)
 | nilp:VR σ π w .nilp (.pointer none)
 | hp (b o:Nat) (l:Loc) (h:σ b 0=some l):VR σ π w (.hp b o) (.pointer (some ⟨l.blk,o,none⟩))
 | ep (sz b g i j:Nat) (l:Loc) (h:σ b g=some l) (hi:i<l.m):VR σ π w (.ep sz b g i j) (.pointer (some ⟨l.blk,i*sz+j,none⟩))
 | ip (sz:Nat) (rows:List (List AV)) (i j B o:Nat) (u:Nat→Nat→Value) (hf:fH sz rows) (hi:i<rows.length)
  (hc:∀r q row v,rows[r]? = some row→row[q]? = some v→w.cell? ⟨B,o+r*sz+q,none⟩=some (u r q)∧π B (o+r*sz+q))
  (hv:∀r q row v,rows[r]? = some row→row[q]? = some v→VR σ π w v (u r q)) :
  VR σ π w (.ip sz rows i j) (.pointer (some ⟨B,o+i*sz+j,none⟩))
 | nils:VR σ π w .nils (.slice none 0 0)
 | emps (a:Option Addr):VR σ π w .emps (.slice a 0 0)
 | any (u:Value):VR σ π w .any u
 | inl0 (sz:Nat) (a:Addr) (c:Nat):VR σ π w (.inl sz []) (.slice (some a) 0 c)
 | inl (sz:Nat) (rows:List (List AV)) (B o c:Nat) (u:Nat→Nat→Value) (hf:fH sz rows) (hl:rows.length≤c)
  (hc:∀r q row v,rows[r]? = some row→row[q]? = some v→w.cell? ⟨B,o+r*sz+q,none⟩=some (u r q)∧π B (o+r*sz+q))
  (hv:∀r q row v,rows[r]? = some row→row[q]? = some v→VR σ π w v (u r q)) :
  VR σ π w (.inl sz rows) (.slice (some ⟨B,o,none⟩) rows.length c)
 | sl0 (sz:Nat) (a:Option Addr) (c:Nat) (h0:a=none→c=0):VR σ π w (.sl sz []) (.slice a 0 c)
 | sl (sz:Nat) (rows:List (List AV)) (B o c:Nat) (u:Nat→Nat→Value) (hf:fH sz rows) (hl:rows.length≤c)
  (hc:∀r q row v,rows[r]? = some row→row[q]? = some v→w.cell? ⟨B,o+r*sz+q,none⟩=some (u r q)∧π B (o+r*sz+q))
  (hv:∀r q row v,rows[r]? = some row→row[q]? = some v→VR σ π w v (u r q)) :
  VR σ π w (.sl sz rows) (.slice (some ⟨B,o,none⟩) rows.length c)
 | ref0 (sz b g:Nat) (a:Option Addr):VR σ π w (.ref sz b g 0 0 .virt) (.slice a 0 0)
 | ref (sz b g i n:Nat) (flg:Fl) (a:Addr) (c:Nat) (l:Loc) (h:σ b g=some l) (hi:i+n≤l.m) (hn:n≤c) (ha:0<c→a=⟨l.blk,i*sz,none⟩) (hf:flg.whole=true→l.m≤i+c)
  (C:Array Value) (e:TypeId × (Nat × Nat)) (hC:w.heap[l.blk]? = some (.cells C e.1 e.2)) (hs:(i+c)*sz≤C.size) :
  VR σ π w (.ref sz b g i n flg) (.slice (some a) n c)
 | mapn:VR σ π w .mapn (.map none)
 | mp (b:Nat) (l:Loc) (h:σ b 0=some l):VR σ π w (.mp b) (.map (some l.blk))
 | fn (f:Nat) (c:List AV) (d:Array Value) (hl:d.size=c.length) (hv:∀(i:Nat) v u,c[i]? = some v→d[i]? = some u→VR σ π w v u) (hf:f<1000000):VR σ π w (.fn f c) (.func (.func f) #[] d)
 | bm (f:Nat) (c:List AV) (d:Array Value) (hl:d.size=c.length) (hv:∀(i:Nat) v u,c[i]? = some v→d[i]? = some u→VR σ π w v u):VR σ π w (.fn (f+1000000) c) (.func (.func f) d #[])
 | ps (c:List AV) (d:Array Value) (B o k:Nat) (hk:c.length≤k) (hc:∀(r:Nat) u,d[r]? = some u→w.cell? ⟨B,o+r,none⟩=some u∧π B (o+r)) (hl:d.size=c.length)
  (hv:∀(i:Nat) v u,c[i]? = some v→d[i]? = some u→VR σ π w v u):VR σ π w (.ps c) (.slice (some ⟨B,o,none⟩) c.length k)
 | pp (c:List AV) (i:Nat) (d:Array Value) (B o:Nat) (hi:i<c.length) (hc:∀(r:Nat) u,d[r]? = some u→w.cell? ⟨B,o+r,none⟩=some u∧π B (o+r)) (hl:d.size=c.length)
  (hv:∀(i:Nat) v u,c[i]? = some v→d[i]? = some u→VR σ π w v u):VR σ π w (.pp c i) (.pointer (some ⟨B,o+i,none⟩))
 | raw (a:Addr):VR σ π w (.raw a) (.pointer (some a))
 | fm (ks vs:List AV) (bs:List Nat) (B cl:Nat) (C:Array MapEntry) (hw:w.heap[B]? = some (.map C cl)) (hp:π B 0) (h1:C.size=ks.length) (h2:vs.length=ks.length) (h3:bs.length=ks.length)
  (hk:∀(i:Nat) k e,ks[i]? = some k→C[i]? = some e→VR σ π w k e.key) (hv:∀(i:Nat) v e,vs[i]? = some v→C[i]? = some e→VR σ π w v e.val)
  (hb:∀(i:Nat) b e,bs[i]? = some b→C[i]? = some e→e.born=b) (hr:∀v∈ks++vs,v.refs=[]):VR σ π w (.fm ks vs bs cl) (.map (some B))
 | nilf:VR σ π w .nilf .nilFunc
 | agg (c:List AV) (d:Array Value) (hl:d.size=c.length) (hv:∀(i:Nat) v u,c[i]? = some v→d[i]? = some u→VR σ π w v u):VR σ π w (.agg c) (.agg d)
 | tup (c:List AV) (d:Array Value) (hl:d.size=c.length) (hv:∀(i:Nat) v u,c[i]? = some v→d[i]? = some u→VR σ π w v u):VR σ π w (.tup c) (.tuple d)

def VRs (σ:Sig) (π:bX) (w:World) (c:List AV) (d:Array Value):Prop :=
 d.size=c.length∧∀(i:Nat) v u,c[i]? = some v→d[i]? = some u→VR σ π w v u

def aB8 (C:Array Value) (fr:Nat × Nat):Prop:=fr.1=fr.2∨C.size≤fr.1

theorem aB8.zero (C:Array Value):aB8 C (0,0):=.inl rfl

theorem aB8.size {C D:Array Value} {fr:Nat × Nat} (h:aB8 C fr) (hs:D.size=C.size):aB8 D fr:=h.imp id fun h=>hs▸h

def FrZ (sz:Nat) (C:Array Value) (fr:Nat × Nat):Prop:=fr.1=fr.2∨(sz=1∧C.size≤fr.1)

theorem FrZ.zero (sz:Nat) (C:Array Value):FrZ sz C (0,0):=.inl rfl

theorem FrZ.ok {sz:Nat} {C:Array Value} {fr:Nat × Nat} (h:FrZ sz C fr):aB8 C fr:=h.imp id fun h=>h.2

theorem FrZ.size {sz:Nat} {C D:Array Value} {fr:Nat × Nat} (h:FrZ sz C fr) (hs:D.size=C.size):FrZ sz D fr:=h.imp id fun h=>⟨h.1,hs▸h.2⟩

structure Ext (σ:Sig) (π:bX) (w:World) (σ':Sig) (π':bX) (w':World):Prop where
 sig:∀b g l,σ b g=some l→σ' b g=some l
 prot:∀B o,π B o→π' B o
 cell:∀B o,π B o→w'.cell? ⟨B,o,none⟩=w.cell? ⟨B,o,none⟩
 size:∀b g l C e fr,σ b g=some l→w.heap[l.blk]? = some (.cells C e fr)→∃C' fr',w'.heap[l.blk]? = some (.cells C' e fr')∧C'.size=C.size
 mapc:∀B o C k,π B o→w.heap[B]? = some (.map C k)→w'.heap[B]? = some (.map C k)

theorem Ext.refl (σ:Sig) (π:bX) (w:World):Ext σ π w σ π w :=
 ⟨fun _ _ _ h=>h,fun _ _ h=>h,fun _ _ _=>rfl,fun _ _ _ C _ fr _ h=>⟨C,fr,h,rfl⟩,fun _ _ _ _ _ h=>h⟩

theorem Ext.trans {σ σ' σ'':Sig} {π π' π'':bX} {w w' w'':World} (h:Ext σ π w σ' π' w') (k:Ext σ' π' w' σ'' π'' w''):Ext σ π w σ'' π'' w'' :=
 ⟨fun b g l x=>k.sig b g l (h.sig b g l x),fun B o x=>k.prot B o (h.prot B o x),fun B o x=>(k.cell B o (h.prot B o x)).trans (h.cell B o x),
  fun b g l C e fr x y=>by
   obtain⟨C',fr',h1,h2⟩:=h.size b g l C e fr x y
   obtain⟨C'',fr'',h3,h4⟩:=k.size b g l C' e fr' (h.sig b g l x) h1
   exact⟨C'',fr'',h3,h4.trans h2⟩,fun B o C c hp hw=>k.mapc B o C c (h.prot B o hp) (h.mapc B o C c hp hw)⟩

theorem VR.mono {σ σ':Sig} {π π':bX} {w w':World} (h:Ext σ π w σ' π' w') {v:AV} {u:Value} (hv:VR σ π w v u):VR σ' π' w' v u:=by
 induction hv with
 | bool b=>exact .bool b
 | int k n=>exact .int k n
 | str s=>exact .str s
 | nilp=>exact .nilp
 | hp b o l hl=>exact .hp b o l (h.sig _ _ _ hl)
 | ep sz b g i j l hl hi=>exact .ep sz b g i j l (h.sig _ _ _ hl) hi
 | ip sz rows i j B o u hf hi hc hv ih =>
  exact .ip sz rows i j B o u hf hi (fun r q row v hr hq=>⟨(h.cell _ _ (hc r q row v hr hq).2).trans (hc r q row v hr hq).1,h.prot _ _ (hc r q row v hr hq).2⟩) ih
 | nils=>exact .nils
 | emps a=>exact .emps a
 | any u=>exact .any u
 | inl0 sz a c=>exact .inl0 sz a c
 | inl sz rows B o c u hf hl hc hv ih =>
  exact .inl sz rows B o c u hf hl (fun r q row v hr hq=>⟨(h.cell _ _ (hc r q row v hr hq).2).trans (hc r q row v hr hq).1,h.prot _ _ (hc r q row v hr hq).2⟩) ih
 | sl0 sz a c h0=>exact .sl0 sz a c h0
 | sl sz rows B o c u hf hl hc hv ih =>
  exact .sl sz rows B o c u hf hl (fun r q row v hr hq=>⟨(h.cell _ _ (hc r q row v hr hq).2).trans (hc r q row v hr hq).1,h.prot _ _ (hc r q row v hr hq).2⟩) ih
 | ref0 sz b g a=>exact .ref0 sz b g a
 | ref sz b g i n flg a c l hl hi hn ha hf C e hC hs =>
  obtain⟨C',fr',h1,h2⟩:=h.size b g l C e.1 e.2 hl hC
  exact .ref sz b g i n flg a c l (h.sig _ _ _ hl) hi hn ha hf C' (e.1,fr') h1 (by omega)
 | mapn=>exact .mapn
 | mp b l hl=>exact .mp b l (h.sig _ _ _ hl)
 | fn f c d hl hv hf ih=>exact .fn f c d hl ih hf
 | bm f c d hl hv ih=>exact .bm f c d hl ih
 | ps c d B o k hk hc hl hv ih=>exact .ps c d B o k hk (fun r u hr=>⟨(h.cell _ _ (hc r u hr).2).trans (hc r u hr).1,h.prot _ _ (hc r u hr).2⟩) hl ih
 | pp c i d B o hi hc hl hv ih=>exact .pp c i d B o hi (fun r u hr=>⟨(h.cell _ _ (hc r u hr).2).trans (hc r u hr).1,h.prot _ _ (hc r u hr).2⟩) hl ih
 | raw u=>exact .raw u
 | fm ks vs bs B cl C hw hp h1 h2 h3 hk hv hb hr ihk ihv=>exact .fm ks vs bs B cl C (h.mapc _ _ _ _ hp hw) (h.prot _ _ hp) h1 h2 h3 ihk ihv hb hr
 | nilf=>exact .nilf
 | agg c d hl hv ih=>exact .agg c d hl ih
 | tup c d hl hv ih=>exact .tup c d hl ih

theorem VRs.mono {σ σ':Sig} {π π':bX} {w w':World} (h:Ext σ π w σ' π' w') {c:List AV} {d:Array Value} (hv:VRs σ π w c d):VRs σ' π' w' c d :=
 ⟨hv.1,fun i v u h1 h2=>(hv.2 i v u h1 h2).mono h⟩

theorem VRs.at_ {σ:Sig} {π:bX} {w:World} {c:List AV} {d:Array Value} (h:VRs σ π w c d) {i:Nat} {v:AV} (hi:c[i]? = some v):∃u,d[i]? = some u∧VR σ π w v u:=by
 have hlt:i<d.size:=by
  rw[h.1]
  exact(List.getElem?_eq_some_iff.1 hi).1
 exact⟨d[i],by simp [hlt],h.2 i v _ hi (by simp [hlt])⟩

theorem VR.one {σ:Sig} {π:bX} {w:World} {v:AV} {u:Value} (h:VR σ π w v u) (h1:v.one=true):u.oneCell'=true:=by
 cases h<;>first|rfl | cases h1

theorem VR.sl_cases {σ:Sig} {π:bX} {w:World} {sz:Nat} {rows:List (List AV)} {u:Value} (h:VR σ π w (.sl sz rows) u):(rows=[]∧∃a c,u = .slice a 0 c∧(a=none→c=0))∨VR σ π w (.inl sz rows) u:=by
 cases h with
 | sl0 _ a c h0=>exact .inl ⟨rfl,a,c,rfl,h0⟩
 | sl _ _ B o c x hf hl hc hv=>exact .inr (.inl sz rows B o c x hf hl hc hv)

theorem VR.toSl {σ:Sig} {π:bX} {w:World} {sz:Nat} {rows:List (List AV)} {u:Value} (h:VR σ π w (.inl sz rows) u):VR σ π w (.sl sz rows) u:=by
 cases h with
 | inl0 _ a c=>exact .sl0 _ _ _ fun h=>by cases h
 | inl _ _ B o c x hf hl hc hv=>exact .sl sz rows B o c x hf hl hc hv

theorem VR.canS {σ:Sig} {π:bX} {w:World} {v:AV} {u:Value} (sz:Nat) (h:VR σ π w v u):VR σ π w (v.canS sz) u:=by
 cases v with
 | nils=>cases h;exact .sl0 _ _ _ fun _=>rfl
 | emps=>cases h;exact .sl0 _ _ _ fun _=>rfl
 | inl s rows=>exact h.toSl
 | _=>exact h

theorem VR.virt {σ:Sig} {π:bX} {w:World} {sz b g n:Nat} {f:Fl} (hf:f.whole=true) {u:Value} (h:VR σ π w (.ref sz b g 0 n f) u):VR σ π w (.ref sz b g 0 n .virt) u:=by
 cases h with
 | ref0 _ _ _ a=>exact .ref0 _ _ _ a
 | ref _ _ _ _ _ _ a c l hl hi hn ha hff C e hC hs=>exact .ref _ _ _ _ _ _ a c l hl hi hn ha (fun _=>hff hf) C e hC hs

theorem fS (σ:Sig) (π:bX) (w:World):VR σ π w dD undef:=.tup [] #[] rfl (fun i v u h=>by simp at h)

def jX (σ:Sig) (π:bX) (w:World) (c:List AV) (C:Array Value) (o:Nat):Prop:=∀(i:Nat) v,c[i]? = some v→∃u,C[o+i]? = some u∧VR σ π w v u

def BR (σ:Sig) (π:bX) (w:World) (b:Nat):Blk→Prop
 | .row c=>∃l C e,σ b 0=some l∧w.heap[l.blk]? = some (.cells C e (0,0))∧C.size=c.length∧jX σ π w c C 0∧(∀o,¬π l.blk o)
 | .arr sz rows gen wgen ro=>0<sz∧wgen≤gen∧fH sz rows∧(∀g,gen<g→σ b g=none)∧((rows=[]∧∀g,σ b g=none) ∨
  (∃l,σ b gen=some l∧l.m=rows.length∧(ro=false→∀o,¬π l.blk o)∧(∀o,rows.length*sz≤o→¬π l.blk o)) ∧
  (∀g l0,σ b g=some l0→wgen≤g→g≤gen→∃(l:Loc) (C:Array Value) (e:TypeId × (Nat × Nat)),σ b g=some l∧l.m≤rows.length∧w.heap[l.blk]? = some (.cells C e.1 e.2)∧(l.m*sz≤C.size∧FrZ sz C e.2) ∧
   ∀r row,r<l.m→rows[r]? = some row→jX σ π w row C (r*sz)))
 | .map es clock=>∃l C,σ b 0=some l∧w.heap[l.blk]? = some (.map C clock)∧C.size=es.length∧(∀o,¬π l.blk o) ∧
  ∀(i:Nat) k v born e,es[i]? = some (k,v,born)→C[i]? = some e→VR σ π w k e.key∧VR σ π w v e.val∧e.born=born∧v.refs=[]∧k.refs=[]
 | .none=>∀g,σ b g=none

theorem BR.real {σ:Sig} {π:bX} {w:World} {b sz gen wgen:Nat} {rows:List (List AV)} {ro:Bool} (k:BR σ π w b (.arr sz rows gen wgen ro)) {g0:Nat} {l0:Loc} (h:σ b g0=some l0) :
 0<sz∧wgen≤gen∧fH sz rows∧(∀g,gen<g→σ b g=none) ∧
  (∃l,σ b gen=some l∧l.m=rows.length∧(ro=false→∀o,¬π l.blk o)∧(∀o,rows.length*sz≤o→¬π l.blk o)) ∧
  (∀g l0,σ b g=some l0→wgen≤g→g≤gen→∃(l:Loc) (C:Array Value) (e:TypeId × (Nat × Nat)),σ b g=some l∧l.m≤rows.length∧w.heap[l.blk]? = some (.cells C e.1 e.2)∧(l.m*sz≤C.size∧FrZ sz C e.2) ∧
   ∀r row,r<l.m→rows[r]? = some row→jX σ π w row C (r*sz)):=by
 obtain⟨q1,q2,q3,q4,q5⟩:=k
 rcases q5 with⟨_,hn⟩ | ⟨q5,q6⟩
 · rw[hn g0] at h;cases h
 · exact⟨q1,q2,q3,q4,q5,q6⟩

structure Rel (σ:Sig) (π:bX) (w:World) (h:Nat→Option Blk):Prop where
 blk:∀b x,h b=some x→BR σ π w b x
 non:∀b,h b=none→∀g,σ b g=none
 inj:∀b g b' g' l l',σ b g=some l→σ b' g'=some l'→l.blk=l'.blk→b=b'
 lt:∀b g l,σ b g=some l→l.blk<w.heap.size
 prot:∀B o,π B o→B<w.heap.size

structure Frm (σ:Sig) (π:bX) (w:World) (σ':Sig) (π':bX) (w':World):Prop where
 size:w.heap.size≤w'.heap.size
 os:w'.os=w.os
 tape:w'.tape=w.tape
 output:w'.output=w.output
 same:∀B,B<w.heap.size→(∀b g l,σ b g=some l→l.blk≠B)→w'.heap[B]? = w.heap[B]?
 own:∀b g l,σ' b g=some l→w.heap.size≤l.blk∨∃b0 g0 l0,σ b0 g0=some l0∧l0.blk=l.blk
 pro:∀B o,π' B o→π B o∨w.heap.size≤B∨∃b0 g0 l0,σ b0 g0=some l0∧l0.blk=B

theorem Frm.refl (σ:Sig) (π:bX) (w:World):Frm σ π w σ π w :=
 ⟨Nat.le_refl _,rfl,rfl,rfl,fun _ _ _=>rfl,fun b g l h=>.inr ⟨b,g,l,h,rfl⟩,fun _ _ h=>.inl h⟩

theorem Frm.trans {σ σ' σ'':Sig} {π π' π'':bX} {w w' w'':World} (h:Frm σ π w σ' π' w') (k:Frm σ' π' w' σ'' π'' w''):Frm σ π w σ'' π'' w'' where
 size:=Nat.le_trans h.size k.size
 os:=k.os.trans h.os
 tape:=k.tape.trans h.tape
 output:=k.output.trans h.output
 same:=fun B hB hn=>by
  rw[k.same B (Nat.lt_of_lt_of_le hB h.size) ?_,h.same B hB hn]
  intro b g l hl e
  rcases h.own b g l hl with h1 | ⟨b0,g0,l0,h1,h2⟩
  · omega
  · exact hn b0 g0 l0 h1 (h2.trans e)
 own:=fun b g l hl=>by
  rcases k.own b g l hl with h1 | ⟨b0,g0,l0,h1,h2⟩
  · exact .inl (Nat.le_trans h.size h1)
  · rcases h.own b0 g0 l0 h1 with h3 | ⟨b1,g1,l1,h3,h4⟩
    · exact .inl (by omega)
    · exact .inr ⟨b1,g1,l1,h3,h4.trans h2⟩
 pro:=fun B o hp=>by
  rcases k.pro B o hp with h1 | h1 | ⟨b0,g0,l0,h1,h2⟩
  · exact h.pro B o h1
  · exact .inr (.inl (Nat.le_trans h.size h1))
  · rcases h.own b0 g0 l0 h1 with h3 | ⟨b1,g1,l1,h3,h4⟩
    · exact .inr (.inl (by omega))
    · exact .inr (.inr ⟨b1,g1,l1,h3,h4.trans h2⟩)

theorem jX.mono {σ σ':Sig} {π π':bX} {w w':World} (h:Ext σ π w σ' π' w') {c:List AV} {C:Array Value} {o:Nat} (k:jX σ π w c C o):jX σ' π' w' c C o :=
 fun i v hi=>let ⟨u,h1,h2⟩:=k i v hi;⟨u,h1,h2.mono h⟩

theorem BR.mono {σ σ':Sig} {π π':bX} {w w':World} (h:Ext σ π w σ' π' w') {b:Nat} {x:Blk} (k:BR σ π w b x)
 (hs:∀g,σ' b g=σ b g) (hw:∀g l,σ b g=some l→w'.heap[l.blk]? = w.heap[l.blk]?)
 (hp:∀g l o,σ b g=some l→π' l.blk o→π l.blk o):BR σ' π' w' b x:=by
 cases x with
 | row c =>
  obtain⟨l,C,e,h1,h2,h3,h4,h5⟩:=k
  exact⟨l,C,e,(hs 0).trans h1,(hw 0 l h1).trans h2,h3,h4.mono h,fun o ho=>h5 o (hp 0 l o h1 ho)⟩
 | arr sz rows gen wgen ro =>
  obtain⟨h1,h2,h3,h4,h5⟩:=k
  refine⟨h1,h2,h3,fun g hg=>(hs g).trans (h4 g hg),?_⟩
  rcases h5 with⟨h5,h6⟩ | ⟨⟨l,h5,h6,h7,h8⟩,h9⟩
  · exact .inl ⟨h5,fun g=>(hs g).trans (h6 g)⟩
  refine .inr ⟨⟨l,(hs _).trans h5,h6,fun hr o ho=>h7 hr o (hp _ l o h5 ho),fun o ho hh=>h8 o ho (hp _ l o h5 hh)⟩,fun g l0 hl0 hg hg'=>?_⟩
  obtain⟨l',C,e,q1,q2,q3,q4,q5⟩:=h9 g l0 (by rw[← hs g];exact hl0) hg hg'
  exact⟨l',C,e,(hs g).trans q1,q2,(hw g l' q1).trans q3,q4,fun r row hr hrow=>(q5 r row hr hrow).mono h⟩
 | map es clock =>
  obtain⟨l,C,h1,h2,h3,h4,h5⟩:=k
  refine⟨l,C,(hs 0).trans h1,(hw 0 l h1).trans h2,h3,fun o ho=>h4 o (hp 0 l o h1 ho),fun i kk v born e hi he=>?_⟩
  obtain⟨q1,q2,q3⟩:=h5 i kk v born e hi he
  exact⟨q1.mono h,q2.mono h,q3⟩
 | none=>exact fun g=>(hs g).trans (k g)

def pN (h:Nat→Option Blk):List (Nat × Blk)→Nat→Option Blk
 | []=>h
 | (b,x)::l=>pN (fun c=>if c=b then some x else h c) l

def gG (h:Nat→Option Blk) (n:Nat) (δ:Delta):Nat→Option Blk :=
 fun b=>if n≤b∧b<n+δ.nw.length then δ.nw[b - n]? else pN h δ.up b

end Go.Ws

namespace Go.Ws

structure Done (σ:Sig) (π:bX) (w:World) (σ':Sig) (π':bX) (w':World) (h':Nat→Option Blk):Prop where
 ext:Ext σ π w σ' π' w'
 frm:Frm σ π w σ' π' w'
 rel:Rel σ' π' w' h'

theorem Done.refl {σ:Sig} {π:bX} {w:World} {h:Nat→Option Blk} (R:Rel σ π w h):Done σ π w σ π w h:=⟨.refl _ _ _,.refl _ _ _,R⟩
theorem Done.trans {σ σ' σ'':Sig} {π π' π'':bX} {w w' w'':World} {h' h'':Nat→Option Blk} (a:Done σ π w σ' π' w' h') (b:Done σ' π' w' σ'' π'' w'' h''):Done σ π w σ'' π'' w'' h'' :=
 ⟨a.ext.trans b.ext,a.frm.trans b.frm,b.rel⟩

theorem i9 (h:Nat→Option Blk) (n:Nat) (v:AV):gG h n ⟨v,[],[]⟩=h:=by
 funext b
 simp [gG,pN]
 omega

def Sig.set (σ:Sig) (b g:Nat) (l:Loc):Sig:=fun b' g'=>if b'=b∧g'=g then some l else σ b' g'
theorem Sig.set_same (σ:Sig) (b g:Nat) (l:Loc):σ.set b g l b g=some l:=by simp [Sig.set]
theorem Sig.set_ne (σ:Sig) {b g b' g':Nat} (l:Loc) (h:¬(b'=b∧g'=g)):σ.set b g l b' g'=σ b' g':=by simp [Sig.set,h]
theorem Sig.set_neb (σ:Sig) {b g b' g':Nat} (l:Loc) (h:b'≠b):σ.set b g l b' g'=σ b' g':=by simp [Sig.set,h]
theorem Sig.set_old {σ:Sig} {b g b' g':Nat} {l l':Loc} (hn:σ b g=none) (h:σ b' g'=some l'):σ.set b g l b' g'=some l':=by
 unfold Sig.set
 split
 · rename_i e
   rw[e.1,e.2,hn] at h
   cases h
 · exact h

theorem eW (w:World) (o:Obj):(w.alloc o).heap.size=w.heap.size+1:=by unfold World.alloc;exact Array.size_push ..
theorem dC (w:World) (o:Obj) {B:Nat} (h:B<w.heap.size):(w.alloc o).heap[B]? = w.heap[B]?:=heap_alloc_old w o B h
theorem iE (w:World) (o:Obj):(w.alloc o).heap[w.heap.size]? = some o:=heap_alloc_new w o

theorem aK6 {w:World} {B:Nat} {o:Obj} (h:w.heap[B]? = some o):B<w.heap.size:=(Array.getElem?_eq_some_iff.1 h).1

theorem kP {w w':World} {B o:Nat} (h:w'.heap[B]? = w.heap[B]?):w'.cell? ⟨B,o,none⟩=w.cell? ⟨B,o,none⟩:=by
 simp [World.cell?,h]

theorem Ext.of_old {σ σ':Sig} {π:bX} {w w':World} (hs:∀b g l,σ b g=some l→σ' b g=some l) (hp:∀B o,π B o→B<w.heap.size)
 (hl:∀b g l,σ b g=some l→l.blk<w.heap.size) (hw:∀B,B<w.heap.size→w'.heap[B]? = w.heap[B]?):Ext σ π w σ' π w' :=
 ⟨hs,fun _ _ h=>h,fun B o h=>kP (hw B (hp B o h)),fun b g l C e fr h1 h2=>⟨C,fr,(hw _ (hl b g l h1)).trans h2,rfl⟩,fun B o C k h h2=>(hw B (hp B o h)).trans h2⟩

theorem aH6 {σ:Sig} {π:bX} {w:World} {h:Nat→Option Blk} (R:Rel σ π w h) {n:Nat} (hn:h n=none) (x:Blk) (v:AV) (m:Nat) (w':World) (o:Obj)
 (hw:∀B,B<w.heap.size→w'.heap[B]? = w.heap[B]?) (hsz:w'.heap.size=w.heap.size+1) (hnew:w'.heap[w.heap.size]? = some o) (hos:w'.os=w.os) (htp:w'.tape=w.tape) (hout:w'.output=w.output)
 (hx:BR (σ.set n 0 ⟨w.heap.size,m⟩) π w' n x) :
 Done σ π w (σ.set n 0 ⟨w.heap.size,m⟩) π w' (gG h n ⟨v,[],[x]⟩):=by
 have hnon:=R.non n hn
 have E:Ext σ π w (σ.set n 0 ⟨w.heap.size,m⟩) π w':=Ext.of_old (fun b g l hl=>Sig.set_old (hnon 0) hl) R.prot R.lt hw
 have hupd:∀b,gG h n ⟨v,[],[x]⟩ b=if b=n then some x else h b:=by
  intro b
  by_cases e:b=n
  · subst e;simp [gG]
  · simp only[gG,List.length_singleton,if_neg e]
    rw[if_neg (by omega)]
    rfl
 refine⟨E,⟨by omega,hos,htp,hout,fun B hB _=>hw B hB,fun b g l hl=>?_,fun B o hp=>.inl hp⟩,⟨fun b y hy=>?_,fun b hb g=>?_,fun b g b' g' l l' hl hl' he=>?_,fun b g l hl=>?_,fun B o hp=>?_⟩⟩
 · by_cases e:b=n∧g=0
   · rw[e.1,e.2,Sig.set_same] at hl
     cases hl
     exact .inl (Nat.le_refl _)
   · rw[Sig.set_ne σ _ e] at hl
     exact .inr ⟨b,g,l,hl,rfl⟩
 · rw[hupd] at hy
   split at hy
   · rename_i e;subst e;cases hy;exact hx
   · rename_i e
     exact(R.blk b y hy).mono E (fun g=>Sig.set_neb σ _ e) (fun g l hl=>hw _ (R.lt b g l hl)) (fun _ _ _ _ hp=>hp)
 · rw[hupd] at hb
   split at hb
   · cases hb
   · rename_i e
     rw[Sig.set_neb σ _ e]
     exact R.non b hb g
 · by_cases e:b=n∧g=0
   · rw[e.1,e.2,Sig.set_same] at hl
     cases hl
     by_cases e':b'=n∧g'=0
     · exact e.1.trans e'.1.symm
     · rw[Sig.set_ne σ _ e'] at hl'
       have:=R.lt _ _ _ hl'
       simp at he
       omega
   · rw[Sig.set_ne σ _ e] at hl
     by_cases e':b'=n∧g'=0
     · rw[e'.1,e'.2,Sig.set_same] at hl'
       cases hl'
       have:=R.lt _ _ _ hl
       simp at he
       omega
     · rw[Sig.set_ne σ _ e'] at hl'
       exact R.inj _ _ _ _ _ _ hl hl' he
 · by_cases e:b=n∧g=0
   · rw[e.1,e.2,Sig.set_same] at hl
     cases hl
     simp
     omega
   · rw[Sig.set_ne σ _ e] at hl
     have:=R.lt _ _ _ hl
     omega
 · have:=R.prot B o hp
   omega

theorem iQ {σ σ':Sig} {π:bX} {w w':World} {h:Nat→Option Blk} (R:Rel σ π w h) {n b:Nat} {x x':Blk} (hb:h b=some x) (v:AV)
 (E:Ext σ π w σ' π w') (hσ:∀b' g,b'≠b→σ' b' g=σ b' g)
 (hown:∀g l,σ' b g=some l→(∃g0 l0,σ b g0=some l0∧l0.blk=l.blk)∨(w.heap.size≤l.blk∧l.blk<w'.heap.size))
 (hw:∀B,B<w.heap.size→(∀g l,σ b g=some l→l.blk≠B)→w'.heap[B]? = w.heap[B]?) (hsz:w.heap.size≤w'.heap.size)
 (hos:w'.os=w.os) (htp:w'.tape=w.tape) (hout:w'.output=w.output) (hx:BR σ' π w' b x') :
 Done σ π w σ' π w' (gG h n ⟨v,[(b,x')],[]⟩):=by
 have hupd:∀c,gG h n ⟨v,[(b,x')],[]⟩ c=if c=b then some x' else h c:=by
  intro c
  simp only[gG,List.length_nil,Nat.add_zero,pN]
  rw[if_neg (by omega)]
 have hdis:∀b' g l,b'≠b→σ b' g=some l→∀g0 l0,σ b g0=some l0→l0.blk≠l.blk:=fun b' g l hne hl g0 l0 hl0 he=>hne (R.inj _ _ _ _ _ _ hl hl0 he.symm)
 refine⟨E,⟨hsz,hos,htp,hout,fun B hB hn=>hw B hB (fun g l hl=>hn b g l hl),fun c g l hl=>?_,fun B o hp=>.inl hp⟩,⟨fun c y hy=>?_,fun c hc g=>?_,fun c g c' g' l l' hl hl' he=>?_,fun c g l hl=>?_,fun B o hp=>?_⟩⟩
 · by_cases e:c=b
   · subst e
     rcases hown g l hl with⟨g0,l0,h1,h2⟩ | ⟨h1,_⟩
     · exact .inr ⟨c,g0,l0,h1,h2⟩
     · exact .inl h1
   · rw[hσ c g e] at hl
     exact .inr ⟨c,g,l,hl,rfl⟩
 · rw[hupd] at hy
   split at hy
   · rename_i e;subst e;cases hy;exact hx
   · rename_i e
     exact(R.blk c y hy).mono E (fun g=>hσ c g e) (fun g l hl=>hw _ (R.lt c g l hl) (hdis c g l e hl)) (fun _ _ _ _ hp=>hp)
 · rw[hupd] at hc
   split at hc
   · cases hc
   · rename_i e
     rw[hσ c g e]
     exact R.non c hc g
 · by_cases e:c=b
   · by_cases e':c'=b
     · exact e.trans e'.symm
     · subst e
       rw[hσ c' g' e'] at hl'
       rcases hown g l hl with⟨g0,l0,h1,h2⟩ | ⟨h1,_⟩
       · exact R.inj _ _ _ _ _ _ h1 hl' (h2.trans he)
       · have:=R.lt _ _ _ hl'
         omega
   · rw[hσ c g e] at hl
     by_cases e':c'=b
     · subst e'
       rcases hown g' l' hl' with⟨g0,l0,h1,h2⟩ | ⟨h1,_⟩
       · exact R.inj _ _ _ _ _ _ hl h1 (he.trans h2.symm)
       · have:=R.lt _ _ _ hl
         omega
     · rw[hσ c' g' e'] at hl'
       exact R.inj _ _ _ _ _ _ hl hl' he
 · by_cases e:c=b
   · subst e
     rcases hown g l hl with⟨g0,l0,h1,h2⟩ | ⟨_,h1⟩
     · have:=R.lt _ _ _ h1
       omega
     · exact h1
   · rw[hσ c g e] at hl
     have:=R.lt _ _ _ hl
     omega
 · have:=R.prot B o hp
   omega


section
variable {σ:Sig} {π:bX} {w:World}
theorem VRs.set {c:List AV} {d:Array Value} (hv:VRs σ π w c d) {i:Nat} {v v':AV} (hi:c[i]? = some v) (hw:∀u,VR σ π w v u→VR σ π w v' u):VRs σ π w (c.set i v') d:=by
 refine⟨by simp [hv.1],fun j x u hj hu=>?_⟩
 rw[List.getElem?_set] at hj
 split at hj
 · rename_i e
   subst e
   split at hj
   · cases hj;exact hw u (hv.2 _ v u hi hu)
   · cases hj
 · exact hv.2 j x u hj hu

theorem aDV:∀{vs:List (Nat × Nat)} {c:List AV} {d:Array Value},VRs σ π w c d→VRs σ π w (nW vs c) d
 | [],_,_,hv=>hv
 | (i,sz)::vs,c,d,hv=>by
  simp only[nW]
  refine aDV ?_
  cases hi:c[i]? with
  | none=>exact hv
  | some v=>exact hv.set hi fun u hu=>hu.canS sz

theorem VR.cast {v:AV} {u:Value} (vs:List (Nat × Nat)) (hv:VR σ π w v u):VR σ π w (rB vs v) u:=by
 unfold rB
 split
 · cases hv with
   | agg _ d hl hv =>
    have:=aDV (vs:=vs) (⟨hl,hv⟩:VRs σ π w _ d)
    exact .agg _ d this.1 this.2
 · split
   · exact hv
   · exact hv.canS _

end
end Go.Ws

namespace Go.Ws

theorem bW {v:AV} {h:Nat→Option Blk} {δ:Delta} {L:List Nat} (e:(AM.val v).run h=some (δ,L)):δ=⟨v,[],[]⟩:=by
 simp only[AM.val,AM.run,Option.some.injEq,Prod.mk.injEq] at e
 exact e.1.symm
theorem cT {α:Type} {v:α} {h:Nat→Option Blk} {δ:α} {L:List Nat} (e:(AM.ret v).run h=some (δ,L)):δ=v:=by
 simp only[AM.run,Option.some.injEq,Prod.mk.injEq] at e
 exact e.1.symm
theorem aO {α:Type} {h:Nat→Option Blk} {r:α × List Nat} (e:(AM.fail:AM α).run h=some r):False:=by simp [AM.run] at e
theorem jV {α β:Type} {x:Option α} {f:α→AM β} {h:Nat→Option Blk} {r:β × List Nat} (e:((AM.of x).bind f).run h=some r):∃a,x=some a∧(f a).run h=some r:=by
 cases x with
 | none=>simp [AM.of,AM.bind,AM.run] at e
 | some a=>exact⟨a,rfl,e⟩
theorem lC {α:Type} {b:Nat} {k:Blk→AM α} {h:Nat→Option Blk} {a:α} {L:List Nat} (e:(AM.rd b k).run h=some (a,L)):∃x L',h b=some x∧(k x).run h=some (a,L')∧L=b::L':=by
 simp only[AM.run] at e
 split at e
 · cases e
 · rename_i x hx
   split at e
   · cases e
   · rename_i a' l' hk
     simp only[Option.some.injEq,Prod.mk.injEq] at e
     exact⟨x,l',hx,by rw[hk,e.1],e.2.symm⟩
theorem kO {α β:Type} {m:AM α} {f:α→AM β} {h:Nat→Option Blk} {r:β} {L:List Nat} (e:(m.bind f).run h=some (r,L)):∃a L1 L2,m.run h=some (a,L1)∧(f a).run h=some (r,L2)∧L=L1++L2:=by
 induction m generalizing L with
 | ret a=>exact⟨a,[],L,rfl,e,rfl⟩
 | fail=>simp [AM.bind,AM.run] at e
 | rd b k ih =>
  simp only[AM.bind] at e
  obtain⟨x,L',hx,hk,hL⟩:=lC e
  obtain⟨a,L1,L2,h1,h2,h3⟩:=ih x hk
  exact⟨a,b::L1,L2,by simp [AM.run,hx,h1],h2,by simp [hL,h3]⟩

theorem bT {P:Program} {t:Nat} {i:TI} (h:dS P t=some i):∃d inf,P.underlying t=some d∧P.info? t=some inf∧i=⟨oS d,inf.size,inf.bytes,inf.zero.bind zG,!P.eqGuardType P.depth t && !P.stoodInHeld t && aG9 d⟩:=by
 unfold dS at h
 split at h
 · rename_i d inf hd hi
   exact⟨d,inf,hd,hi,(Option.some.inj h).symm⟩
 · cases h

theorem gK {d:TypeDesc} {e:Nat} (h:oS d = .slice e):d = .slice e:=by cases d<;>simp [oS] at h;subst h;rfl
theorem q8 {d:TypeDesc} {n e:Nat} (h:oS d = .array n e):d = .array n e:=by cases d<;>simp [oS] at h;obtain⟨rfl,rfl⟩:=h;rfl
theorem yJ {d:TypeDesc} {n e:Nat} (h:oS d = .map n e):d = .map n e:=by cases d<;>simp [oS] at h;obtain⟨rfl,rfl⟩:=h;rfl
theorem tk_ptr {d:TypeDesc} {e:Nat} (h:oS d = .ptr e):d = .pointer e:=by cases d<;>simp [oS] at h;subst h;rfl
theorem xP {d:TypeDesc} (h:oS d = .str):d = .string:=by cases d<;>simp [oS] at h;rfl
theorem aHK {d:TypeDesc} (h:oS d = .bool):d = .bool:=by cases d<;>simp [oS] at h;rfl
theorem tO {d:TypeDesc} {k:IntKind} (h:oS d = .int k):d = .int k:=by cases d<;>simp [oS] at h;subst h;rfl
theorem uK {d:TypeDesc} {fs:List (Nat × Nat)} (h:oS d = .struct fs):∃f,d = .struct f∧fs=f.toList.map fun f=>(f.offset,f.type):=by cases d<;>simp [oS] at h;exact⟨_,rfl,h.symm⟩
theorem aLH {d:TypeDesc} (h:oS d = .func):∃a b c,d = .func a b c:=by cases d<;>simp [oS] at h;exact⟨_,_,_,rfl⟩

def aggB (d:TypeDesc):Bool:=match oS d with | .struct _ | .array _ _=>true | _=>false

theorem aHD {P:Program} {t:Nat} {d:TypeDesc} (h:P.underlying t=some d) (w:World):(isAgg t).run P w = .ok (aggB d) w:=by
 unfold isAgg
 simp only[Sem.run_bind,run_underlying h,Result.andThen_ok]
 cases d<;>rfl

theorem gE {P:Program} {t:Nat} {inf:TypeInfo} (h:P.info? t=some inf) (w:World):(sizeOf t).run P w = .ok inf.size w:=by
 simp [sizeOf,typeInfo,h]

theorem aBS {u:Value} {v:AV} (h:pP u=some v) (σ:Sig) (π:bX) (w:World):VR σ π w v u:=by
 unfold pP at h
 split at h<;>first|(cases h;done)|(cases h;constructor)

theorem aII {l:List Value} {c:List AV} (h:l.mapM pP=some c) (σ:Sig) (π:bX) (w:World):VRs σ π w c l.toArray:=by
 induction l generalizing c with
 | nil=>simp at h;subst h;exact⟨rfl,fun i v u h=>by simp at h⟩
 | cons u l ih =>
  simp only[List.mapM_cons,Option.bind_eq_bind,Option.bind_eq_some_iff,Option.pure_def,Option.some.injEq] at h
  obtain⟨v,hv,c',hc,rfl⟩:=h
  obtain⟨h1,h2⟩:=ih hc
  refine⟨by simpa using h1,fun i x y hx hy=>?_⟩
  cases i with
  | zero=>simp at hx hy;subst hx;subst hy;exact aBS hv σ π w
  | succ i=>simp at hx hy;exact h2 i x y hx (by simpa using hy)

theorem qZ {u:Value} {v:AV} (h:zG u=some v) (σ:Sig) (π:bX) (w:World):VR σ π w v u:=by
 unfold zG at h
 split at h
 · rename_i cs
   obtain⟨c,hc,rfl⟩:=Option.map_eq_some_iff.1 h
   obtain⟨h1,h2⟩:=aII hc σ π w
   exact .agg c cs (by simpa using h1) (fun i x y hx hy=>h2 i x y hx (by simpa using hy))
 · rename_i cs
   obtain⟨c,hc,rfl⟩:=Option.map_eq_some_iff.1 h
   obtain⟨h1,h2⟩:=aII hc σ π w
   exact .tup c cs (by simpa using h1) (fun i x y hx hy=>h2 i x y hx (by simpa using hy))
 · exact aBS h σ π w

theorem VR.cellsN {σ:Sig} {π:bX} {w:World} {v:AV} {u:Value} (h:VR σ π w v u) (h1:v ≠ .any):VRs σ π w v.cells u.cells:=by
 cases h with
 | any u=>exact absurd rfl h1
 | agg c d hl hv=>exact⟨hl,hv⟩
 | _ =>
  refine⟨rfl,fun i x y hx hy=>?_⟩
  cases i with
  | zero=>simp [AV.cells,Value.cells] at hx hy;subst hx;subst hy;first|assumption | (constructor<;>assumption)|constructor
  | succ i=>simp [AV.cells] at hx

theorem VR.cells {σ:Sig} {π:bX} {w:World} {v:AV} {u:Value} (h:VR σ π w v u) (h1:v.cells.all AV.one=true):VRs σ π w v.cells u.cells :=
 h.cellsN fun e=>by subst e;simp [AV.cells,AV.one] at h1

theorem aDX {u:Value} {v:AV} (h:zG u=some v):v ≠ .any:=by
 intro e
 subst e
 unfold zG at h
 split at h
 · simp at h
 · simp at h
 · unfold pP at h
   split at h<;>cases h

def cG (P:Program) (s:Sem Next) (σ:Sig) (π:bX) (w:World) (h:Nat→Option Blk) (n:Nat) (δ:Delta):Prop :=
 ∃r u w' σ' π',s.run P w = .ok r w'∧(r = .value u∨(r = .skip∧u=undef))∧VR σ' π' w' δ.v u∧Done σ π w σ' π' w' (gG h n δ)

section
variable {P:Program} {σ:Sig} {π:bX} {w:World} {h:Nat→Option Blk} {n:Nat} {δ:Delta} {L:List Nat}

theorem iV {s:Sem Value} {u:Value} {w':World} (hr:s.run P w = .ok u w'):(do pure (.value (← s)):Sem Next).run P w = .ok (.value u) w':=by
 simp [hr]
theorem aIO {s:Sem Unit} {w':World} (hr:s.run P w = .ok () w'):(do s;pure .skip:Sem Next).run P w = .ok .skip w':=by
 simp [hr]

theorem a8 (R:Rel σ π w h) {s:Sem Value} {u:Value} {v:AV} (hr:s.run P w = .ok u w) (hv:VR σ π w v u):cG P (do pure (.value (← s))) σ π w h n ⟨v,[],[]⟩ :=
 ⟨_,u,w,σ,π,iV hr,.inl rfl,hv,by rw[i9];exact .refl R⟩

theorem f0 (B o k:Nat):(⟨B,o,none⟩:Addr).add k=⟨B,o+k,none⟩:=Addr.add_lit B o k

theorem aK9 {σ:Sig} {π:bX} {w':World} {n:Nat} {l:Loc} {c:List AV} {d:Array Value} {e:TypeId} (hs:σ n 0=some l) (hh:w'.heap[l.blk]? = some (.cells d e (0,0)))
 (hv:VRs σ π w' c d) (hp:∀o,¬π l.blk o):BR σ π w' n (.row c) :=
 ⟨l,d,e,hs,hh,hv.1,fun i v hi=>by simpa using hv.at_ hi,hp⟩

theorem aFT (R:Rel σ π w h) (hn:h n=none) (e:TypeId) (v:AV) (u:Value) (hv:VR σ π w v u) (h1:v.cells.all AV.one=true) :
 ∃w' σ',(newVar e u).run P w = .ok ⟨w.heap.size,0,none⟩ w'∧VR σ' π w' (.hp n 0) (.pointer (some ⟨w.heap.size,0,none⟩))∧Done σ π w σ' π w' (gG h n ⟨.hp n 0,[],[.row v.cells]⟩):=by
 refine⟨w.alloc (.cells u.cells e),σ.set n 0 ⟨w.heap.size,0⟩,rfl,.hp n 0 ⟨w.heap.size,0⟩ (Sig.set_same ..),?_⟩
 have hnon:=R.non n hn
 have E:Ext σ π w (σ.set n 0 ⟨w.heap.size,0⟩) π (w.alloc (.cells u.cells e)):=Ext.of_old (fun b g l hl=>Sig.set_old (hnon 0) hl) R.prot R.lt (fun B hB=>dC w _ hB)
 exact aH6 R hn _ _ 0 _ (.cells u.cells e) (fun B hB=>dC w _ hB) (eW ..) (iE ..) rfl rfl rfl
  (aK9 (Sig.set_same ..) (iE w _) ((hv.cells h1).mono E) (fun o ho=>Nat.lt_irrefl _ (R.prot _ _ ho)))

theorem op_alloc (R:Rel σ π w h) (hn:δ.nw≠[]→h n=none) (t:Nat) (e:(aKC (dS P) n t).run h=some (δ,L)) :
 cG P (do pure (.value (← Instr.alloc t true (.tuple #[])))) σ π w h n δ:=by
 unfold aKC at e
 split at e
 · rename_i i hi
   split at e
   · rename_i z hz
     split at e
     · rename_i h1c
       have hδ:=cT e
       subst hδ
       obtain⟨d,inf,h1,h2,rfl⟩:=bT hi
       simp only[Option.bind_eq_some_iff] at hz
       obtain⟨u,hu,hz⟩:=hz
       obtain⟨w',σ',hr,hv,hd⟩:=aFT (P:=P) R (hn (by simp)) t z u (qZ hz σ π w) h1c
       refine⟨_,_,w',σ',π,iV ?_,.inl rfl,hv,hd⟩
       simp [Instr.alloc,zeroValue,typeInfo,h2,hu,hr]
     · exact(aO e).elim
   · exact(aO e).elim
 · exact(aO e).elim

theorem op_box (R:Rel σ π w h) (hn:δ.nw≠[]→h n=none) (t:Nat) (v:AV) (u:Value) (hv:VR σ π w v u) (e:(aBox n v).run h=some (δ,L)) :
 cG P (do pure (.value (← Instr.box t u))) σ π w h n δ:=by
 unfold aBox at e
 split at e
 · rename_i h1c
   have hδ:=cT e
   subst hδ
   obtain⟨w',σ',hr,hv',hd⟩:=aFT (P:=P) R (hn (by simp)) t v u hv h1c
   exact⟨_,_,w',σ',π,iV (by simp [Instr.box,hr]),.inl rfl,hv',hd⟩
 · exact(aO e).elim

theorem mkVal_vr {agg:Bool} {l:List AV} {v:AV} (e:xC agg l=some v) {d:List Value} (hv:VRs σ π w l d.toArray) :
 (agg=true∧VR σ π w v (.agg d.toArray))∨(agg=false∧∃u,d=[u]∧VR σ π w v u):=by
 unfold xC at e
 split at e
 · rename_i ha
   cases e
   exact .inl ⟨ha,.agg l _ hv.1 hv.2⟩
 · rename_i ha
   split at e
   · cases e
     have hl:=hv.1
     simp at hl
     obtain⟨u,rfl⟩:=List.length_eq_one_iff.1 hl
     exact .inr ⟨by simpa using ha,u,rfl,hv.2 0 _ _ rfl rfl⟩
   · cases e

theorem nM {t:Nat} {d:TypeDesc} {inf:TypeInfo} (h1:P.underlying t=some d) (h2:P.info? t=some inf) (B o:Nat) (cs:List Value) (hl:cs.length=inf.size)
 (hc:∀j v,cs[j]? = some v→w.cell? ⟨B,o+j,none⟩=some v) {l:List AV} {v:AV} (hv:VRs σ π w l cs.toArray)
 (e:xC (TI.isAgg ⟨oS d,inf.size,inf.bytes,inf.zero.bind zG,!P.eqGuardType P.depth t && !P.stoodInHeld t && aG9 d⟩) l=some v) :
 ∃u,(loadVar t ⟨B,o,none⟩).run P w = .ok u w∧VR σ π w v u:=by
 have hld:=run_loadCells_list (P:=P) w ⟨B,o,none⟩ cs (fun j v hj=>by rw[f0];exact hc j v hj)
 rw[hl] at hld
 rcases mkVal_vr e hv with⟨ha,hv'⟩ | ⟨ha,u,rfl,hv'⟩
 · refine⟨.agg cs.toArray,?_,hv'⟩
   have ha':aggB d=true:=ha
   simp only[loadVar,Sem.run_bind,aHD h1,Result.andThen_ok,ha',if_true,gE h2,hld,Sem.run_pure]
 · refine⟨u,?_,hv'⟩
   have ha':aggB d=false:=ha
   have h0:=hc 0 u rfl
   simp only[Nat.add_zero] at h0
   simp [loadVar,aHD h1,ha',h0]

theorem aFJ {c:List AV} {C:Array Value} {o k:Nat} {s:Nat} (hr:jX σ π w c C s) (hk:o+k≤c.length) :
 ∃cs:List Value,cs.length=k∧(∀(j:Nat) v,cs[j]? = some v→C[s+o+j]? = some v)∧VRs σ π w ((c.drop o).take k) cs.toArray:=by
 refine⟨(List.range k).map fun j=>C[s+o+j]?.getD undef,by simp,fun j v hj=>?_,by simp;omega,fun j v u hv hu=>?_⟩
 · simp only[List.getElem?_map] at hj
   rcases Nat.lt_or_ge j k with hlt | hge
   · simp only[List.getElem?_range hlt,Option.map_some,Option.some.injEq] at hj
     obtain ⟨x, hx⟩ : ∃ x, c[o + j]? = some x := ⟨c[o + j]'(by omega), List.getElem?_eq_getElem (by omega)⟩
     obtain⟨u,hu,_⟩:=hr (o+j) x hx
     rw[← Nat.add_assoc] at hu
     rw[hu] at hj ⊢
     simpa using hj
   · simp [List.getElem?_eq_none (show (List.range k).length≤j by simpa using hge)] at hj
 · have hlt:j<k:=by
    have:=(List.getElem?_eq_some_iff.1 hv).1
    simp at this
    omega
   simp only[List.getElem?_take,List.getElem?_drop,hlt,if_true] at hv
   obtain⟨u',hu',hv'⟩:=hr (o+j) v hv
   rw[← Nat.add_assoc] at hu'
   simp [List.getElem?_range hlt,hu'] at hu
   subst hu
   exact hv'

end
end Go.Ws

namespace Go.Ws
set_option linter.unusedVariables false
set_option linter.unusedSimpArgs false

section
variable {P:Program} {σ:Sig} {π:bX} {w:World} {h:Nat→Option Blk} {n:Nat} {δ:Delta} {L:List Nat}

theorem xB {sz:Nat} {rows:List (List AV)} {r j k:Nat} {l:List AV} (hf:∀row∈rows,row.length=sz) (e:fR sz rows r j k=some l) :
 l.length=k∧∀(q:Nat) v,l[q]? = some v→∃r' j' row,rows[r']? = some row∧row[j']? = some v∧r'*sz+j'=r*sz+j+q∧(j+k≤sz→r'=r):=by
 unfold fR at e
 split at e
 · rename_i hle
   split at e
   · rename_i row hrow
     cases e
     have hl:row.length=sz:=hf row (List.mem_of_getElem? hrow)
     refine⟨by simp;omega,fun q v hq=>⟨r,j+q,row,hrow,?_,by omega,fun _=>rfl⟩⟩
     simp only[List.getElem?_take,List.getElem?_drop] at hq
     split at hq
     · exact hq
     · cases hq
   · cases e
 · rename_i hnle
   split at e
   · rename_i hc
     obtain⟨rfl,rfl,hle⟩:=hc
     cases e
     have key:∀(rs:List (List AV)),(∀row∈rs,row.length=1)→rs.flatten.length=rs.length∧∀(q:Nat) v,rs.flatten[q]? = some v→∃row,rs[q]? = some row∧row[0]? = some v:=by
      intro rs
      induction rs with
      | nil=>intro _;exact⟨rfl,fun q v hq=>by simp at hq⟩
      | cons row rs ih =>
       intro hrs
       obtain⟨h1,h2⟩:=ih (fun x hx=>hrs x (List.mem_cons_of_mem _ hx))
       obtain⟨x,rfl⟩:=List.length_eq_one_iff.1 (hrs row (List.mem_cons_self ..))
       refine⟨by simpa using h1,fun q v hq=>?_⟩
       cases q with
       | zero=>simp at hq;subst hq;exact⟨[x],rfl,rfl⟩
       | succ q=>simp at hq;simpa using h2 q v hq
     have hsub:∀row∈(rows.drop r).take k,row.length=1:=fun row hr=>hf row (List.mem_of_mem_drop (List.mem_of_mem_take hr))
     obtain⟨h1,h2⟩:=key _ hsub
     refine⟨by rw[h1];simp;omega,fun q v hq=>?_⟩
     obtain⟨row,hr,hv⟩:=h2 q v hq
     simp only[List.getElem?_take,List.getElem?_drop] at hr
     split at hr
     · exact⟨r+q,0,row,hr,hv,by omega,fun hh=>absurd hh hnle⟩
     · cases hr
   · cases e

theorem aLS {l:List AV} {f:Nat→Option Value} (hf:∀(q:Nat) v,l[q]? = some v→∃u,f q=some u∧VR σ π w v u) :
 ∃cs:List Value,cs.length=l.length∧(∀(q:Nat) u,cs[q]? = some u→f q=some u)∧VRs σ π w l cs.toArray:=by
 refine⟨(List.range l.length).map fun q=>(f q).getD undef,by simp,fun q u hq=>?_,by simp,fun q v u hv hu=>?_⟩
 · simp only[List.getElem?_map] at hq
   rcases Nat.lt_or_ge q l.length with hlt | hge
   · simp only[List.getElem?_range hlt,Option.map_some,Option.some.injEq] at hq
     obtain⟨u',hu',_⟩:=hf q _ (List.getElem?_eq_getElem hlt)
     rw[hu'] at hq ⊢
     simpa using hq
   · simp [List.getElem?_eq_none (show (List.range l.length).length≤q by simpa using hge)] at hq
 · have hlt:=(List.getElem?_eq_some_iff.1 hv).1
   obtain⟨u',hu',hv'⟩:=hf q v hv
   simp [List.getElem?_range hlt,hu'] at hu
   subst hu
   exact hv'

theorem op_load (R:Rel σ π w h) (t:Nat) (p:AV) (u:Value) (hp:VR σ π w p u) (e:(aDY (dS P) t p).run h=some (δ,L)) :
 cG P (do pure (.value (← Instr.loadAt t u))) σ π w h n δ:=by
 unfold aDY at e
 split at e
 · exact(aO e).elim
 · rename_i i hi
   obtain⟨d,inf,h1,h2,rfl⟩:=bT hi
   split at e
   · rename_i b o
     obtain⟨x,L',hx,e,_⟩:=lC e
     split at e
     · rename_i c
       split at e
       · rename_i hle
         obtain⟨v,hv,e⟩:=jV e
         have hδ:=bW e
         subst hδ
         cases hp with
         | hp _ _ l hl =>
          obtain⟨l',C,ty,q1,q2,q3,q4,q5⟩:=R.blk b _ hx
          rw[hl] at q1
          cases q1
          obtain⟨cs,hcl,hcs,hvr⟩:=aFJ q4 hle
          obtain⟨u,hr,hvu⟩:=nM (P:=P) (w:=w) h1 h2 l.blk o cs hcl (fun j v hj=>by have:=hcs j v hj;simp [World.cell?,q2];simpa using this) hvr hv
          exact a8 R (by simp [Instr.loadAt,Instr.sureAddr,hr]) hvu
       · exact(aO e).elim
     · exact(aO e).elim
   · rename_i sz b g r j
     obtain⟨x,L',hx,e,_⟩:=lC e
     split at e
     · rename_i s rows gen wgen ro
       split at e
       · rename_i hc
         obtain⟨rfl,hg1,hg2,hin⟩:=hc
         obtain⟨v,hv,e⟩:=jV e
         obtain⟨l,hl,hv⟩:=Option.bind_eq_some_iff.1 hv
         have hδ:=bW e
         subst hδ
         cases hp with
         | ep _ _ _ _ _ lc hlc hi =>
          obtain⟨q1,q2,q3,q4,q5,q6⟩:=BR.real (R.blk b _ hx) hlc
          obtain⟨l',C,ty,a1,a2,a3,a4,a5⟩:=q6 g _ hlc hg1 hg2
          rw[hlc] at a1
          cases a1
          obtain⟨k1,k2⟩:=xB (fun row hr=>(q3 row hr).1) hl
          obtain⟨cs,c1,c2,c3⟩:=aLS (σ:=σ) (π:=π) (w:=w) (l:=l) (f:=fun q=>w.cell? ⟨lc.blk,r*s+j+q,none⟩) (fun q v hq=>by
           obtain⟨r',j',row,b1,b2,b3,b4⟩:=k2 q v hq
           obtain rfl:=b4 hin
           obtain⟨u,hu,hv⟩:=a5 r' row hi b1 j' v b2
           exact⟨u,by simp [World.cell?,a3,← b3,hu],hv⟩)
          obtain⟨u,hr,hvu⟩:=nM (P:=P) (w:=w) h1 h2 lc.blk (r*s+j) cs (by rw[c1,k1]) c2 c3 hv
          exact a8 R (by simp [Instr.loadAt,Instr.sureAddr,hr]) hvu
       · exact(aO e).elim
     · exact(aO e).elim
   · rename_i sz rows r j
     obtain⟨v,hv,e⟩:=jV e
     obtain⟨l,hl,hv⟩:=Option.bind_eq_some_iff.1 hv
     have hδ:=bW e
     subst hδ
     cases hp with
     | ip _ _ _ _ B o u hf hi hc hvv =>
      obtain⟨k1,k2⟩:=xB (fun row hr=>(hf row hr).1) hl
      obtain⟨cs,c1,c2,c3⟩:=aLS (σ:=σ) (π:=π) (w:=w) (l:=l) (f:=fun q=>w.cell? ⟨B,o+r*sz+j+q,none⟩) (fun q v hq=>by
       obtain⟨r',j',row,b1,b2,b3,b4⟩:=k2 q v hq
       refine⟨u r' j',?_,hvv r' j' row v b1 b2⟩
       have:=(hc r' j' row v b1 b2).1
       rwa [show o+r'*sz+j'=o+r*sz+j+q by omega] at this)
      obtain⟨u,hr,hvu⟩:=nM (P:=P) (w:=w) h1 h2 B (o+r*sz+j) cs (by rw[c1,k1]) c2 c3 hv
      exact a8 R (by simp [Instr.loadAt,Instr.sureAddr,hr]) hvu
   · rename_i c r
     split at e
     · rename_i h1s
       obtain⟨v,hv,e⟩:=jV e
       obtain⟨x,hx,hv⟩:=Option.bind_eq_some_iff.1 hv
       have hδ:=bW e
       subst hδ
       cases hp with
       | pp _ _ d B o hi hc hl hvv =>
        obtain⟨u0,hu0,hvx⟩:=VRs.at_ (⟨hl,hvv⟩:VRs σ π w c d) hx
        obtain⟨u,hr,hvu⟩:=nM (P:=P) (w:=w) h1 h2 B (o+r) [u0] (by simpa using h1s.symm) (fun j v hj=>by
         match j,hj with
         | 0,hj=>cases hj;exact(hc r u0 hu0).1) (l:=[x]) ⟨rfl,fun i v u hi hu=>by
         match i,hi,hu with
         | 0,hi,hu=>cases hi;cases hu;exact hvx⟩ hv
        exact a8 R (by simp [Instr.loadAt,Instr.sureAddr,hr]) hvu
     · exact(aO e).elim
   · exact(aO e).elim

theorem gD (P:Program) (g o:Nat) (t:TypeId) (fr:Nat × Nat):∀(vs:List Value) (i:Nat) (cur:Array Value) (w:World),w.heap[g]? = some (.cells cur t fr)→aB8 cur fr→o+i+vs.length≤cur.size→(∀v∈vs,v.oneCell'=true) →
 (storeCells ⟨g,o,none⟩ vs i).run P w = .ok () (w.setRow g (cur.toList.take (o+i)++vs++cur.toList.drop (o+i+vs.length)).toArray)
 | [],i,cur,w,hg,_,_,_=>by
  simp only[storeCells,List.append_nil,List.length_nil,Nat.add_zero,List.take_append_drop,Array.toArray_toList]
  rw[setRow_self w g cur t fr hg]
  rfl
 | v::rest,i,cur,w,hg,hfr,hl,h1=>by
  have hi:o+i<cur.size:=by simp at hl;omega
  have hadd:(⟨g,o,none⟩:Addr).add i=⟨g,o+i,none⟩:=by unfold Addr.add;split<;>simp_all
  have hcell:w.cell? ⟨g,o+i,none⟩=some cur[o+i]:=by simp [World.cell?,hg,hi]
  have hfro:w.frozen? ⟨g,o+i,none⟩=false:=by
   have:=hfr
   obtain⟨lo,hi'⟩:=fr
   simp only[World.frozen?,hg,Bool.and_eq_false_iff,decide_eq_false_iff_not]
   simp only[aB8] at this
   omega
  have hst:(store ((⟨g,o,none⟩:Addr).add i) v).run P w = .ok () (w.setRow g (cur.setIfInBounds (o+i) v)):=by
   rw[hadd,run_store P w _ v _ (h1 v (by simp)),hcell]
   simp [hfro,setCell_eq_setRow w g (o+i) cur t fr v hg]
  have ih:=gD P g o t fr rest (i+1) (cur.setIfInBounds (o+i) v) (w.setRow g (cur.setIfInBounds (o+i) v)) (setRow_heap w g cur _ t _ hg) (hfr.size (by simp)) (by simp at hl ⊢;omega) (fun x hx=>h1 x (by simp [hx]))
  simp only[storeCells,Sem.run_bind,hst,Result.andThen_ok,ih,setRow_setRow]
  congr 3
  have e:=list_seg_step cur.toList (o+i) v rest (by simp at hl ⊢;omega)
  simpa [Array.toList_setIfInBounds,Nat.add_assoc] using e

theorem yO {t:Nat} {inf:TypeInfo} (h2:P.info? t=some inf) (g o:Nat) (ty:TypeId) (u:Value) (fr:Nat × Nat) (C:Array Value) (hl:u.cells.size=inf.size) (hg:w.heap[g]? = some (.cells C ty fr)) (hfr:aB8 C fr)
 (hfit:o+inf.size≤C.size) (h1:∀v∈u.cells.toList,v.oneCell'=true) :
 (storeVar t ⟨g,o,none⟩ u).run P w = .ok () (w.setRow g (C.toList.take o++u.cells.toList++C.toList.drop (o+inf.size)).toArray):=by
 have hst:=gD P g o ty fr u.cells.toList 0 C w hg hfr (by simp;omega) h1
 simp only[Nat.add_zero] at hst
 simp only[storeVar,Sem.run_bind,gE h2,Result.andThen_ok,hl,ne_eq,not_true_eq_false,if_false,hst]
 rw[Array.length_toList,hl]

theorem aDO (R:Rel σ π w h) (g:Nat) (C D:Array Value) (ty:TypeId) (fr:Nat × Nat) (hg:w.heap[g]? = some (.cells C ty fr)) (hs:D.size=C.size) (hp:∀o,π g o→∀q,D[o]? = some q↔C[o]? = some q):Ext σ π w σ π (w.setRow g D):=by
 refine⟨fun _ _ _ h=>h,fun _ _ h=>h,fun B o hB=>?_,fun b g' l C' e fr' h1 h2=>?_,fun B o C2 k hB h2=>(setRow_other w g B D (fun e=>by rw[e,hg] at h2;cases h2)).trans h2⟩
 · by_cases hne:B=g
   · subst hne
     rw[cell_setRow_same w B o C D ty fr hg]
     simp only[World.cell?,hg]
     apply Option.ext
     intro q
     simpa using hp o hB q
   · exact cell_setRow_other w g D _ hne
 · by_cases hne:l.blk=g
   · rw[hne] at h2 ⊢
     rw[hg] at h2
     cases h2
     exact⟨D,fr,setRow_heap w g C D _ _ hg,hs⟩
   · exact⟨C',fr',(setRow_other w g _ D hne).trans h2,rfl⟩

theorem aAX {l:List AV} {o:Nat} {v:List AV} (h:o+v.length≤l.length) (i:Nat):(tE l o v)[i]? = if o≤i∧i<o+v.length then v[i - o]? else l[i]?:=by
 unfold tE
 by_cases h1:i<o
 · rw[List.append_assoc,List.getElem?_append_left (by simp;omega),if_neg (by omega),List.getElem?_take,if_pos h1]
 · by_cases h2:i<o+v.length
   · rw[if_pos ⟨by omega,h2⟩,List.append_assoc,List.getElem?_append_right (by simp;omega),List.getElem?_append_left (by simp;omega)]
     congr 1
     simp
     omega
   · rw[if_neg (by omega),List.getElem?_append_right (by simp;omega)]
     simp only[List.length_append,List.length_take,List.getElem?_drop]
     congr 1
     omega

theorem rU {C:Array Value} {o:Nat} {v:List Value} (h:o+v.length≤C.size) (i:Nat):(C.toList.take o++v++C.toList.drop (o+v.length)).toArray[i]? = if o≤i∧i<o+v.length then v[i - o]? else C[i]?:=by
 have hl:C.toList.length=C.size:=Array.length_toList
 simp only[List.getElem?_toArray]
 by_cases h1:i<o
 · rw[List.append_assoc,List.getElem?_append_left (by simp;omega),if_neg (by omega),List.getElem?_take,if_pos h1]
   simp
 · by_cases h2:i<o+v.length
   · rw[if_pos ⟨by omega,h2⟩,List.append_assoc,List.getElem?_append_right (by simp;omega),List.getElem?_append_left (by simp;omega)]
     congr 1
     simp
     omega
   · rw[if_neg (by omega),List.getElem?_append_right (by simp;omega)]
     simp only[List.length_append,List.length_take,List.getElem?_drop,Array.getElem?_toList]
     congr 1
     omega

theorem aE4 {v:AV} {u:Value} (hv:VR σ π w v u) (h1:v.cells.all AV.one=true):∀x∈u.cells.toList,x.oneCell'=true:=by
 intro x hx
 obtain⟨i,hi⟩:=List.mem_iff_getElem?.1 hx
 have hc:=hv.cells h1
 have hlt:i<v.cells.length:=by
  have:=(List.getElem?_eq_some_iff.1 hi).1
  rw[Array.length_toList,hc.1] at this
  exact this
 exact(hc.2 i _ x (List.getElem?_eq_getElem hlt) (by simpa using hi)).one (List.all_eq_true.1 h1 _ (List.getElem_mem hlt))

end
end Go.Ws

namespace Go.Ws
set_option linter.unusedVariables false
set_option linter.unusedSimpArgs false

section
variable {P:Program} {σ:Sig} {π:bX} {w:World} {h:Nat→Option Blk} {n:Nat} {δ:Delta} {L:List Nat}

theorem aCQ {l:List AV} (h:oH l=true):∀v∈l,v.flat:=by
 unfold oH at h
 simp only[Bool.and_eq_true,List.all_eq_true,List.isEmpty_iff] at h
 intro v hv
 refine⟨h.1 v hv,?_⟩
 have key:∀(l:List AV),AV.refsL l=[]→∀v∈l,v.refs=[]:=by
  intro l
  induction l with
  | nil=>intro _ v hv;cases hv
  | cons x l ih =>
   intro hl v hv
   simp only[AV.refsL,List.append_eq_nil_iff] at hl
   rcases List.mem_cons.1 hv with rfl | hv
   · exact hl.1
   · exact ih hl.2 v hv
 exact key l h.2 v hv

theorem xQ {b:Nat} {x x':Blk} (R:Rel σ π w h) (hb:h b=some x) (v:AV) (l:Loc) (g:Nat) (hl:σ b g=some l) (C D:Array Value) (ty:TypeId) (fr:Nat × Nat) (hg:w.heap[l.blk]? = some (.cells C ty fr)) (hs:D.size=C.size)
 (hp:∀o,π l.blk o→∀q,D[o]? = some q↔C[o]? = some q)
 (hx:Ext σ π w σ π (w.setRow l.blk D)→(w.setRow l.blk D).heap[l.blk]? = some (.cells D ty fr)→BR σ π (w.setRow l.blk D) b x') :
 Done σ π w σ π (w.setRow l.blk D) (gG h n ⟨v,[(b,x')],[]⟩):=by
 have E:=aDO R l.blk C D ty fr hg hs hp
 exact iQ R hb v E (fun _ _ _=>rfl) (fun g0 l0 h0=>.inl ⟨g0,l0,h0,rfl⟩) (fun B _ hn=>setRow_other w l.blk B D (fun e=>hn g l hl e.symm)) (by simp) rfl rfl rfl (hx E (setRow_heap w l.blk C D ty _ hg))

theorem op_store (R:Rel σ π w h) (t:Nat) (p v:AV) (pu u:Value) (hp:VR σ π w p pu) (hv:VR σ π w v u) (e:(aAT (dS P) t p v).run h=some (δ,L)) :
 cG P (do Instr.storeAt t pu u;pure .skip) σ π w h n δ:=by
 unfold aAT at e
 split at e
 · exact(aO e).elim
 · rename_i i hi
   obtain⟨d,inf,h1,h2,rfl⟩:=bT hi
   split at e
   · rename_i hcond
     obtain⟨hlen0,hone⟩:=hcond
     have hlen:v.cells.length=inf.size:=hlen0
     clear hlen0
     have hvc:=hv.cells hone
     have hus:u.cells.size=inf.size:=hvc.1.trans hlen
     have h1c:=aE4 hv hone
     split at e
     · rename_i b o
       obtain⟨x,L',hx,e,_⟩:=lC e
       split at e
       · rename_i c
         split at e
         · rename_i hle
           have hδ:=cT e
           subst hδ
           cases hp with
           | hp _ _ l hl =>
            obtain⟨l',C,ty,q1,q2,q3,q4,q5⟩:=R.blk b _ hx
            rw[hl] at q1
            cases q1
            simp only at hle
            have hfit:o+inf.size≤C.size:=by omega
            have hr:=yO (P:=P) (w:=w) h2 l.blk o ty u _ C hus q2 (aB8.zero _) hfit h1c
            have hul:u.cells.toList.length=inf.size:=by rw[Array.length_toList,hus]
            rw[← hul] at hr hfit
            have hD:=rU hfit
            have hDs:(C.toList.take o++u.cells.toList++C.toList.drop (o+u.cells.toList.length)).toArray.size=C.size:=by
             have:=hfit
             simp only[List.size_toArray,List.length_append,List.length_take,List.length_drop,Array.length_toList] at this ⊢
             omega
            generalize (C.toList.take o++u.cells.toList++C.toList.drop (o+u.cells.toList.length)).toArray=D at hr hD hDs
            refine⟨_,_,_,σ,π,aIO (by simp [Instr.storeAt,Instr.sureAddr,hr]),.inr ⟨rfl,rfl⟩,fS _ _ _,xQ R hx dD l 0 hl C D ty _ q2 hDs (fun o' ho'=>absurd ho' (q5 o')) (fun E hw=>?_)⟩
            refine⟨l,D,ty,hl,hw,by simp [tE];omega,fun i x hi=>?_,q5⟩
            rw[aAX (by omega)] at hi
            rw[Nat.zero_add,hD]
            rw[hul,← hlen]
            split at hi
            · rename_i hr'
              rw[if_pos hr']
              obtain⟨y,hy,hvy⟩:=hvc.at_ hi
              exact⟨y,by simpa using hy,hvy.mono E⟩
            · rename_i hr'
              rw[if_neg hr']
              obtain⟨y,hy,hvy⟩:=q4 i x hi
              exact⟨y,by simpa using hy,hvy.mono E⟩
         · exact(aO e).elim
       · exact(aO e).elim
     · rename_i sz b g r j
       obtain⟨x,L',hx,e,_⟩:=lC e
       split at e
       · rename_i s rows gen wgen ro
         split at e
         · rename_i hcd
           obtain⟨rfl,rfl,rfl,hjs,hflat⟩:=hcd
           split at e
           · rename_i row hrow
             have hδ:=cT e
             subst hδ
             cases hp with
             | ep _ _ _ _ _ l hl hi =>
              obtain⟨q1,q2,q3,q4,⟨lc,c1,c2,c3,c4⟩,q6⟩:=BR.real (R.blk b _ hx) hl
              rw[hl] at c1
              cases c1
              obtain⟨l',C,ty,a1,a2,a3,a4,a5⟩:=q6 g _ hl q2 (Nat.le_refl _)
              rw[hl] at a1
              cases a1
              have hrl:row.length=s:=(q3 row (List.mem_of_getElem? hrow)).1
              simp only at hjs
              have hrm:r*s+s≤l.m*s:=by rw[← Nat.succ_mul];exact Nat.mul_le_mul_right _ hi
              have hfit:(r*s+j)+inf.size≤C.size:=by have:=a4.1;omega
              have hr:=yO (P:=P) (w:=w) h2 l.blk (r*s+j) ty.1 u _ C hus a3 a4.2.ok hfit h1c
              have hul:u.cells.toList.length=inf.size:=by rw[Array.length_toList,hus]
              rw[← hul] at hr hfit
              have hD:=rU hfit
              have hDs:(C.toList.take (r*s+j)++u.cells.toList++C.toList.drop ((r*s+j)+u.cells.toList.length)).toArray.size=C.size:=by
               have:=hfit
               simp only[List.size_toArray,List.length_append,List.length_take,List.length_drop,Array.length_toList] at this ⊢
               omega
              generalize (C.toList.take (r*s+j)++u.cells.toList++C.toList.drop ((r*s+j)+u.cells.toList.length)).toArray=D at hr hD hDs
              refine⟨_,_,_,σ,π,aIO (by simp [Instr.storeAt,Instr.sureAddr,hr]),.inr ⟨rfl,rfl⟩,fS _ _ _,xQ R hx dD l g hl C D ty.1 ty.2 a3 hDs (fun o' ho'=>absurd ho' (c3 rfl o')) (fun E hw=>?_)⟩
              have hvl:v.cells.length=inf.size:=hlen
              refine⟨q1,Nat.le_refl _,?_,q4,.inr ⟨⟨l,hl,by simpa using c2,fun _=>c3 rfl,by simpa using c4⟩,fun g' _ _ hg1 hg2=>?_⟩⟩
              · intro row' hr'
                rcases List.mem_or_eq_of_mem_set hr' with hm | rfl
                · exact q3 row' hm
                · refine⟨by simp [tE];omega,fun x hx=>?_⟩
                  unfold tE at hx
                  rcases List.mem_append.1 hx with hx | hx
                  · rcases List.mem_append.1 hx with hx | hx
                    · exact(q3 row (List.mem_of_getElem? hrow)).2 x (List.mem_of_mem_take hx)
                    · exact aCQ hflat x hx
                  · exact(q3 row (List.mem_of_getElem? hrow)).2 x (List.mem_of_mem_drop hx)
              · obtain rfl:g'=g:=by omega
                refine⟨l,D,ty,hl,by simp;omega,hw,⟨by have:=a4.1;omega,a4.2.size hDs⟩,fun r' row' hr1 hr2 i x hi'=>?_⟩
                rw[hD,hul]
                by_cases hrr:r'=r
                · subst hrr
                  rw[List.getElem?_set_self (by omega)] at hr2
                  cases hr2
                  rw[aAX (by omega),hvl] at hi'
                  by_cases hin:j≤i∧i<j+inf.size
                  · rw[if_pos hin] at hi'
                    rw[if_pos (by omega)]
                    obtain⟨y,hy,hvy⟩:=hvc.at_ hi'
                    exact⟨y,by rw[show r'*s+i - (r'*s+j)=i - j by omega];simpa using hy,hvy.mono E⟩
                  · rw[if_neg hin] at hi'
                    rw[if_neg (by omega)]
                    obtain⟨y,hy,hvy⟩:=a5 r' row hi hrow i x hi'
                    exact⟨y,hy,hvy.mono E⟩
                · rw[List.getElem?_set_ne (by omega)] at hr2
                  obtain⟨y,hy,hvy⟩:=a5 r' row' hr1 hr2 i x hi'
                  have hil:i<s:=by
                   have:=(List.getElem?_eq_some_iff.1 hi').1
                   rw[(q3 row' (List.mem_of_getElem? hr2)).1] at this
                   exact this
                  refine⟨y,?_,hvy.mono E⟩
                  rw[if_neg,hy]
                  intro hin
                  rcases Nat.lt_or_gt_of_ne hrr with hlt | hgt
                  · have:(r'+1)*s≤r*s:=Nat.mul_le_mul_right _ hlt
                    rw[Nat.succ_mul] at this
                    omega
                  · have:(r+1)*s≤r'*s:=Nat.mul_le_mul_right _ hgt
                    rw[Nat.succ_mul] at this
                    omega
           · exact(aO e).elim
         · exact(aO e).elim
       · exact(aO e).elim
     · exact(aO e).elim
   · exact(aO e).elim

theorem aIA (R:Rel σ π w h) (t:Nat) (p:AV) (f:Nat) (pu:Value) (hp:VR σ π w p pu) (e:(yG (dS P) t p f).run h=some (δ,L)) :
 cG P (do pure (.value (← Instr.fieldAt t pu f))) σ π w h n δ:=by
 unfold yG at e
 split at e
 · rename_i fs sz bts z cmp hi
   obtain⟨d,inf,h1,h2,he⟩:=bT hi
   simp only[TI.mk.injEq] at he
   obtain⟨hk,_⟩:=he
   obtain⟨f',rfl,rfl⟩:=uK hk.symm
   split at e
   · rename_i off ft hf
     simp only[List.getElem?_map,Option.map_eq_some_iff,Prod.mk.injEq,Array.getElem?_toList] at hf
     obtain⟨fd,hfd,rfl,rfl⟩:=hf
     split at e
     · rename_i fi hfi
       obtain⟨d',inf',h1',h2',rfl⟩:=bT hfi
       split at e
       · exact(aO e).elim
       · rename_i hnz
         have hrun:∀a:Addr,(Instr.fieldAt t (.pointer (some a)) f).run P w = .ok (.pointer (some (a.add fd.offset))) w:=by
          intro a
          simp [Instr.fieldAt,run_underlying h1,hfd,Instr.sureAddr,fieldPlace,gE h2',hnz]
         split at e
         · have hδ:=bW e
           subst hδ
           cases hp with
           | hp b o l hl=>exact a8 R (hrun _) (by rw[f0];exact .hp _ _ l hl)
         · have hδ:=bW e
           subst hδ
           cases hp with
           | ep sz b g i j l hl hi=>exact a8 R (hrun _) (by rw[f0,Nat.add_assoc];exact .ep _ _ _ _ _ l hl hi)
         · have hδ:=bW e
           subst hδ
           cases hp with
           | ip sz rows i j B o u hf hi hc hv=>exact a8 R (hrun _) (by rw[f0,Nat.add_assoc];exact .ip _ _ _ _ B o u hf hi hc hv)
         · exact(aO e).elim
     · exact(aO e).elim
   · exact(aO e).elim
 · exact(aO e).elim

theorem aH1 (R:Rel σ π w h) (t:Nat) (x ix:AV) (xu iu:Value) (hx:VR σ π w x xu) (hix:VR σ π w ix iu) (e:(g6 (dS P) t x ix).run h=some (δ,L)) :
 cG P (do pure (.value (← Instr.indexAt t xu iu))) σ π w h n δ:=by
 unfold g6 at e
 split at e
 · rename_i el sz bts z cmp k q hi
   obtain⟨d,inf,h1,h2,he⟩:=bT hi
   simp only[TI.mk.injEq] at he
   obtain rfl:=gK he.1.symm
   cases hix
   split at e
   · rename_i ei hei
     obtain⟨d',inf',h1',h2',rfl⟩:=bT hei
     split at e
     · rename_i s rows
       split at e
       · rename_i hc
         obtain⟨rfl,hq0,hq1⟩:=hc
         have hδ:=bW e
         subst hδ
         cases hx with
         | inl0=>simp at hq1;omega
         | inl _ _ B o c u hf hl hc hv =>
          refine a8 R (u:=.pointer (some ⟨B,o+q.toNat*inf'.size,none⟩)) ?_ (.ip _ rows q.toNat 0 B o u hf (by omega) hc hv)
          simp [Instr.indexAt,asIntOf,run_underlying h1,gE h2',hq0,hq1,f0]
       · exact(aO e).elim
     · rename_i s rows
       split at e
       · rename_i hc
         obtain⟨rfl,hq0,hq1⟩:=hc
         have hδ:=bW e
         subst hδ
         rcases hx.sl_cases with⟨rfl,_⟩ | hx
         · simp at hq1;omega
         cases hx with
         | inl0=>simp at hq1;omega
         | inl _ _ B o c u hf hl hc hv =>
          refine a8 R (u:=.pointer (some ⟨B,o+q.toNat*inf'.size,none⟩)) ?_ (.ip _ rows q.toNat 0 B o u hf (by omega) hc hv)
          simp [Instr.indexAt,asIntOf,run_underlying h1,gE h2',hq0,hq1,f0]
       · exact(aO e).elim
     · rename_i s b g i m flg
       split at e
       · rename_i hc
         obtain⟨rfl,hq0,hq1⟩:=hc
         have hδ:=bW e
         subst hδ
         cases hx with
         | ref0=>simp at hq1;omega
         | ref _ _ _ _ _ _ a c l hl hi hn ha hf C ty hC hs =>
          obtain rfl:=ha (by omega)
          refine a8 R (u:=.pointer (some ⟨l.blk,(i+q.toNat)*inf'.size+0,none⟩)) ?_ (.ep _ b g (i+q.toNat) 0 l hl (by omega))
          simp [Instr.indexAt,asIntOf,run_underlying h1,gE h2',hq0,hq1,f0,Nat.add_mul]
       · exact(aO e).elim
     · rename_i c
       split at e
       · rename_i hc
         obtain⟨hs1,hq0,hq1⟩:=hc
         have hs1':inf'.size=1:=hs1
         have hδ:=bW e
         subst hδ
         cases hx with
         | ps _ d B o k hk hc hl hv =>
          refine a8 R (u:=.pointer (some ⟨B,o+q.toNat,none⟩)) ?_ (.pp c q.toNat d B o (by omega) hc hl hv)
          simp [Instr.indexAt,asIntOf,run_underlying h1,gE h2',hs1',hq0,hq1,f0]
       · exact(aO e).elim
     · exact(aO e).elim
   · exact(aO e).elim
 · rename_i len el sz bts z cmp k q hi
   obtain⟨d,inf,h1,h2,he⟩:=bT hi
   simp only[TI.mk.injEq] at he
   obtain rfl:=q8 he.1.symm
   cases hix
   split at e
   · rename_i ei hei
     obtain⟨d',inf',h1',h2',rfl⟩:=bT hei
     split at e
     · rename_i hq
       obtain⟨hq0,hq1⟩:=hq
       have hrun:∀a:Addr,(Instr.indexAt t (.pointer (some a)) (.int k q)).run P w = .ok (.pointer (some (a.add (q.toNat*inf'.size)))) w:=by
        intro a
        simp [Instr.indexAt,asIntOf,run_underlying h1,gE h2',hq0,hq1,Instr.sureAddr]
       split at e
       · have hδ:=bW e
         subst hδ
         cases hx with
         | hp b o l hl=>exact a8 R (hrun _) (by rw[f0];exact .hp _ _ l hl)
       · have hδ:=bW e
         subst hδ
         cases hx with
         | ep sz b g i j l hl hi=>exact a8 R (hrun _) (by rw[f0,Nat.add_assoc];exact .ep _ _ _ _ _ l hl hi)
       · have hδ:=bW e
         subst hδ
         cases hx with
         | ip sz rows i j B o u hf hi hc hv=>exact a8 R (hrun _) (by rw[f0,Nat.add_assoc];exact .ip _ _ _ _ B o u hf hi hc hv)
       · exact(aO e).elim
     · exact(aO e).elim
   · exact(aO e).elim
 · exact(aO e).elim

end
end Go.Ws

namespace Go.Ws
set_option linter.unusedVariables false
set_option linter.unusedSimpArgs false

section
variable {P:Program} {σ:Sig} {π:bX} {w:World} {h:Nat→Option Blk} {n:Nat} {δ:Delta} {L:List Nat}

theorem news_of {sz:Nat} {rows:List (List AV)} (hf:fH sz rows) {f:Nat→Option Value}
 (hc:∀(r j:Nat) row v,rows[r]? = some row→row[j]? = some v→∃u,f (r*sz+j)=some u∧VR σ π w v u) :
 ∃news:List Value,news.length=rows.length*sz∧(∀(q:Nat) u,news[q]? = some u→f q=some u)∧(∀r row,rows[r]? = some row→jX σ π w row news.toArray (r*sz))∧(∀x∈news,x.oneCell'=true):=by
 have hat:∀q,q<rows.length*sz→∃row v u,rows[q / sz]? = some row∧row[q % sz]? = some v∧f q=some u∧VR σ π w v u:=by
  intro q hq
  have hsz:0<sz:=by
   rcases Nat.eq_zero_or_pos sz with h0 | h0
   · subst h0;simp at hq
   · exact h0
  have hr:q / sz<rows.length:=(Nat.div_lt_iff_lt_mul hsz).2 hq
  have hrow:rows[q / sz]? = some rows[q / sz]:=List.getElem?_eq_getElem hr
  have hlen:=(hf _ (List.mem_of_getElem? hrow)).1
  have hj:q % sz<(rows[q / sz]).length:=by rw[hlen];exact Nat.mod_lt _ hsz
  obtain⟨u,hu,hv⟩:=hc (q / sz) (q % sz) _ _ hrow (List.getElem?_eq_getElem hj)
  rw[show q / sz*sz+q % sz=q by rw[Nat.mul_comm];exact Nat.div_add_mod q sz] at hu
  exact⟨_,_,u,hrow,List.getElem?_eq_getElem hj,hu,hv⟩
 have hget:∀q,q<rows.length*sz→((List.range (rows.length*sz)).map fun q=>(f q).getD undef)[q]? = f q:=by
  intro q hq
  obtain⟨_,_,u,_,_,hu,_⟩:=hat q hq
  simp [List.getElem?_range hq,hu]
 refine⟨(List.range (rows.length*sz)).map fun q=>(f q).getD undef,by simp,fun q u hq=>?_,fun r row hr j v hj=>?_,fun x hx=>?_⟩
 · rcases Nat.lt_or_ge q (rows.length*sz) with hlt | hge
   · rw[hget q hlt] at hq;exact hq
   · simp [List.getElem?_eq_none (show (List.range (rows.length*sz)).length≤q by simpa using hge)] at hq
 · obtain⟨u,hu,hv⟩:=hc r j row v hr hj
   refine⟨u,?_,hv⟩
   have hlen:=(hf row (List.mem_of_getElem? hr)).1
   have hj':=(List.getElem?_eq_some_iff.1 hj).1
   have hr':=(List.getElem?_eq_some_iff.1 hr).1
   have hle:(r+1)*sz≤rows.length*sz:=Nat.mul_le_mul_right _ hr'
   rw[Nat.succ_mul] at hle
   rw[List.getElem?_toArray,hget _ (by omega)]
   exact hu
 · simp only[List.mem_map,List.mem_range] at hx
   obtain⟨q,hq,rfl⟩:=hx
   obtain⟨row,v,u,hr,hj,hu,hv⟩:=hat q hq
   rw[hu]
   exact hv.one ((hf row (List.mem_of_getElem? hr)).2 v (List.mem_of_getElem? hj)).1

def Src (P:Program) (σ:Sig) (π:bX) (w:World) (sz:Nat) (ys:List (List AV)) (u:Value):Prop :=
 fH sz ys∧∃news:List Value,news.length=ys.length*sz∧(∀r row,ys[r]? = some row→jX σ π w row news.toArray (r*sz))∧(∀x∈news,x.oneCell'=true) ∧
  ∀w1:World,(∀B o v,w.cell? ⟨B,o,none⟩=some v→w1.cell? ⟨B,o,none⟩=some v) →
   (Builtin.lenOf u).run P w1 = .ok ys.length w1∧∀m,m≤ys.length→(Builtin.firstCells sz m u).run P w1 = .ok (news.take (m*sz)).toArray w1

theorem aA4 {sz:Nat} {rows:List (List AV)} (hf:fH sz rows) (i m:Nat):fH sz ((rows.drop i).take m) :=
 fun row hr=>hf row (List.mem_of_mem_drop (List.mem_of_mem_take hr))

theorem aAR {sz:Nat} {ys:List (List AV)} (hf:fH sz ys) (B o c:Nat)
 (hc:∀(r j:Nat) row v,ys[r]? = some row→row[j]? = some v→∃u,w.cell? ⟨B,o+(r*sz+j),none⟩=some u∧VR σ π w v u) (a:Addr) (ha:ys≠[]→a=⟨B,o,none⟩) :
 Src P σ π w sz ys (.slice (some a) ys.length c):=by
 obtain⟨news,h1,h2,h3,h4⟩:=news_of (σ:=σ) (π:=π) (w:=w) hf (f:=fun q=>w.cell? ⟨B,o+q,none⟩) hc
 refine⟨hf,news,h1,h3,h4,fun w1 hw=>⟨rfl,fun m hm=>?_⟩⟩
 by_cases hy:ys=[]
 · subst hy
   obtain rfl:m=0:=by simpa using hm
   obtain rfl:news=[]:=List.eq_nil_of_length_eq_zero (by simpa using h1)
   simp [Builtin.firstCells,loadCells,loadCellsFrom]
 · obtain rfl:=ha hy
   refine run_firstCells_some (P:=P) w1 sz m ⟨B,o,none⟩ _ c (news.take (m*sz)) ?_ (fun j v hj=>?_)
   · simp only[List.length_take,h1]
     exact Nat.min_eq_left (Nat.mul_le_mul_right _ hm)
   · rw[f0]
     refine hw _ _ _ (h2 j v ?_)
     simp only[List.getElem?_take] at hj
     split at hj
     · exact hj
     · cases hj

theorem aK1 (R:Rel σ π w h) {sz:Nat} {x:AV} {u:Value} {ys:List (List AV)} (hx:VR σ π w x u) (e:(pE sz x).run h=some (ys,L)):Src P σ π w sz ys u:=by
 have hnil:∀(a:Option Addr) (c:Nat),Src P σ π w sz [] (.slice a 0 c):=by
  intro a c
  refine⟨fun row hr=>(nomatch hr),[],(by simp),fun r row hr=>(by simp at hr),fun x hx=>(nomatch hx),fun w1 _=>⟨rfl,fun m hm=>?_⟩⟩
  obtain rfl:m=0:=by simpa using hm
  cases a<;>simp [Builtin.firstCells,loadCells,loadCellsFrom]
 unfold pE at e
 split at e
 · have:=cT e;subst this;cases hx;exact hnil _ _
 · have:=cT e;subst this;cases hx;exact hnil _ _
 · rename_i s rows
   split at e
   · rename_i hs
     subst hs
     have:=cT e
     subst this
     cases hx with
     | inl0=>exact hnil _ _
     | inl _ _ B o c u hf hl hc hv=>exact aAR hf B o c (fun r j row v hr hj=>⟨u r j,by have:=(hc r j row v hr hj).1;rwa [Nat.add_assoc] at this,hv r j row v hr hj⟩) _ (fun _=>rfl)
   · exact(aO e).elim
 · rename_i s rows
   split at e
   · rename_i hs
     subst hs
     have:=cT e
     subst this
     cases hx with
     | sl0=>exact hnil _ _
     | sl _ _ B o c u hf hl hc hv=>exact aAR hf B o c (fun r j row v hr hj=>⟨u r j,by have:=(hc r j row v hr hj).1;rwa [Nat.add_assoc] at this,hv r j row v hr hj⟩) _ (fun _=>rfl)
   · exact(aO e).elim
 · rename_i s b g i m flg
   split at e
   · rename_i hs
     subst hs
     obtain⟨y,L',hy,e2,_⟩:=lC e
     clear e
     split at e2
     · rename_i s' rows gen wgen ro
       split at e2
       · rename_i hcd
         obtain⟨rfl,hg1,hg2,hle⟩:=hcd
         have:=cT e2
         subst this
         cases hx with
         | ref0 =>
          simp only[List.take_zero]
          exact hnil _ _
         | ref _ _ _ _ _ _ a c l hl hi hn ha hff C ty hC hsz =>
          obtain⟨q1,q2,q3,q4,q5,q6⟩:=BR.real (R.blk b _ hy) hl
          obtain⟨l',C',ty',a1,a2,a3,a4,a5⟩:=q6 g _ hl hg1 hg2
          rw[hl] at a1
          cases a1
          have hlen:((rows.drop i).take m).length=m:=by simp;omega
          have hs:=aAR (P:=P) (σ:=σ) (π:=π) (w:=w) (aA4 q3 i m) l.blk (i*s') c (fun r j row v hr hj=>by
           simp only[List.getElem?_take,List.getElem?_drop] at hr
           split at hr
           · rename_i hrm
             obtain⟨u,hu,hv⟩:=a5 (i+r) row (by omega) hr j v hj
             refine⟨u,?_,hv⟩
             rw[Nat.add_mul] at hu
             simp [World.cell?,a3,← Nat.add_assoc,hu]
           · cases hr) a (fun hne=>ha (by
             rcases Nat.eq_zero_or_pos c with h0 | h0
             · exfalso;apply hne;apply List.eq_nil_of_length_eq_zero;rw[hlen];omega
             · exact h0))
          rwa [hlen] at hs
       · exact(aO e2).elim
     · exact(aO e2).elim
   · exact(aO e).elim
 · rename_i s
   split at e
   · rename_i hs
     subst hs
     have:=cT e
     subst this
     cases hx
     have hl:(s.data.toList.map fun b=>[AV.int .u8 b.toNat]).length=s.size:=by simp
     refine⟨?_,s.data.toList.map fun b=>.int .u8 b.toNat,by simp,?_,?_,fun w1 _=>⟨by simp [Builtin.lenOf],fun m hm=>?_⟩⟩
     · intro row hr
       simp only[List.mem_map] at hr
       obtain⟨b,_,rfl⟩:=hr
       refine⟨rfl,fun v hv=>?_⟩
       simp at hv
       subst hv
       exact⟨rfl,rfl⟩
     · intro r row hr j v hj
       simp only[List.getElem?_map,Option.map_eq_some_iff] at hr
       obtain⟨b,hb,rfl⟩:=hr
       cases j with
       | zero =>
        simp at hj
        subst hj
        refine⟨.int .u8 b.toNat,?_,.int _ _⟩
        simp only[Nat.mul_one,Nat.add_zero,List.getElem?_toArray,List.getElem?_map,hb,Option.map_some]
       | succ j=>simp at hj
     · intro x hx
       simp only[List.mem_map] at hx
       obtain⟨b,_,rfl⟩:=hx
       rfl
     · simp only[Builtin.firstCells,Sem.run_pure,Nat.mul_one]
       congr 1
       apply Array.ext'
       have hle:m≤s.size:=by rwa [hl] at hm
       have:(s.extract 0 m).data.toList=s.data.toList.take m:=by
        simp [ByteArray.data_extract]
       simp [this,List.map_take]
   · exact(aO e).elim
 · exact(aO e).elim

end
end Go.Ws

namespace Go.Ws
set_option linter.unusedVariables false
set_option linter.unusedSimpArgs false

def Same (w w1:World):Prop:=∀B o v,w.cell? ⟨B,o,none⟩=some v→w1.cell? ⟨B,o,none⟩=some v

def aC7 (P:Program) (w:World) (inf:TypeInfo) (z:Value) (dx:TypeDesc) (x:Value) (k:Nat) (news:List Value):Prop :=
 ((∀kk,dx ≠ .int kk)∧∀w1,Same w w1→(Builtin.lenOf x).run P w1 = .ok k w1∧(Builtin.firstCells inf.size k x).run P w1 = .ok news.toArray w1) ∨
 (∃kk kv q,dx = .int kk∧x = .int kv q∧0≤q∧q*inf.bytes≤140737488355328∧k=q.toNat∧news.toArray=Builtin.zeroCells z.cells k)

theorem rN {q:Int} (h0:0≤q) (h1:q≤140737488355328):IntKind.i64.wrap q=q:=by
 have e1:q % (2 ^ IntKind.i64.bits:Int)=q:=Int.emod_eq_of_lt h0 (by simp only[IntKind.bits];omega)
 have e2:¬(q≥(2 ^ (IntKind.i64.bits - 1):Int)):=by simp only[IntKind.bits];omega
 unfold IntKind.wrap
 simp only[e1,e2,decide_false,Bool.and_false,Bool.false_eq_true,if_false]

theorem aJ2 {P:Program} {w:World} {t xt ty e:TypeId} {dx:TypeDesc} (ht:P.underlying t=some (.slice e)) (hxt:P.underlying xt=some dx) (hd:∀kk,dx ≠ .int kk) (s x:Value):(Builtin.append_ #[t,xt] ty #[s,x]).run P w=(Builtin.append_ #[t,t] ty #[s,x]).run P w:=by
 unfold Builtin.append_
 simp only[show (#[t,xt]:Array TypeId)[0]? = some t from rfl,show (#[t,xt]:Array TypeId)[1]? = some xt from rfl,show (#[t,t]:Array TypeId)[0]? = some t from rfl,show (#[t,t]:Array TypeId)[1]? = some t from rfl,show (#[s,x]:Array Value)[0]? = some s from rfl,show (#[s,x]:Array Value)[1]? = some x from rfl]
 rw[Sem.run_bind,Sem.run_bind,run_underlying ht]
 simp only[Result.andThen_ok]
 cases s<;>try rfl
 simp only[]
 rw[Sem.run_bind,Sem.run_bind]
 congr 1
 funext size w1
 rw[Sem.run_bind,Sem.run_bind,run_underlying hxt,run_underlying ht]
 all_goals cases dx<;>first
  | rfl
  | exact absurd rfl (hd _)

section
variable {P:Program} {σ:Sig} {π:bX} {w:World} {h:Nat→Option Blk} {n:Nat} {δ:Delta} {L:List Nat}
variable {t xt ty e:TypeId} {inf:TypeInfo} {z x:Value} {dx:TypeDesc} {k:Nat} {news:List Value}

theorem aMK (w:World):Same w w.drew:=fun B o v h=>h
theorem qW (w:World):Same w w:=fun _ _ _ h=>h

theorem zD (ht:P.underlying t=some (.slice e)) (hxt:P.underlying xt=some dx) (hi:P.info? e=some inf) (hz:inf.zero=some z) (hb:0<inf.bytes)
 (hs:aC7 P w inf z dx x 0 news) (a:Option Addr) (s c:Nat) (hsc:s≤c) :
 (Builtin.append_ #[t,xt] ty #[.slice a s c,x]).run P w = .ok (.slice a s c) w:=by
 rcases hs with⟨hd,hs⟩ | ⟨kk,kv,q,rfl,rfl,hq0,hq1,hk,hn⟩
 · obtain⟨h1,h2⟩:=hs w (qW w)
   have hemp:news=[]∨a=none∨True:=.inr (.inr trivial)
   have hnew:(Builtin.firstCells inf.size 0 x).run P w = .ok #[] w:=by
    rw[h2]
    have:news=[]:=by
     cases x with
     | slice a' l' c'=>cases a'<;>simp [Builtin.firstCells,loadCells,loadCellsFrom] at h2<;>simp_all
     | string s' =>
      have h3:(#[]:Array Value)=news.toArray:=by simpa [Builtin.firstCells] using h2
      have:=congrArg Array.size h3
      simp at this
      exact List.eq_nil_of_length_eq_zero this.symm
     | _=>simp [Builtin.lenOf] at h1
    subst this
    rfl
   rw[aJ2 ht hxt hd]
   (cases a<;>simp [Builtin.append_,run_underlying ht,sizeOf,typeInfo,hi,h1,hsc,hnew,storeCells])
 · have hq:q=0:=by omega
   subst hq
   cases a<;>simp [Builtin.append_,run_underlying ht,run_underlying hxt,sizeOf,typeInfo,hi,asInt,asIntOf,rN,hsc,storeCells]

theorem app_room (ht:P.underlying t=some (.slice e)) (hxt:P.underlying xt=some dx) (hi:P.info? e=some inf) (hz:inf.zero=some z) (hb:0<inf.bytes) (hzs:z.cells.size=inf.size) (hsz:0<inf.size)
 (hs:aC7 P w inf z dx x k news) (hnl:news.length=k*inf.size) (h1:∀u∈news,u.oneCell'=true) (g s c:Nat) (cur:Array Value) (te:TypeId) (fr:Nat × Nat) (hg:w.heap[g]? = some (.cells cur te fr)) (hfr:aB8 cur fr)
 (hroom:s+k≤c) (hfit:s*inf.size+news.length≤cur.size) :
 (Builtin.append_ #[t,xt] ty #[.slice (some ⟨g,0,none⟩) s c,x]).run P w =
  .ok (.slice (some ⟨g,0,none⟩) (s+k) c) (w.setRow g (cur.toList.take (s*inf.size)++news++cur.toList.drop (s*inf.size+news.length)).toArray):=by
 have hst:=gD P g (s*inf.size) te fr news 0 cur w hg hfr (by simpa using hfit) h1
 simp only[Nat.add_zero] at hst
 rcases hs with⟨hd,hs⟩ | ⟨kk,kv,q,rfl,rfl,hq0,hq1,hk,hn⟩
 · obtain⟨h2,h3⟩:=hs w (qW w)
   rw[aJ2 ht hxt hd]
   simp [Builtin.append_,run_underlying ht,sizeOf,typeInfo,hi,h2,hroom,h3,Addr.add_lit,hst]
 · have hqb:q≤140737488355328:=Int.le_trans (by have:=Int.mul_le_mul_of_nonneg_left (show (1:Int)≤inf.bytes by omega) hq0;omega) hq1
   have hw:=rN hq0 hqb
   have hnneg:¬q<0:=by omega
   have hbig:¬(281474976710656<q*(inf.bytes:Int)):=by omega
   have hnew:news.toArray.toList=news:=by simp
   subst hk
   by_cases hk0:q.toNat=0
   · have hne:news=[]:=List.eq_nil_of_length_eq_zero (by rw[hnl,hk0];simp)
     subst hne
     simp [hk0] at hst ⊢
     simp [Builtin.append_,run_underlying ht,run_underlying hxt,sizeOf,typeInfo,hi,asInt,asIntOf,hw,hnneg,hbig,hk0,show s≤c by omega,storeCells]
     rw[setRow_self w g cur te fr hg]
   · have hns:¬(q≤0∨inf.size=0):=by omega
     have hns2:¬(q.toNat*inf.size=0):=by
      intro hh
      rcases Nat.mul_eq_zero.1 hh with h0 | h0<;>omega
     simp [Builtin.append_,run_underlying ht,run_underlying hxt,sizeOf,typeInfo,zeroValue,hi,hz,asInt,asIntOf,hw,hnneg,hbig,hns,hns2,hroom,Addr.add_lit,← hn,hst]

theorem aDP (ht:P.underlying t=some (.slice e)) (hxt:P.underlying xt=some dx) (hi:P.info? e=some inf) (hz:inf.zero=some z) (hb:0<inf.bytes) (hzs:z.cells.size=inf.size) (hsz:0<inf.size)
 (hs:aC7 P w inf z dx x k news) (hnl:news.length=k*inf.size) (a:Option Addr) (s c:Nat) (olds:List Value)
 (ho:(Builtin.firstCells inf.size s (.slice a s c)).run P w.drew = .ok olds.toArray w.drew) (hg:c<s+k) (hbytes:(s+k)*inf.bytes≤140737488355328) :
 (Builtin.append_ #[t,xt] ty #[.slice a s c,x]).run P w =
  .ok (.slice (some ⟨w.heap.size,0,none⟩) (s+k) (grownCap w (s+k) c e)) (w.drew.alloc (.cells (olds.toArray++news.toArray++Builtin.zeroCells z.cells (grownCap w (s+k) c e - (s+k))) e)):=by
 have hlen:s+k≤140737488355328:=Nat.le_trans (Nat.le_mul_of_pos_right _ hb) hbytes
 have hn0:¬(s+k≤c):=by omega
 have h63':¬(9223372036854775807<((s:Int)+(k:Int))):=by omega
 have hfits:Builtin.nextslicecap (s+k) c*inf.bytes≤281474976710656:=growslice_fits hg hbytes
 have h48':¬(281474976710656<Builtin.nextslicecap (s+k) c*inf.bytes):=by omega
 rcases hs with⟨hd,hs⟩ | ⟨kk,kv,q,rfl,rfl,hq0,hq1,hk,hn⟩
 · obtain⟨h2,h3⟩:=hs w (qW w)
   obtain⟨h2',h3'⟩:=hs w.drew (aMK w)
   rw[aJ2 ht hxt hd]
   (simp [Builtin.append_,run_underlying ht,sizeOf,typeInfo,zeroValue,hi,hz,h2,hn0,h63',h48',Question.forced,ho,h3',newRow,grownCap];congr 2;apply Array.ext';simp [List.append_assoc])
 · have hqb:q≤140737488355328:=Int.le_trans (by have:=Int.mul_le_mul_of_nonneg_left (show (1:Int)≤inf.bytes by omega) hq0;omega) hq1
   have hw:=rN hq0 hqb
   have hnneg:¬q<0:=by omega
   have hbig:¬(281474976710656<q*(inf.bytes:Int)):=by omega
   subst hk
   by_cases hk0:q.toNat=0
   · have hne:news=[]:=List.eq_nil_of_length_eq_zero (by rw[hnl,hk0];simp)
     subst hne
     have hq00:q=0:=by omega
     subst hq00
     have h63'':¬(9223372036854775807<(s:Int)):=by omega
     simp only[Int.toNat_zero,Nat.add_zero] at *
     simp [Builtin.append_,run_underlying ht,run_underlying hxt,sizeOf,typeInfo,zeroValue,hi,hz,asInt,asIntOf,hw,hn0,h63'',h48',Question.forced,ho,newRow,grownCap]
   · have hns2:¬(q.toNat*inf.size=0):=by
      intro hh
      rcases Nat.mul_eq_zero.1 hh with h0 | h0<;>omega
     have hns:¬(q≤0∨inf.size=0):=by omega
     have hm:max q 0=q:=by omega
     have h63q:¬(9223372036854775807<(s:Int)+q):=by omega
     simp [Builtin.append_,run_underlying ht,run_underlying hxt,sizeOf,typeInfo,zeroValue,hi,hz,asInt,asIntOf,hw,hnneg,hbig,hn0,hm,h63q,h48',hns,hns2,Question.forced,ho,← hn,newRow,grownCap]
     congr 2
     apply Array.ext'
     simp [List.append_assoc]

end
end Go.Ws

namespace Go.Ws
set_option linter.unusedVariables false
set_option linter.unusedSimpArgs false

section
variable {P:Program} {σ:Sig} {π:bX} {w:World} {h:Nat→Option Blk} {n:Nat} {δ:Delta} {L:List Nat}

def jL (σ:Sig) (π:bX) (w:World) (sz:Nat) (ys:List (List AV)) (news:List Value):Prop :=
 news.length=ys.length*sz∧fH sz ys∧(∀r row,ys[r]? = some row→jX σ π w row news.toArray (r*sz))∧(∀x∈news,x.oneCell'=true)

theorem pY {sz k:Nat} {zc:List AV} {z:Value} (hz:VR σ π w (.agg zc) (.agg z.cells)) (hl:zc.length=sz) (hsz:0<sz) (hf:oH zc=true) :
 jL σ π w sz (List.replicate k zc) (Builtin.zeroCells z.cells k).toList:=by
 cases hz with
 | agg _ _ hs hv =>
  have hzs:z.cells.size=sz:=hs.trans hl
  have hget:∀i,i<k*sz→(Builtin.zeroCells z.cells k).toList[i]? = z.cells[i % sz]?:=by
   intro i hi
   have hm:i % sz<z.cells.size:=by rw[hzs];exact Nat.mod_lt _ hsz
   simp only[Builtin.zeroCells,hzs,Array.getElem?_toList,Array.getElem?_map]
   rw[Array.getElem?_eq_getElem (by simpa using hi)]
   simp [getElem!_pos z.cells (i % sz) hm]
  refine⟨by simp [Builtin.zeroCells,hzs],fun row hr=>?_,fun r row hr j v hj=>?_,fun x hx=>?_⟩
  · obtain rfl:=List.eq_of_mem_replicate hr
    exact⟨hl,aCQ hf⟩
  · simp only[List.getElem?_replicate] at hr
    split at hr
    · rename_i hrk
      cases hr
      have hj':=(List.getElem?_eq_some_iff.1 hj).1
      have hle:(r+1)*sz≤k*sz:=Nat.mul_le_mul_right _ hrk
      rw[Nat.succ_mul] at hle
      have hmod:(r*sz+j) % sz=j:=by rw[Nat.mul_comm,Nat.mul_add_mod];exact Nat.mod_eq_of_lt (by omega)
      refine ⟨z.cells[j]'(by omega), ?_, hv j v _ hj (by simp)⟩
      rw[List.getElem?_toArray,hget _ (by omega),hmod]
      simp
    · cases hr
  · obtain⟨i,hi⟩:=List.mem_iff_getElem?.1 hx
    have hlt:i<k*sz:=by
     have:=(List.getElem?_eq_some_iff.1 hi).1
     simpa [Builtin.zeroCells,hzs] using this
    rw[hget i hlt] at hi
    have hm:i % sz<zc.length:=by rw[hl];exact Nat.mod_lt _ hsz
    exact(hv (i % sz) _ x (List.getElem?_eq_getElem hm) hi).one (aCQ hf _ (List.getElem_mem hm)).1

theorem ys_of (R:Rel σ π w h) {e xt:Nat} {ei xi:TI} (he:dS P e=some ei) (hxi:dS P xt=some xi) (hsz:0<ei.sz) (hbt:0<ei.bts) (hzl:(ei.z.map (·.cells.length))=some ei.sz)
 {x:AV} {u:Value} (hx:VR σ π w x u) {ys:List (List AV)} (hys:(aYs ei xi x).run h=some (ys,L)) :
 ∃dx inf zv news,P.underlying xt=some dx∧P.info? e=some inf∧inf.zero=some zv∧zv.cells.size=inf.size∧ei.sz=inf.size∧ei.bts=inf.bytes∧jL σ π w inf.size ys news∧aC7 P w inf zv dx u ys.length news:=by
 obtain⟨de,inf,e1,e2,rfl⟩:=bT he
 obtain⟨dx,infx,x1,x2,rfl⟩:=bT hxi
 obtain⟨z,hz,hzl⟩:=Option.map_eq_some_iff.1 hzl
 have hz':=hz
 simp only[Option.bind_eq_some_iff] at hz'
 obtain⟨zv,hzv,hzo⟩:=hz'
 have hvr:VR σ π w (.agg z.cells) (.agg zv.cells):=let c:=((qZ hzo σ π w).cellsN (aDX hzo));.agg _ _ c.1 c.2
 have hzs:zv.cells.size=inf.size:=by
  have:=((qZ hzo σ π w).cellsN (aDX hzo)).1
  rw[this]
  exact hzl
 unfold aYs at hys
 split at hys
 · rename_i kk kv q hk
   cases hx
   rw[hz] at hys
   simp only at hys
   split at hys
   · rename_i hc
     obtain⟨hq0,hq1,_,hfl⟩:=hc
     have:=cT hys
     subst this
     exact⟨dx,inf,zv,_,x1,e2,hzv,hzs,rfl,rfl,pY (k:=q.toNat) hvr hzl hsz hfl,.inr ⟨kk,kv,q,tO hk,rfl,hq0,hq1,by simp,by simp⟩⟩
   · exact(aO hys).elim
 · exact(aO hys).elim
 · exact(aO hys).elim
 · rename_i hk1 hk2
   obtain⟨hf,news,n1,n2,n3,n4⟩:=aK1 (P:=P) R hx hys
   have hnt:news.take (ys.length*inf.size)=news:=List.take_of_length_le (by rw[n1];exact Nat.le_refl _)
   refine⟨dx,inf,zv,news,x1,e2,hzv,hzs,rfl,rfl,⟨n1,hf,n2,n3⟩,.inl ⟨fun kk hd=>?_,fun w1 hw=>?_⟩⟩
   · subst hd
     exact hk1 kk rfl
   · obtain⟨a1,a2⟩:=n4 w1 hw
     refine⟨a1,?_⟩
     have:=a2 ys.length (Nat.le_refl _)
     rwa [hnt] at this

theorem jL.mono {σ':Sig} {π':bX} {w':World} (E:Ext σ π w σ' π' w') {sz:Nat} {ys:List (List AV)} {news:List Value} (k:jL σ π w sz ys news):jL σ' π' w' sz ys news :=
 ⟨k.1,k.2.1,fun r row hr=>(k.2.2.1 r row hr).mono E,k.2.2.2⟩

theorem aFO (R:Rel σ π w h) (hn:h n=none) {sz:Nat} (hsz:0<sz) {ys:List (List AV)} {news:List Value} (hy:jL σ π w sz ys news) (w':World) (rest:Array Value) (e:TypeId) (c:Nat) (f:Fl)
 (hw:∀B,B<w.heap.size→w'.heap[B]? = w.heap[B]?) (hws:w'.heap.size=w.heap.size+1) (hnew:w'.heap[w.heap.size]? = some (.cells (news.toArray++rest) e (0,0))) (hos:w'.os=w.os) (htp:w'.tape=w.tape) (hout:w'.output=w.output)
 (hc:ys.length≤c) (hcs:c*sz≤(news.toArray++rest).size) :
 ∃σ',VR σ' π w' (.ref sz n 0 0 ys.length f) (.slice (some ⟨w.heap.size,0,none⟩) ys.length c)∧Done σ π w σ' π w' (gG h n ⟨.ref sz n 0 0 ys.length f,[],[.arr sz ys 0 0 false]⟩):=by
 have hnon:=R.non n hn
 have E:Ext σ π w (σ.set n 0 ⟨w.heap.size,ys.length⟩) π w':=Ext.of_old (fun b g l hl=>Sig.set_old (hnon 0) hl) R.prot R.lt hw
 have hp:∀o,¬π w.heap.size o:=fun o ho=>Nat.lt_irrefl _ (R.prot _ _ ho)
 refine⟨σ.set n 0 ⟨w.heap.size,ys.length⟩,?_,aH6 R hn _ _ ys.length w' _ hw hws hnew hos htp hout ?_⟩
 · exact .ref sz n 0 0 ys.length f ⟨w.heap.size,0,none⟩ c ⟨w.heap.size,ys.length⟩ (Sig.set_same ..) (by simp) hc (fun _=>by simp) (fun _=>by simpa using hc) _ (e,(0,0)) hnew (by simpa using hcs)
 · refine⟨hsz,Nat.le_refl _,hy.2.1,fun g hg=>?_,.inr ⟨⟨⟨w.heap.size,ys.length⟩,Sig.set_same ..,rfl,fun _=>hp,fun o _=>hp o⟩,fun g _ _ h1 h2=>?_⟩⟩
   · rw[Sig.set_ne σ _ (by omega)]
     exact hnon g
   · obtain rfl:g=0:=by omega
     refine⟨⟨w.heap.size,ys.length⟩,_,(e,(0,0)),Sig.set_same ..,Nat.le_refl _,hnew,⟨?_,FrZ.zero _ _⟩,fun r row hr hrow j v hj=>?_⟩
     · simp only[Array.size_append,List.size_toArray,hy.1]
       omega
     · obtain⟨u,hu,hv⟩:=hy.2.2.1 r row hrow j v hj
       refine⟨u,?_,hv.mono E⟩
       rw[Array.getElem?_append_left (Array.getElem?_eq_some_iff.1 hu).1]
       exact hu

theorem op_virt (R:Rel σ π w h) (hn:h n=none) {sz:Nat} (hsz:0<sz) (v:AV):Done σ π w σ π w (gG h n ⟨v,[],[.arr sz [] 0 0 false]⟩):=by
 have hnon:=R.non n hn
 have hupd:∀b,gG h n ⟨v,[],[.arr sz [] 0 0 false]⟩ b=if b=n then some (.arr sz [] 0 0 false) else h b:=by
  intro b
  by_cases e:b=n
  · subst e;simp [gG]
  · simp only[gG,List.length_singleton,if_neg e]
    rw[if_neg (by omega)]
    rfl
 refine⟨.refl _ _ _,.refl _ _ _,fun b x hx=>?_,fun b hb g=>?_,R.inj,R.lt,R.prot⟩
 · rw[hupd] at hx
   split at hx
   · rename_i e;subst e;cases hx
     exact⟨hsz,Nat.le_refl _,(show fH sz [] from fun row hr=>nomatch hr),fun g _=>hnon g,.inl ⟨rfl,hnon⟩⟩
   · exact R.blk b x hx
 · rw[hupd] at hb
   split at hb
   · cases hb
   · exact R.non b hb g

theorem aM0 (R:Rel σ π w h) {b gen wgen sz:Nat} {rows:List (List AV)} {ro:Bool} (hb:h b=some (.arr sz rows gen wgen ro)) (v:AV) (hr:rows=[]) (hg:σ b gen=none) :
 Done σ π w σ π w (gG h n ⟨v,[(b,.arr sz (rows++[]) (gen+1) wgen ro)],[]⟩):=by
 obtain⟨q1,q2,q3,q4,q5⟩:=R.blk b _ hb
 have hnone:∀g,σ b g=none:=by
  rcases q5 with⟨_,h⟩ | ⟨⟨l,c1,_⟩,_⟩
  · exact h
  · rw[hg] at c1;cases c1
 refine iQ R hb v (.refl _ _ _) (fun _ _ _=>rfl) (fun g l hl=>.inl ⟨g,l,hl,rfl⟩) (fun _ _ _=>rfl) (Nat.le_refl _) rfl rfl rfl ?_
 subst hr
 exact⟨q1,by omega,q3,fun g _=>hnone g,.inl ⟨rfl,hnone⟩⟩

theorem aEY (R:Rel σ π w h) {b gen wgen sz:Nat} {rows:List (List AV)} {ro:Bool} (hb:h b=some (.arr sz rows gen wgen ro)) (v:AV) {l:Loc} (hl:σ b gen=some l) (wg':Nat) (hwg:wg'=wgen∨wg'=gen+1) :
 Done σ π w (σ.set b (gen+1) l) π w (gG h n ⟨v,[(b,.arr sz rows (gen+1) wg' ro)],[]⟩):=by
 obtain⟨q1,q2,q3,q4,⟨l',c1,c2,c3,c4⟩,q6⟩:=BR.real (R.blk b _ hb) hl
 rw[hl] at c1
 cases c1
 have hnone:σ b (gen+1)=none:=q4 _ (by omega)
 have E:Ext σ π w (σ.set b (gen+1) l) π w:=⟨fun b' g' l' hl'=>Sig.set_old hnone hl',fun _ _ h=>h,fun _ _ _=>rfl,fun _ _ _ C _ fr _ h=>⟨C,fr,h,rfl⟩,fun _ _ _ _ _ h=>h⟩
 refine iQ R hb v E (fun b' g' hne=>Sig.set_neb σ _ hne) (fun g' l' hl'=>?_) (fun _ _ _=>rfl) (Nat.le_refl _) rfl rfl rfl ?_
 · by_cases hg:g'=gen+1
   · subst hg
     rw[Sig.set_same] at hl'
     cases hl'
     exact .inl ⟨gen,l,hl,rfl⟩
   · rw[Sig.set_ne σ _ (by omega)] at hl'
     exact .inl ⟨g',l',hl',rfl⟩
 · refine⟨q1,by omega,q3,fun g' hg'=>?_,.inr ⟨⟨l,Sig.set_same ..,c2,c3,c4⟩,fun g' lg hlg hg1 hg2=>?_⟩⟩
   · rw[Sig.set_ne σ _ (by omega)]
     exact q4 g' (by omega)
   · by_cases hg:g'=gen+1
     · subst hg
       obtain⟨l2,C2,te2,p1,p2,p3,p4,p5⟩:=q6 gen _ hl q2 (Nat.le_refl _)
       rw[hl] at p1
       cases p1
       exact⟨l,C2,te2,Sig.set_same ..,p2,p3,p4,fun r row hr1 hr2=>(p5 r row hr1 hr2).mono E⟩
     · rw[Sig.set_ne σ _ (by omega)] at hlg
       obtain⟨l2,C2,te2,p1,p2,p3,p4,p5⟩:=q6 g' lg hlg (by omega) (by omega)
       exact⟨l2,C2,te2,by rw[Sig.set_ne σ _ (by omega)];exact p1,p2,p3,p4,fun r row hr1 hr2=>(p5 r row hr1 hr2).mono E⟩

theorem app_ref0 (R:Rel σ π w h) {b gen wgen:Nat} {ro:Bool} {sz:Nat} {rows:List (List AV)} (hb:h b=some (.arr sz rows gen wgen ro)) (hr:rows=[])
 {ys:List (List AV)} {news:List Value} (hy:jL σ π w sz ys news) (w':World) (rest:Array Value) (e:TypeId) (c:Nat) (f:Fl)
 (hw:∀B,B<w.heap.size→w'.heap[B]? = w.heap[B]?) (hws:w'.heap.size=w.heap.size+1) (hnew:w'.heap[w.heap.size]? = some (.cells (news.toArray++rest) e (0,0))) (hos:w'.os=w.os) (htp:w'.tape=w.tape) (hout:w'.output=w.output)
 (hc:ys.length≤c) (hcs:c*sz≤(news.toArray++rest).size) :
 ∃σ',VR σ' π w' (.ref sz b (gen+1) 0 (0+ys.length) f) (.slice (some ⟨w.heap.size,0,none⟩) ys.length c)∧Done σ π w σ' π w' (gG h n ⟨.ref sz b (gen+1) 0 (0+ys.length) f,[(b,.arr sz (rows++ys) (gen+1) wgen ro)],[]⟩):=by
 subst hr
 obtain⟨q1,q2,q3,q4,q5⟩:=R.blk b _ hb
 have hnone:σ b (gen+1)=none:=q4 _ (by omega)
 have E:Ext σ π w (σ.set b (gen+1) ⟨w.heap.size,ys.length⟩) π w':=Ext.of_old (fun b' g' l' hl'=>Sig.set_old hnone hl') R.prot R.lt hw
 have hp:∀o,¬π w.heap.size o:=fun o ho=>Nat.lt_irrefl _ (R.prot _ _ ho)
 refine⟨σ.set b (gen+1) ⟨w.heap.size,ys.length⟩,?_,?_⟩
 · rw[Nat.zero_add]
   exact .ref sz b (gen+1) 0 ys.length f ⟨w.heap.size,0,none⟩ c ⟨w.heap.size,ys.length⟩ (Sig.set_same ..) (by simp) hc (fun _=>by simp) (fun _=>by simpa using hc) _ (e,(0,0)) hnew (by simpa using hcs)
 · refine iQ R hb _ E (fun b' g' hne=>Sig.set_neb σ _ hne) (fun g' l' hl'=>?_) (fun B hB _=>hw B hB) (by omega) hos htp hout ?_
   · by_cases hg:g'=gen+1
     · subst hg
       rw[Sig.set_same] at hl'
       cases hl'
       exact .inr ⟨Nat.le_refl _,by simp only;omega⟩
     · rw[Sig.set_ne σ _ (by omega)] at hl'
       exact .inl ⟨g',l',hl',rfl⟩
   · rw[List.nil_append]
     refine⟨q1,by omega,hy.2.1,fun g' hg'=>?_,.inr ⟨⟨⟨w.heap.size,ys.length⟩,Sig.set_same ..,rfl,fun _=>hp,fun o _=>hp o⟩,fun g' lg hlg hg1 hg2=>?_⟩⟩
     · rw[Sig.set_ne σ _ (by omega)]
       exact q4 g' (by omega)
     · by_cases hg:g'=gen+1
       · subst hg
         refine⟨⟨w.heap.size,ys.length⟩,_,(e,(0,0)),Sig.set_same ..,Nat.le_refl _,hnew,⟨?_,FrZ.zero _ _⟩,fun r row hr hrow j v hj=>?_⟩
         · simp only[Array.size_append,List.size_toArray,hy.1]
           omega
         · obtain⟨u,hu,hv⟩:=hy.2.2.1 r row hrow j v hj
           refine⟨u,?_,hv.mono E⟩
           rw[Array.getElem?_append_left (Array.getElem?_eq_some_iff.1 hu).1]
           exact hu
       · rw[Sig.set_ne σ _ (by omega)] at hlg
         rcases q5 with⟨_,hv0⟩ | ⟨_,q6⟩
         · rw[hv0] at hlg;cases hlg
         · obtain⟨l2,C2,te2,p1,p2,p3,p4,p5⟩:=q6 g' lg hlg hg1 (by omega)
           refine⟨l2,C2,te2,by rw[Sig.set_ne σ _ (by omega)];exact p1,by simp at p2;omega,by rw[hw _ (R.lt _ _ _ p1)];exact p3,p4,fun r row hr1 hr2=>?_⟩
           simp at p2
           omega

set_option maxHeartbeats 1000000 in
theorem app_ref (R:Rel σ π w h) {b gen wgen:Nat} {ro:Bool} {sz:Nat} {rows:List (List AV)} (hb:h b=some (.arr sz rows gen wgen ro)) {K c:Nat} {a:Addr}
 {f:Fl} (hfw:f.whole=true) (f':Fl) {l0:Loc} (hreal:σ b gen=some l0) (hq:¬(f = .virt∧c=0)) (hv:VR σ π w (.ref sz b gen 0 K f) (.slice (some a) K c)) (hK:K≤rows.length)
 {ys:List (List AV)} {news:List Value} (hy:jL σ π w sz ys news) (hy0:0<ys.length) {wg':Nat} {ro':Bool}
 (hA:(K=rows.length∧wg'=wgen∧ro'=ro)∨(ro=false∧wg'=gen+1∧ro'=false))
 {st xt e ty:Nat} {inf:TypeInfo} {zv x:Value} {dx:TypeDesc} (ht:P.underlying st=some (.slice e)) (hxt:P.underlying xt=some dx) (hi:P.info? e=some inf) (hz:inf.zero=some zv) (hbt:0<inf.bytes) (hzs:zv.cells.size=inf.size) (hsz:sz=inf.size)
 (hs:aC7 P w inf zv dx x ys.length news) (hbytes:(K+ys.length)*inf.bytes≤140737488355328) :
 ∃v' w' σ',(Builtin.append_ #[st,xt] ty #[.slice (some a) K c,x]).run P w = .ok v' w'∧VR σ' π w' (.ref sz b (gen+1) 0 (K+ys.length) f') v' ∧
  Done σ π w σ' π w' (gG h n ⟨.ref sz b (gen+1) 0 (K+ys.length) f',[(b,.arr sz (rows.take K++ys++rows.drop (K+ys.length)) (gen+1) wg' ro')],[]⟩):=by
 subst hsz
 obtain⟨q1,q2,q3,q4,⟨l,c1,c2,c3,c4⟩,q6⟩:=BR.real (R.blk b _ hb) hreal
 obtain⟨l',C,te,a1,a2,a3,a4,a5⟩:=q6 gen _ c1 q2 (Nat.le_refl _)
 rw[c1] at a1
 cases a1
 cases hv with
 | ref0=>exact absurd ⟨rfl,rfl⟩ hq
 | ref _ _ _ _ _ _ _ _ lh hl hin hn ha hf C' e' hC hs' =>
  rw[c1] at hl
  cases hl
  rw[a3] at hC
  simp only[Option.some.injEq,Obj.cells.injEq] at hC
  obtain⟨rfl,hC1,hC2⟩:=hC
  simp only[Nat.zero_add] at hs' hf
  have hMc:rows.length≤c:=by rw[← c2];exact hf hfw
  have hlen':(rows.take K++ys++rows.drop (K+ys.length)).length=K+ys.length+(rows.length - (K+ys.length)):=by simp;omega
  have hnl:=hy.1
  have hrow:∀r,(rows.take K++ys++rows.drop (K+ys.length))[r]? = if r<K then rows[r]? else if r<K+ys.length then ys[r - K]? else rows[r]?:=by
   intro r
   by_cases h1:r<K
   · rw[if_pos h1,List.append_assoc,List.getElem?_append_left (by simp;omega),List.getElem?_take,if_pos h1]
   · rw[if_neg h1]
     by_cases h2:r<K+ys.length
     · rw[if_pos h2,List.append_assoc,List.getElem?_append_right (by simp;omega),List.getElem?_append_left (by simp;omega)]
       congr 1
       simp
       omega
     · rw[if_neg h2,List.getElem?_append_right (by simp;omega)]
       simp only[List.length_append,List.length_take,List.getElem?_drop]
       congr 1
       omega
  have hflat':fH inf.size (rows.take K++ys++rows.drop (K+ys.length)):=by
   intro row hr
   rcases List.mem_append.1 hr with hr | hr
   · rcases List.mem_append.1 hr with hr | hr
     · exact q3 row (List.mem_of_mem_take hr)
     · exact hy.2.1 row hr
   · exact q3 row (List.mem_of_mem_drop hr)
  by_cases hroom:K+ys.length≤c
  · -- in place
    obtain rfl:=ha (by omega)
    have hks:(K+ys.length)*inf.size≤C.size:=Nat.le_trans (Nat.mul_le_mul_right _ hroom) hs'
    have hfit:K*inf.size+news.length≤C.size:=by rw[hnl,← Nat.add_mul];exact hks
    have hr:=app_room (P:=P) (ty:=ty) ht hxt hi hz hbt hzs q1 hs hnl hy.2.2.2 l.blk K c C te.1 te.2 a3 a4.2.ok hroom hfit
    have hD:=rU hfit
    have hDs:(C.toList.take (K*inf.size)++news++C.toList.drop (K*inf.size+news.length)).toArray.size=C.size:=by
     have:=hfit
     simp only[List.size_toArray,List.length_append,List.length_take,List.length_drop,Array.length_toList] at this ⊢
     omega
    generalize (C.toList.take (K*inf.size)++news++C.toList.drop (K*inf.size+news.length)).toArray=D at hr hD hDs
    have hprot:∀o,π l.blk o→∀q,D[o]? = some q↔C[o]? = some q:=by
     intro o ho q
     rcases hA with⟨rfl,_,_⟩ | ⟨hro,_,_⟩
     · have hlt:o<rows.length*inf.size:=by
        rcases Nat.lt_or_ge o (rows.length*inf.size) with h1 | h1
        · exact h1
        · exact absurd ho (c4 o h1)
       rw[hD,if_neg (by omega)]
     · exact absurd ho (c3 hro o)
    have E0:=aDO R l.blk C D te.1 te.2 a3 hDs hprot
    have hw:=setRow_heap w l.blk C D te.1 te.2 a3
    have hnone:σ b (gen+1)=none:=q4 _ (by omega)
    have E:Ext σ π w (σ.set b (gen+1) ⟨l.blk,K+ys.length+(rows.length - (K+ys.length))⟩) π (w.setRow l.blk D) :=
     ⟨fun b' g' l' hl'=>Sig.set_old hnone hl',E0.prot,E0.cell,E0.size,E0.mapc⟩
    refine⟨.slice (some ⟨l.blk,0,none⟩) (K+ys.length) c,w.setRow l.blk D,σ.set b (gen+1) ⟨l.blk,K+ys.length+(rows.length - (K+ys.length))⟩,by simpa using hr,?_,?_⟩
    · refine .ref _ _ _ _ _ _ _ _ _ (Sig.set_same ..) (by simp) hroom (fun _=>by simp) (fun _=>by simp;omega) D te hw ?_
      rw[hDs]
      simpa using hs'
    · refine iQ R hb _ E (fun b' g' hne=>Sig.set_neb σ _ hne) (fun g' l' hl'=>?_) (fun B _ hB=>setRow_other w l.blk B D (fun e=>hB gen l c1 e.symm)) (by simp) rfl rfl rfl ?_
      · by_cases hg:g'=gen+1
        · subst hg
          rw[Sig.set_same] at hl'
          cases hl'
          exact .inl ⟨gen,l,c1,rfl⟩
        · rw[Sig.set_ne σ _ (by omega)] at hl'
          exact .inl ⟨g',l',hl',rfl⟩
      · refine⟨q1,?_,hflat',fun g' hg'=>?_,.inr ⟨⟨_,Sig.set_same ..,hlen'.symm,fun hr'=>?_,fun o ho=>?_⟩,fun g' lg hlg hg1 hg2=>?_⟩⟩
        · rcases hA with⟨_,h1,_⟩ | ⟨_,h1,_⟩<;>omega
        · rw[Sig.set_ne σ _ (by omega)]
          exact q4 g' (by omega)
        · rcases hA with⟨_,_,h1⟩ | ⟨h1,_,_⟩
          · exact c3 (h1▸hr')
          · exact c3 h1
        · rw[hlen'] at ho
          refine c4 o (Nat.le_trans (Nat.mul_le_mul_right _ ?_) ho)
          omega
        · by_cases hg:g'=gen+1
          · subst hg
            refine⟨_,D,te,Sig.set_same ..,by rw[hlen'];exact Nat.le_refl _,hw,⟨?_,a4.2.size hDs⟩,fun r row hr1 hr2 j v hj=>?_⟩
            · simp only
              rw[hDs]
              refine Nat.le_trans (Nat.mul_le_mul_right _ ?_) hs'
              omega
            · simp only at hr1
              rw[hrow] at hr2
              have hjl:j<inf.size:=by
               have:=(List.getElem?_eq_some_iff.1 hj).1
               have hm:row∈(rows.take K++ys++rows.drop (K+ys.length)):=List.mem_of_getElem? (by rw[hrow];exact hr2)
               rw[(hflat' row hm).1] at this
               exact this
              by_cases h1:r<K
              · rw[if_pos h1] at hr2
                obtain⟨u,hu,hvv⟩:=a5 r row (by omega) hr2 j v hj
                refine⟨u,?_,hvv.mono E⟩
                have hle:(r+1)*inf.size≤K*inf.size:=Nat.mul_le_mul_right _ h1
                rw[Nat.succ_mul] at hle
                rw[hD,if_neg (by omega)]
                exact hu
              · rw[if_neg h1] at hr2
                by_cases h2:r<K+ys.length
                · rw[if_pos h2] at hr2
                  obtain⟨u,hu,hvv⟩:=hy.2.2.1 (r - K) row hr2 j v hj
                  refine⟨u,?_,hvv.mono E⟩
                  have hle:(r - K+1)*inf.size≤ys.length*inf.size:=Nat.mul_le_mul_right _ (by omega)
                  rw[Nat.succ_mul] at hle
                  have hsplit:r*inf.size=K*inf.size+(r - K)*inf.size:=by rw[← Nat.add_mul];congr 1;omega
                  rw[hD,if_pos (by omega),show r*inf.size+j - K*inf.size=(r - K)*inf.size+j by omega]
                  simpa using hu
                · rw[if_neg h2] at hr2
                  have hrl:=(List.getElem?_eq_some_iff.1 hr2).1
                  obtain⟨u,hu,hvv⟩:=a5 r row (by omega) hr2 j v hj
                  refine⟨u,?_,hvv.mono E⟩
                  have hle:(K+ys.length)*inf.size≤r*inf.size:=Nat.mul_le_mul_right _ (by omega)
                  rw[Nat.add_mul] at hle
                  rw[hD,if_neg (by omega)]
                  exact hu
          · rcases hA with⟨hKM,rfl,_⟩ | ⟨_,h1,_⟩
            · obtain⟨l2,C2,te2,p1,p2,p3,p4,p5⟩:=q6 g' lg (by rw[Sig.set_ne σ _ (by omega)] at hlg;exact hlg) hg1 (by omega)
              by_cases hbl:l2.blk=l.blk
              · rw[hbl,a3] at p3
                simp only[Option.some.injEq,Obj.cells.injEq] at p3
                obtain⟨rfl,p31,p32⟩:=p3
                refine⟨l2,D,te,by rw[Sig.set_ne σ _ (by omega)];exact p1,by rw[hlen'];omega,by rw[hbl];exact hw,⟨by rw[hDs];exact p4.1,a4.2.size hDs⟩,fun r row hr1 hr2 j v hj=>?_⟩
                rw[hrow,if_pos (by omega)] at hr2
                obtain⟨u,hu,hvv⟩:=p5 r row hr1 hr2 j v hj
                have hjl:j<inf.size:=by
                 have:=(List.getElem?_eq_some_iff.1 hj).1
                 rw[(q3 row (List.mem_of_getElem? hr2)).1] at this
                 exact this
                have hle:(r+1)*inf.size≤K*inf.size:=Nat.mul_le_mul_right _ (by omega)
                rw[Nat.succ_mul] at hle
                refine⟨u,?_,hvv.mono E⟩
                rw[hD,if_neg (by omega)]
                exact hu
              · refine⟨l2,C2,te2,by rw[Sig.set_ne σ _ (by omega)];exact p1,by rw[hlen'];omega,by rw[setRow_other w l.blk l2.blk D hbl];exact p3,p4,fun r row hr1 hr2=>?_⟩
                rw[hrow,if_pos (by omega)] at hr2
                exact(p5 r row hr1 hr2).mono E
            · omega
  · -- a new block
    have hdrop:rows.drop (K+ys.length)=[]:=List.drop_eq_nil_of_le (by omega)
    have hz0:rows.length - (K+ys.length)=0:=by omega
    have hKs:K*inf.size≤C.size:=Nat.le_trans (Nat.mul_le_mul_right _ hn) hs'
    have hol:(C.toList.take (K*inf.size)).length=K*inf.size:=by rw[List.length_take,Array.length_toList];omega
    have ho:(Builtin.firstCells inf.size K (.slice (some a) K c)).run P w.drew = .ok (C.toList.take (K*inf.size)).toArray w.drew:=by
     rcases Nat.eq_zero_or_pos K with h0 | h0
     · subst h0
       simp [Builtin.firstCells,loadCells,loadCellsFrom]
     · obtain rfl:=ha (by omega)
       refine run_firstCells_some (P:=P) w.drew inf.size K ⟨l.blk,0*inf.size,none⟩ K c _ hol (fun j v hj=>?_)
       simp only[List.getElem?_take] at hj
       split at hj
       · rw[f0]
         show w.cell? _=_
         simp only[World.cell?,a3]
         simpa using hj
       · cases hj
    have hr:=aDP (P:=P) (ty:=ty) ht hxt hi hz hbt hzs q1 hs hnl (some a) K c _ ho (by omega) hbytes
    have hge:K+ys.length≤grownCap w (K+ys.length) c e:=grownCap_ge w (K+ys.length) c e
    generalize grownCap w (K+ys.length) c e=cap at hr hge
    have hnew:=iE w.drew (.cells ((C.toList.take (K*inf.size)).toArray++news.toArray++Builtin.zeroCells zv.cells (cap - (K+ys.length))) e)
    have hDs:((C.toList.take (K*inf.size)).toArray++news.toArray++Builtin.zeroCells zv.cells (cap - (K+ys.length))).size=cap*inf.size:=by
     simp only[Array.size_append,List.size_toArray,hol,hnl,size_zeroCells,hzs,← Nat.add_mul]
     congr 1
     omega
    have hD:∀i,i<(K+ys.length)*inf.size→((C.toList.take (K*inf.size)).toArray++news.toArray++Builtin.zeroCells zv.cells (cap - (K+ys.length)))[i]? = if i<K*inf.size then C[i]? else news[i - K*inf.size]?:=by
     intro i hi
     rw[Nat.add_mul] at hi
     rw[Array.getElem?_append_left (by simp only[Array.size_append,List.size_toArray,hol,hnl];omega)]
     by_cases h1:i<K*inf.size
     · rw[if_pos h1,Array.getElem?_append_left (by simp only[List.size_toArray,hol];exact h1)]
       simp [List.getElem?_take,h1]
     · rw[if_neg h1,Array.getElem?_append_right (by simp only[List.size_toArray,hol];omega)]
       simp only[List.size_toArray,hol]
       simp
    generalize ((C.toList.take (K*inf.size)).toArray++news.toArray++Builtin.zeroCells zv.cells (cap - (K+ys.length)))=D at hr hnew hDs hD
    have hold:∀B,B<w.heap.size→(w.drew.alloc (.cells D e)).heap[B]? = w.heap[B]?:=fun B hB=>dC w.drew _ hB
    have hnone:σ b (gen+1)=none:=q4 _ (by omega)
    have E:Ext σ π w (σ.set b (gen+1) ⟨w.heap.size,K+ys.length⟩) π (w.drew.alloc (.cells D e)):=Ext.of_old (fun b' g' l' hl'=>Sig.set_old hnone hl') R.prot R.lt hold
    have hp:∀o,¬π w.heap.size o:=fun o ho=>Nat.lt_irrefl _ (R.prot _ _ ho)
    refine⟨.slice (some ⟨w.heap.size,0,none⟩) (K+ys.length) cap,w.drew.alloc (.cells D e),σ.set b (gen+1) ⟨w.heap.size,K+ys.length⟩,hr,?_,?_⟩
    · exact .ref _ _ _ _ _ _ ⟨w.heap.size,0,none⟩ cap ⟨w.heap.size,K+ys.length⟩ (Sig.set_same ..) (by simp) hge (fun _=>by simp) (fun _=>by simpa using hge) D (e,(0,0)) hnew (by rw[hDs];simp)
    · refine iQ R hb _ E (fun b' g' hne=>Sig.set_neb σ _ hne) (fun g' l' hl'=>?_) (fun B hB _=>hold B hB) (by rw[eW];exact Nat.le_succ _) rfl rfl rfl ?_
      · by_cases hg:g'=gen+1
        · subst hg
          rw[Sig.set_same] at hl'
          cases hl'
          exact .inr ⟨Nat.le_refl _,by rw[eW];exact Nat.lt_succ_self _⟩
        · rw[Sig.set_ne σ _ (by omega)] at hl'
          exact .inl ⟨g',l',hl',rfl⟩
      · refine⟨q1,?_,hflat',fun g' hg'=>?_,.inr ⟨⟨_,Sig.set_same ..,by rw[hlen',hz0];rfl,fun _=>hp,fun o _=>hp o⟩,fun g' lg hlg hg1 hg2=>?_⟩⟩
        · rcases hA with⟨_,h1,_⟩ | ⟨_,h1,_⟩<;>omega
        · rw[Sig.set_ne σ _ (by omega)]
          exact q4 g' (by omega)
        · by_cases hg:g'=gen+1
          · subst hg
            refine⟨_,D,(e,(0,0)),Sig.set_same ..,by rw[hlen',hz0];exact Nat.le_refl _,hnew,⟨by rw[hDs];exact Nat.mul_le_mul_right _ hge,FrZ.zero _ _⟩,fun r row hr1 hr2 j v hj=>?_⟩
            simp only at hr1
            rw[hrow] at hr2
            have hjl:j<inf.size:=by
             have:=(List.getElem?_eq_some_iff.1 hj).1
             have hm:row∈(rows.take K++ys++rows.drop (K+ys.length)):=List.mem_of_getElem? (by rw[hrow];exact hr2)
             rw[(hflat' row hm).1] at this
             exact this
            have hle0:(r+1)*inf.size≤(K+ys.length)*inf.size:=Nat.mul_le_mul_right _ hr1
            rw[Nat.succ_mul] at hle0
            by_cases h1:r<K
            · rw[if_pos h1] at hr2
              obtain⟨u,hu,hvv⟩:=a5 r row (by omega) hr2 j v hj
              refine⟨u,?_,hvv.mono E⟩
              have hle:(r+1)*inf.size≤K*inf.size:=Nat.mul_le_mul_right _ h1
              rw[Nat.succ_mul] at hle
              rw[hD _ (by omega),if_pos (by omega)]
              exact hu
            · rw[if_neg h1,if_pos hr1] at hr2
              obtain⟨u,hu,hvv⟩:=hy.2.2.1 (r - K) row hr2 j v hj
              refine⟨u,?_,hvv.mono E⟩
              have hsplit:r*inf.size=K*inf.size+(r - K)*inf.size:=by rw[← Nat.add_mul];congr 1;omega
              rw[hD _ (by omega),if_neg (by omega),show r*inf.size+j - K*inf.size=(r - K)*inf.size+j by omega]
              simpa using hu
          · rcases hA with⟨hKM,rfl,_⟩ | ⟨_,h1,_⟩
            · obtain⟨l2,C2,te2,p1,p2,p3,p4,p5⟩:=q6 g' lg (by rw[Sig.set_ne σ _ (by omega)] at hlg;exact hlg) hg1 (by omega)
              refine⟨l2,C2,te2,by rw[Sig.set_ne σ _ (by omega)];exact p1,by rw[hlen'];omega,by rw[hold _ (R.lt _ _ _ p1)];exact p3,p4,fun r row hr1 hr2=>?_⟩
              rw[hrow,if_pos (by omega)] at hr2
              exact(p5 r row hr1 hr2).mono E
            · omega

end
end Go.Ws

namespace Go.Ws
set_option linter.unusedVariables false
set_option linter.unusedSimpArgs false

section
variable {P:Program} {σ:Sig} {π:bX} {w:World} {h:Nat→Option Blk} {n:Nat} {δ:Delta} {L:List Nat}

theorem jZ {σ:Sig} {π:bX} {w:World} {x:AV} {u:Value} (hx:VR σ π w x u) (hs:(∃m,lenOf x=some m)∧∀s,x ≠ .str s):∃a s c,u = .slice a s c∧s≤c∧lenOf x=some s:=by
 cases hx with
 | nils=>exact⟨_,_,_,rfl,Nat.le_refl _,rfl⟩
 | emps a=>exact⟨_,_,_,rfl,Nat.le_refl _,rfl⟩
 | sl0 sz a c=>exact⟨_,_,_,rfl,Nat.zero_le _,rfl⟩
 | sl sz rows B o c u hf hl hc hv=>exact⟨_,_,_,rfl,hl,rfl⟩
 | ref0 sz b g a=>exact⟨_,_,_,rfl,Nat.le_refl _,rfl⟩
 | inl0 sz a c=>exact⟨_,_,_,rfl,Nat.zero_le _,rfl⟩
 | inl sz rows B o c u hf hl hc hv=>exact⟨_,_,_,rfl,hl,rfl⟩
 | ref sz b g i n flg a c l hl hi hn ha hf C e hC hs=>exact⟨_,_,_,rfl,hn,rfl⟩
 | str s=>exact absurd rfl (hs.2 s)
 | _=>obtain⟨⟨m,hm⟩,_⟩:=hs;simp [lenOf] at hm

set_option maxHeartbeats 1000000 in
theorem aMI (R:Rel σ π w h) (hn:δ.nw≠[]→h n=none) (st xt ty:Nat) (s x:AV) (su xu:Value) (hs:VR σ π w s su) (hx:VR σ π w x xu) (e:(nG (dS P) n st xt s x).run h=some (δ,L)) :
 cG P (do pure (.value (← Builtin.append_ #[st,xt] ty #[su,xu]))) σ π w h n δ:=by
 unfold nG at e
 split at e
 · rename_i el sz bts z cmp hst
   obtain⟨d,infs,h1,h2,he⟩:=bT hst
   simp only[TI.mk.injEq] at he
   obtain rfl:=gK he.1.symm
   split at e
   · rename_i ei xi hei hxi
     split at e
     · rename_i hcond
       obtain⟨hsz,hbt,hzl⟩:=hcond
       obtain⟨ys,L1,L2,hys,e4,_⟩:=kO e
       clear e
       have e:=e4
       clear e4
       obtain⟨dx,inf,zv,news,hxt,hinf,hz,hzs,hsz',hbt',hyr,hsrc⟩:=ys_of R hei hxi hsz hbt hzl hx hys
       rw[hsz'] at hsz
       rw[hbt'] at hbt
       have hstay:∀a s' c,su = .slice a s' c→s'≤c→ys.length=0→cG P (do pure (.value (← Builtin.append_ #[st,xt] ty #[su,xu]))) σ π w h n ⟨s,[],[]⟩:=by
        intro a s' c hsu hle h0
        subst hsu
        rw[h0] at hsrc
        exact a8 R (zD (P:=P) (ty:=ty) h1 hxt hinf hz hbt hsrc a s' c hle) hs
       have hnew:h n=none→∀(a:Option Addr),su = .slice a 0 0→ys.length*inf.bytes≤140737488355328→cG P (do pure (.value (← Builtin.append_ #[st,xt] ty #[su,xu]))) σ π w h n ⟨.ref inf.size n 0 0 ys.length .virt,[],[.arr inf.size ys 0 0 false]⟩:=by
        intro hn a hsu hb
        subst hsu
        rcases Nat.eq_zero_or_pos ys.length with h0 | h0
        · obtain rfl:=List.eq_nil_of_length_eq_zero h0
          exact⟨_,.slice a 0 0,w,σ,π,iV (zD (P:=P) (ty:=ty) h1 hxt hinf hz hbt hsrc a 0 0 (Nat.le_refl _)),.inl rfl,.ref0 _ _ _ a,op_virt R hn hsz _⟩
        have hr:=aDP (P:=P) (ty:=ty) h1 hxt hinf hz hbt hzs hsz hsrc hyr.1 a 0 0 [] (by cases a<;>simp [Builtin.firstCells,loadCells,loadCellsFrom]) (by omega) (by rw[Nat.zero_add];exact hb)
        simp only[Nat.zero_add] at hr
        have hge:ys.length≤grownCap w ys.length 0 el:=grownCap_ge w ys.length 0 el
        obtain⟨σ',hv',hd'⟩:=aFO R hn hsz hyr (w.drew.alloc (.cells (news.toArray++Builtin.zeroCells zv.cells (grownCap w ys.length 0 el - ys.length)) el)) (Builtin.zeroCells zv.cells (grownCap w ys.length 0 el - ys.length)) el (grownCap w ys.length 0 el) .virt
         (fun B hB=>dC w.drew _ hB) (eW w.drew _) (iE w.drew _) rfl rfl rfl hge (by
          simp only[Array.size_append,List.size_toArray,hyr.1,size_zeroCells,hzs,← Nat.add_mul]
          exact Nat.mul_le_mul_right _ (by omega))
        refine⟨_,_,_,σ',π,iV (by simpa using hr),.inl rfl,hv',hd'⟩
       have hinl:∀(v:AV),s=v→(∃m,lenOf v=some m)→(∀q,v ≠ .str q)→((if ys.length=0 then AM.val v else AM.fail).run h=some (δ,L2))→cG P (do pure (.value (← Builtin.append_ #[st,xt] ty #[su,xu]))) σ π w h n δ:=by
        intro v hsv hl hns e
        split at e
        · rename_i h0
          have hδ:=bW e;subst hδ
          obtain⟨a,s',c,hsu,hle,_⟩:=jZ hs ⟨by rw[hsv];exact hl,by rw[hsv];exact hns⟩
          rw[← hsv]
          exact hstay a s' c hsu hle h0
        · exact(aO e).elim
       split at e
       · -- nil
         cases hs
         split at e
         · rename_i hb
           have hδ:=cT e;subst hδ
           rw[hsz']
           exact hnew (hn (by simp)) _ rfl (by rw[← hbt'];exact hb)
         · exact(aO e).elim
       · cases hs
         split at e
         · rename_i hb
           have hδ:=cT e;subst hδ
           rw[hsz']
           exact hnew (hn (by simp)) _ rfl (by rw[← hbt'];exact hb)
         · exact(aO e).elim
       · exact hinl _ rfl ⟨_,rfl⟩ (fun q hh=>by cases hh) e
       · exact hinl _ rfl ⟨_,rfl⟩ (fun q hh=>by cases hh) e
       · rename_i sz' b g i k flg
         split at e
         · rename_i hcd
           obtain⟨hsze,hi0,hfull,hbytes⟩:=hcd
           obtain⟨y,L',hy,e2,_⟩:=lC e
           clear e
           split at e2
           · rename_i s' rows gen wgen ro
             split at e2
             · rename_i hcd2
               obtain⟨hs',hg,hk⟩:=hcd2
               subst hi0 hs' hg
               have hsz3:s'=inf.size:=hsze.trans hsz'
               obtain⟨a,s2,c,hsu,hle,hlen⟩:=jZ hs ⟨⟨_,rfl⟩,fun s hh=>by cases hh⟩
               simp only[lenOf,Option.some.injEq] at hlen
               subst hlen
               subst hsu
               have key:∀(wg':Nat) (ro':Bool) (f':Fl),((k=rows.length∧wg'=wgen∧ro'=ro∧f'=flg)∨(ro=false∧flg ≠ .virt∧wg'=g+1∧ro'=false)) →
                cG P (do pure (.value (← Builtin.append_ #[st,xt] ty #[.slice a k c,xu]))) σ π w h n ⟨.ref s' b (g+1) 0 (k+ys.length) f',[(b,.arr s' (rows.take k++ys++rows.drop (k+ys.length)) (g+1) wg' ro')],[]⟩:=by
                intro wg' ro' f' hA
                have hwg:wg'=wgen∨wg'=g+1:=hA.imp (fun h=>h.2.1) (fun h=>h.2.2.1)
                have hro:ro'=ro:=hA.elim (fun h=>h.2.2.1) (fun h=>by rw[h.2.2.2,h.1])
                -- a slice that has no row
                have zero:flg = .virt→k=0→c=0→cG P (do pure (.value (← Builtin.append_ #[st,xt] ty #[.slice a k c,xu]))) σ π w h n ⟨.ref s' b (g+1) 0 (k+ys.length) f',[(b,.arr s' (rows.take k++ys++rows.drop (k+ys.length)) (g+1) wg' ro')],[]⟩:=by
                 intro hf hk0 hc0
                 subst hf hk0 hc0
                 obtain⟨hk,rfl,rfl,rfl⟩:=hA.resolve_right (fun h=>h.2.1 rfl)
                 obtain rfl:=List.eq_nil_of_length_eq_zero hk.symm
                 simp only[List.take_nil,List.nil_append,List.drop_nil,List.append_nil]
                 rcases Nat.eq_zero_or_pos ys.length with h0 | h0
                 · obtain rfl:=List.eq_nil_of_length_eq_zero h0
                   have hr:=iV (zD (P:=P) (ty:=ty) h1 hxt hinf hz hbt hsrc a 0 0 (Nat.le_refl _))
                   cases hg:σ b g with
                   | none=>exact⟨_,.slice a 0 0,w,σ,π,hr,.inl rfl,.ref0 _ _ _ a,by simpa using aM0 (n:=n) R hy (.ref s' b (g+1) 0 (0+0) .virt) rfl hg⟩
                   | some l=>exact⟨_,.slice a 0 0,w,_,π,hr,.inl rfl,.ref0 _ _ _ a,by simpa using aEY (n:=n) R hy (.ref s' b (g+1) 0 (0+0) .virt) hg _ (.inl rfl)⟩
                 · have hr:=aDP (P:=P) (ty:=ty) h1 hxt hinf hz hbt hzs hsz hsrc hyr.1 a 0 0 [] (by cases a<;>simp [Builtin.firstCells,loadCells,loadCellsFrom]) (by omega) (by rw[hbt'] at hbytes;exact hbytes)
                   simp only[Nat.zero_add] at hr
                   have hge:ys.length≤grownCap w ys.length 0 el:=grownCap_ge w ys.length 0 el
                   obtain⟨σ',hv',hd'⟩:=app_ref0 (n:=n) R hy rfl (by rw[hsz3];exact hyr) (w.drew.alloc (.cells (news.toArray++Builtin.zeroCells zv.cells (grownCap w ys.length 0 el - ys.length)) el)) (Builtin.zeroCells zv.cells (grownCap w ys.length 0 el - ys.length)) el (grownCap w ys.length 0 el) .virt
                    (fun B hB=>dC w.drew _ hB) (eW w.drew _) (iE w.drew _) rfl rfl rfl hge (by
                     rw[hsz3]
                     simp only[Array.size_append,List.size_toArray,hyr.1,size_zeroCells,hzs,← Nat.add_mul]
                     exact Nat.mul_le_mul_right _ (by omega))
                   exact⟨_,_,_,σ',π,iV (by simpa using hr),.inl rfl,hv',by simpa using hd'⟩
                by_cases hq:flg = .virt∧c=0
                · exact zero hq.1 (by omega) hq.2
                have hreal:∃l a',σ b g=some l∧a=some a'∧k≤l.m∧(0<c→a'=⟨l.blk,0*s',none⟩)∧l.m≤0+c∧∃(C:Array Value) (e:TypeId × (Nat × Nat)),w.heap[l.blk]? = some (.cells C e.1 e.2)∧(0+c)*s'≤C.size:=by
                 cases hs with
                 | ref0=>exact absurd ⟨rfl,rfl⟩ hq
                 | ref _ _ _ _ _ _ a c l hl hin hn ha hf C e hC hs'=>exact⟨l,a,hl,rfl,by omega,ha,hf hfull,C,e,hC,hs'⟩
                obtain⟨l,a',hl,rfl,hkl,ha,hf,C,te,hC,hCs⟩:=hreal
                rcases Nat.eq_zero_or_pos ys.length with h0 | h0
                · obtain rfl:=List.eq_nil_of_length_eq_zero h0
                  have hst:=aEY (n:=n) R hy (.ref s' b (g+1) 0 (k+0) f') hl wg' hwg
                  have e1:rows.take k++[]++rows.drop (k+([]:List (List AV)).length)=rows:=by simp
                  rw[e1,hro]
                  refine⟨_,.slice (some a') k c,w,_,π,iV (zD (P:=P) (ty:=ty) h1 hxt hinf hz hbt hsrc (some a') k c hle),.inl rfl,?_,by simpa using hst⟩
                  exact .ref _ _ _ _ _ _ a' c l (Sig.set_same ..) (by simpa using hkl) hle ha (fun _=>hf) C te hC hCs
                · obtain⟨v',w',σ',hr,hv',hd'⟩:=app_ref (P:=P) (n:=n) (ty:=ty) R hy hfull f' hl hq hs hk (by rw[hsz3];exact hyr) h0 (by
                   rcases hA with⟨q1,q2,q3,_⟩ | ⟨q1,_,q2,q3⟩
                   · exact .inl ⟨q1,q2,q3⟩
                   · exact .inr ⟨q1,q2,q3⟩) h1 hxt hinf hz hbt hzs hsz3 hsrc (by rw[← hbt'];exact hbytes)
                  exact⟨_,_,w',σ',π,iV hr,.inl rfl,hv',hd'⟩
               split at e2
               · rename_i hkr
                 have hδ:=cT e2;subst hδ
                 have:=key wgen ro flg (.inl ⟨hkr,rfl,rfl,rfl⟩)
                 have e1:rows.take k++ys++rows.drop (k+ys.length)=rows++ys:=by
                  rw[List.take_of_length_le (by omega),List.drop_eq_nil_of_le (by omega),List.append_nil]
                 rwa [e1] at this
               · split at e2
                 · exact(aO e2).elim
                 · rename_i hro
                   have hro':ro=false∧flg ≠ .virt:=by
                    cases ro<;>simp_all
                   split at e2
                   · have hδ:=cT e2;subst hδ
                     exact key (g+1) false .full (.inr ⟨hro'.1,hro'.2,rfl,rfl⟩)
                   · have hδ:=cT e2;subst hδ
                     have:=key (g+1) false .full (.inr ⟨hro'.1,hro'.2,rfl,rfl⟩)
                     have e1:rows.take k++ys++rows.drop (k+ys.length)=rows.take k++ys:=by
                      rw[List.drop_eq_nil_of_le (by omega),List.append_nil]
                     rwa [e1] at this
             · exact(aO e2).elim
           · exact(aO e2).elim
         · exact(aO e).elim
       · exact(aO e).elim
     · exact(aO e).elim
   · exact(aO e).elim
 · exact(aO e).elim

end
end Go.Ws

namespace Go.Ws
set_option linter.unusedVariables false
set_option linter.unusedSimpArgs false

section
variable {P:Program} {σ:Sig} {π:bX} {w:World} {h:Nat→Option Blk} {n:Nat} {δ:Delta} {L:List Nat}

theorem aE8 (R:Rel σ π w h) {b gen wgen sz:Nat} {rows:List (List AV)} (hb:h b=some (.arr sz rows gen wgen false)) {zs:List (List AV)} {news:List Value} (hy:jL σ π w sz zs news) (i:Nat) (hle:i+zs.length≤rows.length) (v:AV) {l0:Loc} (hreal:σ b gen=some l0) :
 ∃(l:Loc) (C:Array Value) (te:TypeId × (Nat × Nat)),σ b gen=some l∧(w.heap[l.blk]? = some (.cells C te.1 te.2)∧aB8 C te.2)∧i*sz+news.length≤C.size ∧
  Done σ π w σ π (w.setRow l.blk (C.toList.take (i*sz)++news++C.toList.drop (i*sz+news.length)).toArray) (gG h n ⟨v,[(b,.arr sz (rows.take i++zs++rows.drop (i+zs.length)) gen gen false)],[]⟩):=by
 obtain⟨q1,q2,q3,q4,⟨l,c1,c2,c3,c4⟩,q6⟩:=BR.real (R.blk b _ hb) hreal
 obtain⟨l',C,te,a1,a2,a3,a4,a5⟩:=q6 gen _ c1 q2 (Nat.le_refl _)
 rw[c1] at a1
 cases a1
 have hnl:=hy.1
 have hfit:i*sz+news.length≤C.size:=by
  rw[hnl,← Nat.add_mul]
  exact Nat.le_trans (Nat.mul_le_mul_right _ (by omega)) a4.1
 have hD:=rU hfit
 have hDs:(C.toList.take (i*sz)++news++C.toList.drop (i*sz+news.length)).toArray.size=C.size:=by
  have:=hfit
  simp only[List.size_toArray,List.length_append,List.length_take,List.length_drop,Array.length_toList] at this ⊢
  omega
 refine⟨l,C,te,c1,⟨a3,a4.2.ok⟩,hfit,?_⟩
 generalize (C.toList.take (i*sz)++news++C.toList.drop (i*sz+news.length)).toArray=D at hD hDs
 refine xQ R hb v l gen c1 C D te.1 te.2 a3 hDs (fun o ho=>absurd ho (c3 rfl o)) (fun E hw=>?_)
 have hlen':(rows.take i++zs++rows.drop (i+zs.length)).length=rows.length:=by simp;omega
 have hflat':fH sz (rows.take i++zs++rows.drop (i+zs.length)):=by
  intro row hr
  rcases List.mem_append.1 hr with hr | hr
  · rcases List.mem_append.1 hr with hr | hr
    · exact q3 row (List.mem_of_mem_take hr)
    · exact hy.2.1 row hr
  · exact q3 row (List.mem_of_mem_drop hr)
 refine⟨q1,Nat.le_refl _,hflat',q4,.inr ⟨⟨l,c1,by rw[hlen'];exact c2,fun _=>c3 rfl,by rw[hlen'];exact c4⟩,fun g _ _ hg1 hg2=>?_⟩⟩
 obtain rfl:g=gen:=by omega
 refine⟨l,D,te,c1,by rw[hlen'];exact a2,hw,⟨by have:=a4.1;omega,a4.2.size hDs⟩,fun r row hr1 hr2 j v hj=>?_⟩
 have hjl:j<sz:=by
  have:=(List.getElem?_eq_some_iff.1 hj).1
  rw[(hflat' row (List.mem_of_getElem? hr2)).1] at this
  exact this
 have hsz2:∀a b,a<b→a*sz+sz≤b*sz:=fun a b hab=>by rw[← Nat.succ_mul];exact Nat.mul_le_mul_right _ hab
 by_cases h1:r<i
 · rw[List.append_assoc,List.getElem?_append_left (by simp;omega),List.getElem?_take,if_pos h1] at hr2
   obtain⟨u,hu,hvv⟩:=a5 r row hr1 hr2 j v hj
   refine⟨u,?_,hvv.mono E⟩
   have:=hsz2 r i h1
   rw[hD,if_neg (by omega)]
   exact hu
 · by_cases h2:r<i+zs.length
   · rw[List.append_assoc,List.getElem?_append_right (by simp;omega),List.getElem?_append_left (by simp;omega)] at hr2
     have hr3:zs[r - i]? = some row:=by
      rw[← hr2]
      congr 1
      simp
      omega
     obtain⟨u,hu,hvv⟩:=hy.2.2.1 (r - i) row hr3 j v hj
     refine⟨u,?_,hvv.mono E⟩
     have:=hsz2 (r - i) zs.length (by omega)
     have hsplit:r*sz=i*sz+(r - i)*sz:=by rw[← Nat.add_mul];congr 1;omega
     rw[hD,if_pos (by omega),show r*sz+j - i*sz=(r - i)*sz+j by omega]
     simpa using hu
   · rw[List.getElem?_append_right (by simp;omega)] at hr2
     have hr3:rows[r]? = some row:=by
      rw[← hr2]
      simp only[List.length_append,List.length_take,List.getElem?_drop]
      congr 1
      omega
     obtain⟨u,hu,hvv⟩:=a5 r row hr1 hr3 j v hj
     refine⟨u,?_,hvv.mono E⟩
     have hle2:(i+zs.length)*sz≤r*sz:=Nat.mul_le_mul_right _ (by omega)
     rw[Nat.add_mul] at hle2
     rw[hD,if_neg (by omega)]
     exact hu

theorem aIQ {sz m:Nat} {ys:List (List AV)} {news:List Value} (hy:jL σ π w sz ys news) (hm:m≤ys.length):jL σ π w sz (ys.take m) (news.take (m*sz)):=by
 have hle:m*sz≤ys.length*sz:=Nat.mul_le_mul_right _ hm
 refine⟨by simp [hy.1,hle,hm],fun row hr=>hy.2.1 row (List.mem_of_mem_take hr),fun r row hr j v hj=>?_,fun x hx=>hy.2.2.2 x (List.mem_of_mem_take hx)⟩
 simp only[List.getElem?_take] at hr
 split at hr
 · rename_i hrm
   obtain⟨u,hu,hv⟩:=hy.2.2.1 r row hr j v hj
   refine⟨u,?_,hv⟩
   have hjl:j<sz:=by
    have:=(List.getElem?_eq_some_iff.1 hj).1
    rw[(hy.2.1 row (List.mem_of_getElem? hr)).1] at this
    exact this
   have:r*sz+sz≤m*sz:=by rw[← Nat.succ_mul];exact Nat.mul_le_mul_right _ hrm
   rw[List.getElem?_toArray] at hu ⊢
   rw[List.getElem?_take,if_pos (by omega)]
   exact hu
 · cases hr

theorem op_copy (R:Rel σ π w h) (dt ty:Nat) (ts:Array TypeId) (d s:AV) (du su:Value) (hd:VR σ π w d du) (hs:VR σ π w s su) (hts:ts[0]? = some dt) (e:(aE1 (dS P) dt d s).run h=some (δ,L)) :
 cG P (do pure (.value (← Builtin.copy_ ts ty #[du,su]))) σ π w h n δ:=by
 unfold aE1 at e
 split at e
 · rename_i el sz bts z cmp hst
   obtain⟨dd,infs,h1,h2,he⟩:=bT hst
   simp only[TI.mk.injEq] at he
   obtain rfl:=gK he.1.symm
   split at e
   · rename_i ei hei
     obtain⟨de,inf,e1,e2,rfl⟩:=bT hei
     obtain⟨ys,L1,L2,hys,e4,_⟩:=kO e
     clear e
     obtain⟨hf,news,n1,n2,n3,n4⟩:=aK1 (P:=P) R hs hys
     obtain⟨m1,m2⟩:=n4 w (qW w)
     split at e4
     · exact(aO e4).elim
     · rename_i dn hdn
       split at e4
       · exact(aO e4).elim
       · rename_i hnstr
         obtain⟨a,dl,c,hdu,hdc,hdl⟩:=jZ hd ⟨⟨dn,hdn⟩,fun s' hh=>by subst hh;simp [aIK] at hnstr⟩
         rw[hdn] at hdl
         cases hdl
         subst hdu
         unfold aEA at e4
         split at e4
         · rename_i hm0
           have hδ:=bW e4
           subst hδ
           refine a8 R (u:=.int .i64 0) ?_ (.int _ _)
           have hfc:=m2 0 (Nat.zero_le _)
           have hmin:Nat.min ys.length dn=0:=hm0
           cases a<;>simp [Builtin.copy_,hts,run_underlying h1,m1,hmin,gE e2,hfc,storeCells,goInt]
         · rename_i hm0
           split at e4
           · rename_i sz' b g i k flg
             obtain⟨y,L',hy,e5,_⟩:=lC e4
             clear e4
             split at e5
             · rename_i s' rows gen wgen ro
               split at e5
               · rename_i hcd
                 obtain⟨hsz1,hs1,hg1,hro1,hle⟩:=hcd
                 have hδ:=cT e5
                 subst hδ
                 subst hs1 hg1
                 have hro2:ro=false:=by simpa using hro1
                 subst hro2
                 simp only at hsz1
                 subst hsz1
                 simp only[lenOf,Option.some.injEq] at hdn
                 subst hdn
                 have hyr:jL σ π w inf.size (ys.take (min ys.length k)) (news.take (min ys.length k*inf.size)):=aIQ ⟨n1,hf,n2,n3⟩ (Nat.min_le_left _ _)
                 have hyl:(ys.take (min ys.length k)).length=min ys.length k:=by simp
                 have hre:∃l0,σ b g=some l0:=by
                  cases hd with
                  | ref0=>exact absurd (Nat.min_zero _) hm0
                  | ref _ _ _ _ _ _ _ _ l' hl=>exact⟨l',hl⟩
                 obtain⟨l0,hreal⟩:=hre
                 obtain⟨l,C,te,c1,c2,c3,c4⟩:=aE8 (n:=n) R hy hyr i (by rw[hyl];exact hle) (.int .i64 (min ys.length k:Nat)) hreal
                 rw[hyl] at c4
                 cases hd with
                 | ref0=>exact absurd (Nat.min_zero _) hm0
                 | ref _ _ _ _ _ _ a c l' hl hin hn ha hff C' e' hC hs' =>
                  rw[c1] at hl
                  cases hl
                  obtain rfl:=ha (by omega)
                  have hst:=gD P l.blk (i*inf.size) te.1 te.2 (news.take (min ys.length k*inf.size)) 0 C w c2.1 c2.2 (by simpa using c3) hyr.2.2.2
                  simp only[Nat.add_zero] at hst
                  have hfc:=m2 (min ys.length k) (Nat.min_le_left _ _)
                  have hmin:Nat.min ys.length k=min ys.length k:=rfl
                  refine⟨_,.int .i64 (min ys.length k:Nat),_,σ,π,iV (w':=w.setRow l.blk (C.toList.take (i*inf.size)++news.take (min ys.length k*inf.size)++C.toList.drop (i*inf.size+(news.take (min ys.length k*inf.size)).length)).toArray) ?_,.inl rfl,.int _ _,c4⟩
                  simp only[Builtin.copy_,hts,Sem.run_bind,run_underlying h1,Result.andThen_ok,m1,hmin,gE e2,hfc,hst,goInt,Sem.run_pure,show (#[Value.slice (some ⟨l.blk,i*inf.size,none⟩) k c,su]:Array Value)[0]? = some (Value.slice (some ⟨l.blk,i*inf.size,none⟩) k c) from rfl,show (#[Value.slice (some ⟨l.blk,i*inf.size,none⟩) k c,su]:Array Value)[1]? = some su from rfl]
               · exact(aO e5).elim
             · exact(aO e5).elim
           · exact(aO e4).elim
   · exact(aO e).elim
 · exact(aO e).elim

end
end Go.Ws

namespace Go.Ws
set_option linter.unusedVariables false
set_option linter.unusedSimpArgs false

section
variable {P:Program} {σ:Sig} {π:bX} {w:World} {h:Nat→Option Blk} {n:Nat} {δ:Delta} {L:List Nat}

theorem j5 {e:Nat} {inf:TypeInfo} {zc:AV} (hz:inf.zero.bind zG=some zc):∃zv,inf.zero=some zv∧(∀(σ:Sig) (π:bX) (w:World),VR σ π w zc zv∧VRs σ π w zc.cells zv.cells):=by
 simp only[Option.bind_eq_some_iff] at hz
 obtain⟨zv,hzv,hzo⟩:=hz
 exact⟨zv,hzv,fun σ π w=>⟨qZ hzo σ π w,(qZ hzo σ π w).cellsN (aDX hzo)⟩⟩

theorem op_clear (R:Rel σ π w h) (t ty:Nat) (x:AV) (xu:Value) (hx:VR σ π w x xu) (e:(rX (dS P) t x).run h=some (δ,L)) :
 cG P (do pure (.value (← Builtin.clear_ #[t] ty #[xu]))) σ π w h n δ:=by
 unfold rX at e
 split at e
 · rename_i el sz bts z cmp hst
   obtain⟨dd,infs,h1,h2,he⟩:=bT hst
   simp only[TI.mk.injEq] at he
   obtain rfl:=gK he.1.symm
   split at e
   · rename_i ei hei
     obtain⟨de,inf,e1,e2,rfl⟩:=bT hei
     split at e
     · rename_i zc hzc
       obtain⟨zv,hzv,hzvr⟩:=j5 (e:=el) hzc
       split at e
       · have hδ:=bW e;subst hδ;cases hx
         exact a8 R (u:=undef) (by simp [Builtin.clear_,run_underlying h1,undef]) (fS _ _ _)
       · have hδ:=bW e;subst hδ
         cases hx with
         | emps a=>exact a8 R (u:=undef) (by cases a<;>simp [Builtin.clear_,run_underlying h1,undef]) (fS _ _ _)
       · rename_i sz' rows
         split at e
         · rename_i h0
           have hδ:=bW e;subst hδ
           obtain⟨a,s',c,hsu,hle,hl⟩:=jZ hx ⟨⟨_,rfl⟩,fun s hh=>by cases hh⟩
           simp only[lenOf,Option.some.injEq] at hl
           subst hsu
           rw[h0] at hl
           subst hl
           exact a8 R (u:=undef) (by cases a<;>simp [Builtin.clear_,run_underlying h1,undef]) (fS _ _ _)
         · exact(aO e).elim
       · rename_i sz' rows
         split at e
         · rename_i h0
           have hδ:=bW e;subst hδ
           obtain⟨a,s',c,hsu,hle,hl⟩:=jZ hx ⟨⟨_,rfl⟩,fun s hh=>by cases hh⟩
           simp only[lenOf,Option.some.injEq] at hl
           subst hsu
           rw[h0] at hl
           subst hl
           exact a8 R (u:=undef) (by cases a<;>simp [Builtin.clear_,run_underlying h1,undef]) (fS _ _ _)
         · exact(aO e).elim
       · rename_i sz' b g i k flg
         split at e
         · rename_i h0
           have hδ:=bW e;subst hδ
           obtain⟨a,s',c,hsu,hle,hl⟩:=jZ hx ⟨⟨_,rfl⟩,fun s hh=>by cases hh⟩
           simp only[lenOf,Option.some.injEq] at hl
           subst hsu
           rw[h0] at hl
           subst hl
           exact a8 R (u:=undef) (by cases a<;>simp [Builtin.clear_,run_underlying h1,undef]) (fS _ _ _)
         · rename_i hk0
           obtain⟨y,L',hy,e5,_⟩:=lC e
           clear e
           split at e5
           · rename_i s' rows gen wgen ro
             split at e5
             · rename_i hcd
               obtain⟨hsz1,hs1,hg1,hro1,hle,hzl,hzf⟩:=hcd
               have hδ:=cT e5
               subst hδ
               subst hs1 hg1
               have hro2:ro=false:=by simpa using hro1
               subst hro2
               simp only at hsz1
               subst hsz1
               have hq:=(R.blk b _ hy).1
               have hvz:=hzvr σ π w
               have hvr:VR σ π w (.agg zc.cells) (.agg zv.cells):=.agg _ _ hvz.2.1 hvz.2.2
               have hyr:=pY (k:=k) hvr hzl hq hzf
               have hre:∃l0,σ b g=some l0:=by
                cases hx with
                | ref0=>exact absurd rfl hk0
                | ref _ _ _ _ _ _ _ _ l' hl=>exact⟨l',hl⟩
               obtain⟨l0,hreal⟩:=hre
               obtain⟨l,C,te,c1,c2,c3,c4⟩:=aE8 (n:=n) R hy hyr i (by simpa using hle) dD hreal
               rw[List.length_replicate] at c4
               cases hx with
               | ref0=>exact absurd rfl hk0
               | ref _ _ _ _ _ _ a c l' hl hin hn ha hff C' e' hC hs' =>
                rw[c1] at hl
                cases hl
                obtain rfl:=ha (by omega)
                have hst:=gD P l.blk (i*inf.size) te.1 te.2 _ 0 C w c2.1 c2.2 (by simpa using c3) hyr.2.2.2
                simp only[Nat.add_zero] at hst
                refine⟨_,undef,_,σ,π,iV (w':=w.setRow l.blk (C.toList.take (i*inf.size)++(Builtin.zeroCells zv.cells k).toList++C.toList.drop (i*inf.size+(Builtin.zeroCells zv.cells k).toList.length)).toArray) ?_,.inl rfl,fS _ _ _,c4⟩
                obtain⟨k',rfl⟩:∃k',k=k'+1:=⟨k - 1,by omega⟩
                simp only[Builtin.clear_,Sem.run_bind,run_underlying h1,Result.andThen_ok,zeroValue,typeInfo,run_program,e2,hzv,hst,Sem.run_pure,undef,show (#[t]:Array TypeId)[0]? = some t from rfl,show (#[Value.slice (some ⟨l.blk,i*inf.size,none⟩) (k'+1) c]:Array Value)[0]? = some (Value.slice (some ⟨l.blk,i*inf.size,none⟩) (k'+1) c) from rfl]
             · exact(aO e5).elim
           · exact(aO e5).elim
       · exact(aO e).elim
     · exact(aO e).elim
   · exact(aO e).elim
 · exact(aO e).elim

theorem aDG (R:Rel σ π w h) (hn:h n=none) {sz:Nat} (hsz:0<sz) {ys:List (List AV)} {news:List Value} (hy:jL σ π w sz ys news) (e:TypeId) (hy0:0<ys.length) :
 ∃σ',VR σ' π (w.alloc (.cells news.toArray e)) (.ref sz n 0 0 ys.length .full) (.slice (some ⟨w.heap.size,0,none⟩) ys.length ys.length)∧Done σ π w σ' π (w.alloc (.cells news.toArray e)) (gG h n ⟨.ref sz n 0 0 ys.length .full,[],[.arr sz ys 0 0 false]⟩):=by
 have:=aFO R hn hsz hy (w.alloc (.cells news.toArray e)) #[] e ys.length .full (fun B hB=>dC w _ hB) (eW ..) (by rw[Array.append_empty];exact iE ..) rfl rfl rfl (Nat.le_refl _) (by simp [hy.1])
 exact this

theorem aHA (R:Rel σ π w h) (hn:δ.nw≠[]→h n=none) (t:Nat) (l c:AV) (lu cu:Value) (hl:VR σ π w l lu) (hc:VR σ π w c cu) (e:(mP (dS P) n t l c).run h=some (δ,L)) :
 cG P (do pure (.value (← Instr.makeSlice t lu cu))) σ π w h n δ:=by
 unfold mP at e
 split at e
 · rename_i el sz bts z cmp k1 q1 k2 q2 hst
   obtain⟨dd,infs,h1,h2,he⟩:=bT hst
   simp only[TI.mk.injEq] at he
   obtain rfl:=gK he.1.symm
   cases hl
   cases hc
   split at e
   · rename_i ei hei
     obtain⟨de,inf,e1,e2,rfl⟩:=bT hei
     split at e
     · rename_i zc hzc
       obtain⟨zv,hzv,hzvr⟩:=j5 (e:=el) hzc
       split at e
       · rename_i hcd
         obtain⟨rfl,hq0,hq1,hbt,hzl,hsz,hzf⟩:=hcd
         simp only at hq1 hbt hsz hzl
         have hqb:q1≤140737488355328:=Int.le_trans (by have:=Int.mul_le_mul_of_nonneg_left (show (1:Int)≤inf.bytes by omega) hq0;omega) hq1
         have hw:=rN hq0 hqb
         have hvz:=hzvr σ π w
         have hvr:VR σ π w (.agg zc.cells) (.agg zv.cells):=.agg _ _ hvz.2.1 hvz.2.2
         have hzs:zv.cells.size=inf.size:=hvz.2.1.trans hzl
         have hcomm:(inf.bytes:Int)*q1=q1*inf.bytes:=Int.mul_comm _ _
         have htoo:¬((inf.bytes:Int)*q1>2 ^ 48):=by rw[hcomm];omega
         have hneg:¬q1<0:=by omega
         split at e
         · rename_i h0
           subst h0
           have hδ:=bW e;subst hδ
           refine⟨_,.slice (some ⟨w.heap.size,0,none⟩) 0 0,w.alloc (.cells #[] el),σ,π,iV ?_,.inl rfl,.emps _,?_⟩
           · simp [Instr.makeSlice,run_underlying h1,asInt,asIntOf,typeInfo,e2,hw,sizeOf,newRow,Array.range_zero']
           · rw[i9]
             refine⟨Ext.of_old (fun _ _ _ h=>h) R.prot R.lt (fun B hB=>dC w _ hB),⟨by rw[eW];exact Nat.le_succ _,rfl,rfl,rfl,fun B hB _=>dC w _ hB,fun b g l hl=>.inr ⟨b,g,l,hl,rfl⟩,fun _ _ h=>.inl h⟩,?_⟩
             have E:Ext σ π w σ π (w.alloc (.cells #[] el)):=Ext.of_old (fun _ _ _ h=>h) R.prot R.lt (fun B hB=>dC w _ hB)
             exact⟨fun b x hx=>(R.blk b x hx).mono E (fun _=>rfl) (fun g l hl=>dC w _ (R.lt _ _ _ hl)) (fun _ _ _ _ h=>h),R.non,R.inj,fun b g l hl=>by rw[eW];exact Nat.lt_succ_of_lt (R.lt _ _ _ hl),fun B o hp=>by rw[eW];exact Nat.lt_succ_of_lt (R.prot _ _ hp)⟩
         · rename_i h0
           have hδ:=cT e;subst hδ
           have hyr:=pY (σ:=σ) (π:=π) (w:=w) (k:=q1.toNat) hvr hzl hsz hzf
           obtain⟨σ',hv',hd'⟩:=aDG R (hn (by simp)) hsz hyr el (by simp;omega)
           rw[List.length_replicate] at hv' hd'
           refine⟨_,_,_,σ',π,iV ?_,.inl rfl,hv',hd'⟩
           have hnz:¬(q1.toNat*inf.size=0):=by
            intro hh
            rcases Nat.mul_eq_zero.1 hh with h3 | h3<;>omega
           have hnz2:¬(q1≤0∨inf.size=0):=by omega
           have hzc2:Builtin.zeroCells zv.cells q1.toNat=(Array.range (q1.toNat*inf.size)).map (zv.cells[· % zv.cells.size]!):=by
            simp only[Builtin.zeroCells,hzs]
           have hd1:¬((281474976710656:Int)<(inf.bytes:Int)*q1):=by omega
           simp [Instr.makeSlice,run_underlying h1,asInt,asIntOf,typeInfo,zeroValue,hzv,e2,hw,sizeOf,newRow,hneg,hnz,hnz2,hd1,← hzc2]
       · exact(aO e).elim
     · exact(aO e).elim
   · exact(aO e).elim
 · exact(aO e).elim

end
end Go.Ws

namespace Go.Ws
set_option linter.unusedVariables false
set_option linter.unusedSimpArgs false

theorem aC6 (off:Nat):∀(l:List Value) (k:Nat) (cells:Array Value),off+k+l.length≤cells.size →
 ((l.zipIdx k).foldl (fun cs (c:Value × Nat)=>cs.setIfInBounds (off+c.2) c.1) cells).size=cells.size ∧
 ∀i,((l.zipIdx k).foldl (fun cs (c:Value × Nat)=>cs.setIfInBounds (off+c.2) c.1) cells)[i]? = if off+k≤i∧i<off+k+l.length then l[i - (off+k)]? else cells[i]?
 | [],k,cells,_=>by
  refine⟨rfl,fun i=>?_⟩
  simp only[List.zipIdx_nil,List.foldl_nil,List.length_nil,Nat.add_zero]
  rw[if_neg (by omega)]
 | v::l,k,cells,h=>by
  simp only[List.length_cons] at h
  obtain⟨h1,h2⟩:=aC6 off l (k+1) (cells.setIfInBounds (off+k) v) (by simp;omega)
  simp only[List.zipIdx_cons,List.foldl_cons]
  refine⟨by rw[h1];simp,fun i=>?_⟩
  rw[h2]
  simp only[List.length_cons]
  by_cases e1:i=off+k
  · subst e1
    have hlt:off+k<cells.size:=by omega
    rw[if_neg (by omega),if_pos (by omega)]
    simp [hlt]
  · by_cases e2:off+(k+1)≤i∧i<off+(k+1)+l.length
    · rw[if_pos e2,if_pos (by omega)]
      rw[show i - (off+k)=(i - (off+(k+1)))+1 by omega]
      simp
    · rw[if_neg e2,if_neg (by omega)]
      rw[Array.getElem?_setIfInBounds_ne (by omega)]

theorem aD3 (off:Nat) (vs cells:Array Value) (h:off+vs.size≤cells.size) :
 (vs.zipIdx.foldl (fun cs (c,j)=>cs.setIfInBounds (off+j) c) cells).size=cells.size ∧
 ∀i,(vs.zipIdx.foldl (fun cs (c,j)=>cs.setIfInBounds (off+j) c) cells)[i]? = if off≤i∧i<off+vs.size then vs[i - off]? else cells[i]?:=by
 obtain⟨h1,h2⟩:=aC6 off vs.toList 0 cells (by simpa using h)
 have e:(vs.zipIdx.foldl (fun cs (c,j)=>cs.setIfInBounds (off+j) c) cells)=((vs.toList.zipIdx 0).foldl (fun cs (c:Value × Nat)=>cs.setIfInBounds (off+c.2) c.1) cells):=by
  rw[← Array.foldl_toList]
  simp
 rw[e]
 refine⟨h1,fun i=>?_⟩
 rw[h2]
 simp

section
variable {P:Program} {σ:Sig} {π:bX} {w:World} {h:Nat→Option Blk} {n:Nat} {δ:Delta} {L:List Nat}

inductive PartsR (σ:Sig) (π:bX) (w:World):List (Nat × AV)→List (Nat × Value)→Prop
 | nil:PartsR σ π w [] []
 | cons {a:Nat × AV} {b:Nat × Value} {ps:List (Nat × AV)} {pu:List (Nat × Value)} (hab:a.1=b.1∧VR σ π w a.2 b.2) (h:PartsR σ π w ps pu):PartsR σ π w (a::ps) (b::pu)

theorem aI9 (vs:List (Nat × Nat)) {ps:List (Nat × AV)} {pu:List (Nat × Value)} (hp:PartsR σ π w ps pu):PartsR σ π w (ps.map fun p=>(p.1,rB vs p.2)) pu:=by
 induction hp with
 | nil=>exact .nil
 | cons hab _ ih=>exact .cons ⟨hab.1,hab.2.cast vs⟩ ih

theorem aLQ {pl:Nat→Option (Nat × Nat)} {ps:List (Nat × AV)} {pu:List (Nat × Value)} (hp:PartsR σ π w ps pu):∀{c c':List AV} {d:Array Value},VRs σ π w c d→aIV pl c ps=some c'→∃d',Instr.fill pl d pu=some d'∧VRs σ π w c' d':=by
 induction hp with
 | nil=>intro c c' d hv e;cases e;exact⟨d,rfl,hv⟩
 | @cons a b ps pu hab _ ih =>
  intro c c' d hv e
  obtain⟨i,v⟩:=a
  obtain⟨i',u⟩:=b
  obtain⟨rfl,hvu⟩:=hab
  simp only[aIV] at e
  simp only[Instr.fill]
  split at e
  · cases e
  · rename_i off size hpl
    split at e
    · rename_i hc
      obtain⟨hc1,hc2,hc3⟩:=hc
      have hus:u.cells.size=size:=(hvu.cells hc3).1.trans hc1
      have hfit:off+u.cells.size≤d.size:=by rw[hus,hv.1];exact hc2
      obtain⟨f1,f2⟩:=aD3 off u.cells d hfit
      have hcond:¬((u.cells.size≠size || decide (off+u.cells.size>d.size))=true):=by simp [hus];omega
      simp only[hpl,hcond,if_false]
      refine ih ⟨by rw[f1,hv.1];simp [tE];omega,fun j x y hx hy=>?_⟩ e
      rw[aAX (by omega)] at hx
      rw[f2] at hy
      rw[hus,← hc1] at hy
      split at hx
      · rename_i hj
        rw[if_pos hj] at hy
        exact(hvu.cells hc3).2 _ x y hx hy
      · rename_i hj
        rw[if_neg hj] at hy
        exact hv.2 j x y hx hy
    · cases e

theorem aKZ {sz:Nat} {ps:List (Nat × AV)} {pu:List (Nat × Value)} (hp:PartsR σ π w ps pu):∀{rows rows':List (List AV)} {d:Array Value},jL σ π w sz rows d.toList→aGZ sz ps rows=some rows'→∃d',Instr.fill (fun i=>some (i*sz,sz)) d pu=some d'∧jL σ π w sz rows' d'.toList∧rows'.length=rows.length:=by
 induction hp with
 | nil=>intro rows rows' d hv e;cases e;exact⟨d,rfl,hv,rfl⟩
 | @cons a b ps pu hab _ ih =>
  intro rows rows' d hv e
  obtain⟨i,v⟩:=a
  obtain⟨i',u⟩:=b
  obtain⟨rfl,hvu⟩:=hab
  simp only[aGZ] at e
  simp only[Instr.fill]
  split at e
  · rename_i hc
    obtain⟨hc1,hc2,hc3⟩:=hc
    have h1:v.cells.all AV.one=true:=by unfold oH at hc3;simp only[Bool.and_eq_true] at hc3;exact hc3.1
    have hus:u.cells.size=sz:=(hvu.cells h1).1.trans hc1
    have hds:d.size=rows.length*sz:=by have:=hv.1;rwa [Array.length_toList] at this
    have hle:i*sz+sz≤rows.length*sz:=by rw[← Nat.succ_mul];exact Nat.mul_le_mul_right _ hc2
    obtain⟨f1,f2⟩:=aD3 (i*sz) u.cells d (by omega)
    have hcond:¬((u.cells.size≠sz || decide (i*sz+u.cells.size>d.size))=true):=by simp [hus];omega
    simp only[hcond,if_false]
    have hone:∀x∈u.cells.toList,x.oneCell'=true:=aE4 hvu (by unfold oH at hc3;simp only[Bool.and_eq_true] at hc3;exact hc3.1)
    suffices hin:jL σ π w sz (rows.set i v.cells) (u.cells.zipIdx.foldl (fun cs (c,j)=>cs.setIfInBounds (i*sz+j) c) d).toList by
     obtain⟨d',g1,g2,g3⟩:=ih hin e
     exact⟨d',g1,g2,by rw[g3];simp⟩
    refine⟨by rw[Array.length_toList,f1,hds];simp,fun row hr=>?_,fun r row hr j x hj=>?_,fun x hx=>?_⟩
    · rcases List.mem_or_eq_of_mem_set hr with hm | rfl
      · exact hv.2.1 row hm
      · exact⟨hc1,aCQ hc3⟩
    · have hjs:j<sz:=by
       have hjl:=(List.getElem?_eq_some_iff.1 hj).1
       rcases List.mem_or_eq_of_mem_set (List.mem_of_getElem? hr) with hm | rfl
       · rw[(hv.2.1 row hm).1] at hjl;exact hjl
       · omega
      have hmul:∀a b,a<b→a*sz+sz≤b*sz:=fun a b hab=>by rw[← Nat.succ_mul];exact Nat.mul_le_mul_right _ hab
      by_cases hri:r=i
      · subst hri
        rw[List.getElem?_set_self hc2] at hr
        cases hr
        obtain⟨y,hy,hvy⟩:=(hvu.cells h1).at_ hj
        refine⟨y,?_,hvy⟩
        rw[List.getElem?_toArray,Array.getElem?_toList,f2,if_pos (by omega),show r*sz+j - r*sz=j by omega]
        exact hy
      · rw[List.getElem?_set_ne (by omega)] at hr
        obtain⟨y,hy,hvy⟩:=hv.2.2.1 r row hr j x hj
        refine⟨y,?_,hvy⟩
        rw[List.getElem?_toArray,Array.getElem?_toList] at hy ⊢
        rw[f2,if_neg ?_]
        · exact hy
        · rcases Nat.lt_or_gt_of_ne hri with hlt | hgt
          · have:=hmul r i hlt;omega
          · have:=hmul i r hgt;omega
    · obtain⟨q,hq⟩:=List.mem_iff_getElem?.1 hx
      rw[Array.getElem?_toList,f2] at hq
      split at hq
      · exact hone x (List.mem_of_getElem? (by rw[Array.getElem?_toList];exact hq))
      · exact hv.2.2.2 x (List.mem_of_getElem? (by rw[Array.getElem?_toList];exact hq))
  · cases e

theorem aJ9 (R:Rel σ π w h) (o:Obj):Done σ π w σ π (w.alloc o) h:=by
 have E:Ext σ π w σ π (w.alloc o):=Ext.of_old (fun _ _ _ h=>h) R.prot R.lt (fun B hB=>dC w _ hB)
 exact⟨E,⟨by rw[eW];exact Nat.le_succ _,rfl,rfl,rfl,fun B hB _=>dC w _ hB,fun b g l hl=>.inr ⟨b,g,l,hl,rfl⟩,fun _ _ h=>.inl h⟩,
  ⟨fun b x hx=>(R.blk b x hx).mono E (fun _=>rfl) (fun g l hl=>dC w _ (R.lt _ _ _ hl)) (fun _ _ _ _ h=>h),R.non,R.inj,fun b g l hl=>by rw[eW];exact Nat.lt_succ_of_lt (R.lt _ _ _ hl),fun B o hp=>by rw[eW];exact Nat.lt_succ_of_lt (R.prot _ _ hp)⟩⟩

theorem aF8 (R:Rel σ π w h) (w':World) (hw:∀B,B<w.heap.size→w'.heap[B]? = w.heap[B]?) (hsz:w'.heap.size=w.heap.size+1) (hos:w'.os=w.os) (htp:w'.tape=w.tape) (hout:w'.output=w.output) :
 Done σ π w σ (fun B o=>π B o∨B=w.heap.size) w' h:=by
 have E:Ext σ π w σ (fun B o=>π B o∨B=w.heap.size) w' :=
  ⟨fun _ _ _ h=>h,fun _ _ h=>.inl h,fun B o h=>kP (hw B (R.prot B o h)),fun b g l C e fr h1 h2=>⟨C,fr,(hw _ (R.lt b g l h1)).trans h2,rfl⟩,fun B o C k h h2=>(hw B (R.prot B o h)).trans h2⟩
 refine⟨E,⟨by omega,hos,htp,hout,fun B hB _=>hw B hB,fun b g l hl=>.inr ⟨b,g,l,hl,rfl⟩,fun B o h=>?_⟩,⟨fun b x hx=>(R.blk b x hx).mono E (fun _=>rfl) (fun g l hl=>hw _ (R.lt _ _ _ hl)) (fun g l o hl h=>?_),R.non,R.inj,fun b g l hl=>by have:=R.lt _ _ _ hl;omega,fun B o h=>?_⟩⟩
 · rcases h with h | rfl
   · exact .inl h
   · exact .inr (.inl (Nat.le_refl _))
 · rcases h with h | h
   · exact h
   · have:=R.lt _ _ _ hl
     omega
 · rcases h with h | rfl
   · have:=R.prot _ _ h
     omega
   · omega

theorem ps_parts {ps:List (Nat × AV)} {pu:List (Nat × Value)} (hp:PartsR σ π w ps pu):∀{c c':List AV} {d:Array Value},VRs σ π w c d→aCO ps c=some c' →
 ∃d',Instr.fill (fun i=>some (i*1,1)) d pu=some d'∧VRs σ π w c' d'∧c'.length=c.length:=by
 induction hp with
 | nil=>intro c c' d hv e;cases e;exact⟨d,rfl,hv,rfl⟩
 | @cons a b ps pu hab _ ih =>
  intro c c' d hv e
  obtain⟨i,v⟩:=a
  obtain⟨i',u⟩:=b
  obtain⟨rfl,hvu⟩:=hab
  simp only[aCO] at e
  simp only[Instr.fill]
  split at e
  · rename_i hc
    obtain⟨hc1,hc2⟩:=hc
    have hvu':VR σ π w v u:=hvu
    have hcells:v.cells=[v]:=by cases v<;>first|rfl | cases hc1
    have h1:v.cells.all AV.one=true:=by rw[hcells];simp [hc1]
    obtain⟨k1,k2⟩:=hvu'.cells h1
    rw[hcells] at k1 k2
    have hus:u.cells.size=1:=k1
    have hfit:i*1+u.cells.size≤d.size:=by rw[hus,hv.1];omega
    obtain⟨f1,f2⟩:=aD3 (i*1) u.cells d hfit
    have hcond:¬((u.cells.size≠1 || decide (i*1+u.cells.size>d.size))=true):=by simp [hus];omega
    simp only[hcond,if_false]
    have hset:VRs σ π w (c.set i v) (u.cells.zipIdx.foldl (fun cs (c,j)=>cs.setIfInBounds (i*1+j) c) d):=by
     refine⟨by rw[f1,hv.1,List.length_set],fun j x y hx hy=>?_⟩
     rw[f2] at hy
     rw[hus] at hy
     by_cases hj:j=i
     · subst hj
       rw[List.getElem?_set_self hc2] at hx
       cases hx
       rw[if_pos (by omega)] at hy
       exact k2 (j - j*1) v y (by rw[show j - j*1=0 by omega];rfl) hy
     · rw[List.getElem?_set_ne (by omega)] at hx
       rw[if_neg (by omega)] at hy
       exact hv.2 j x y hx hy
    obtain⟨d',g1,g2,g3⟩:=ih hset e
    exact⟨d',g1,g2,by rw[g3,List.length_set]⟩
  · cases e

theorem aEJ (R:Rel σ π w h) (hn:δ.nw≠[]→h n=none) (t len:Nat) (ps:List (Nat × AV)) (pu:Array (Nat × Value)) (hp:PartsR σ π w ps pu.toList) (e:(tF (dS P) n t len ps).run h=some (δ,L)) :
 cG P (do pure (.value (← Instr.buildSlice t len pu))) σ π w h n δ:=by
 unfold tF at e
 split at e
 · rename_i el sz bts z cmp hst
   obtain⟨dd,infs,h1,h2,he⟩:=bT hst
   simp only[TI.mk.injEq] at he
   obtain rfl:=gK he.1.symm
   split at e
   · rename_i ei hei
     obtain⟨de,inf,e1,e2,rfl⟩:=bT hei
     split at e
     · rename_i zc hzc
       obtain⟨zc0,hzc0,rfl⟩:=Option.map_eq_some_iff.1 hzc
       obtain⟨zv,hzv,hzvr⟩:=j5 (e:=el) hzc0
       split at e
       · rename_i hcd
         obtain⟨hzl,hsz,hbig,hzf⟩:=hcd
         simp only at hzl hsz hbig
         have hvz0:=hzvr σ π w
         have hvz:=aDV (vs:=iP (dS P) 4 el 0) (⟨hvz0.2.1,hvz0.2.2⟩:VRs σ π w zc0.cells zv.cells)
         have hvr:VR σ π w (.agg (nW (iP (dS P) 4 el 0) zc0.cells)) (.agg zv.cells):=.agg _ _ hvz.1 hvz.2
         have hzs:zv.cells.size=inf.size:=hvz.1.trans hzl
         have hyr:=pY (σ:=σ) (π:=π) (w:=w) (k:=len) hvr hzl hsz hzf
         split at e
         · rename_i rows hrows
           obtain⟨d',g1,g2,g3⟩:=aKZ (aI9 _ hp) hyr hrows
           rw[List.length_replicate] at g3
           have hzc2:Builtin.zeroCells zv.cells len=(Array.range (len*inf.size)).map (zv.cells[· % zv.cells.size]!):=by
            simp only[Builtin.zeroCells,hzs]
           have hbig2:¬(len*inf.size>2 ^ 24):=by omega
           have hrun:(Instr.buildSlice t len pu).run P w = .ok (.slice (some ⟨w.heap.size,0,none⟩) len len) (w.alloc (.cells d' el)):=by
            by_cases h0:len=0
            · subst h0
              have hz0:Builtin.zeroCells zv.cells 0 = #[]:=by simp [Builtin.zeroCells,Array.range_zero']
              rw[hz0] at g1
              simp [Instr.buildSlice,run_underlying h1,gE e2,g1,newRow,Array.range_zero']
            · have hnz:¬(len*inf.size=0):=by
               intro hh
               rcases Nat.mul_eq_zero.1 hh with h3 | h3<;>omega
              have hnz2:¬(len=0∨inf.size=0):=by omega
              have hb3:¬(16777216<len*inf.size):=by omega
              rw[hzc2] at g1
              simp [Instr.buildSlice,run_underlying h1,gE e2,zeroValue,typeInfo,e2,hzv,hnz,hnz2,hb3,g1,newRow]
           split at e
           · rename_i h0
             have hδ:=bW e;subst hδ
             subst h0
             exact⟨_,_,_,σ,π,iV hrun,.inl rfl,.emps _,by rw[i9];exact aJ9 R _⟩
           · rename_i h0
             have hδ:=cT e;subst hδ
             obtain⟨σ',hv',hd'⟩:=aDG R (hn (by simp)) hsz g2 el (by omega)
             rw[g3] at hv' hd'
             exact⟨_,_,_,σ',π,iV (by rw[hrun]),.inl rfl,by simpa using hv',by simpa using hd'⟩
         · split at e
           · rename_i c hc
             split at e
             · exact(aO e).elim
             · rename_i hcond
               have hδ:=bW e;subst hδ
               have hl0:len≠0:=fun h=>hcond (.inl h)
               have hs1:inf.size=1:=by
                rcases Nat.decEq inf.size 1 with h | h
                · exact absurd (.inr h) hcond
                · exact h
               generalize hcz:nW (iP (dS P) 4 el 0) zc0.cells=cz at hc hvz hzl
               rw[hs1] at hzl hzs
               obtain⟨z0,rfl⟩:∃z0,cz=[z0]:=List.length_eq_one_iff.1 hzl
               have hrep:VRs σ π w (List.replicate len z0) (Builtin.zeroCells zv.cells len):=by
                have hzc2:Builtin.zeroCells zv.cells len=(Array.range (len*1)).map (zv.cells[· % 1]!):=by
                 simp only[Builtin.zeroCells,hzs]
                rw[hzc2]
                refine⟨by simp,fun i v u hi hu=>?_⟩
                rw[List.getElem?_replicate] at hi
                split at hi
                · cases hi
                  simp only[Array.getElem?_map] at hu
                  rw[Array.getElem?_range,if_pos (by omega)] at hu
                  simp only[Option.map_some,Option.some.injEq] at hu
                  subst hu
                  rw[Nat.mod_one]
                  exact hvz.2 0 z0 _ rfl (by rw[getElem!_pos zv.cells 0 (by omega)];exact Array.getElem?_eq_getElem (by omega))
                · cases hi
               obtain⟨d',g1,g2,g3⟩:=ps_parts hp hrep hc
               rw[List.length_replicate] at g3
               have hrun:(Instr.buildSlice t len pu).run P w = .ok (.slice (some ⟨w.heap.size,0,none⟩) len len) (w.alloc (.cells d' el)):=by
                have hnz2:¬(len=0∨inf.size=0):=by omega
                have hbg:len*inf.size≤16777216:=hbig
                have hb3:¬(16777216<len):=by rw[hs1] at hbg;omega
                have hzc2:Builtin.zeroCells zv.cells len=(Array.range (len*1)).map (zv.cells[· % zv.cells.size]!):=by
                 simp only[Builtin.zeroCells,hzs]
                rw[hzc2] at g1
                simp only[Nat.mul_one,hzs] at g1
                simp [Instr.buildSlice,run_underlying h1,gE e2,zeroValue,typeInfo,e2,hzv,hzs,hs1,hl0,hb3,g1,newRow]
               have hD:=aF8 R (w.alloc (.cells d' el)) (fun B hB=>dC w _ hB) (eW w _) rfl rfl rfl
               refine⟨_,_,_,σ,_,iV hrun,.inl rfl,?_,by rw[i9];exact hD⟩
               have hg2:=g2.mono hD.ext
               have:=VR.ps (σ:=σ) (π:=fun B o=>π B o∨B=w.heap.size) (w:=w.alloc (.cells d' el)) c d' w.heap.size 0 len (by omega) (fun r u hr=>⟨by
                rw[Nat.zero_add]
                have hnew:=iE w (.cells d' el)
                simp only[World.cell?,hnew]
                exact hr,.inr rfl⟩) hg2.1 hg2.2
               rwa [g3] at this
           · exact(aO e).elim
       · exact(aO e).elim
     · exact(aO e).elim
   · exact(aO e).elim
 · exact(aO e).elim

end
end Go.Ws

namespace Go.Ws
set_option linter.unusedVariables false
set_option linter.unusedSimpArgs false

section
variable {P:Program} {σ:Sig} {π:bX} {w:World} {h:Nat→Option Blk} {n:Nat} {δ:Delta} {L:List Nat}

theorem aFH:∀(fs:List Field) (places:List (Nat × Nat)),(fs.map fun f=>(f.offset,f.type)).mapM (fun (f:Nat × Nat)=>(dS P f.2).map fun fi=>(f.1,fi.sz))=some places →
 fs.mapM (fun f=>(P.info? f.type).map fun i=>(f.offset,i.size))=some places
 | [],places,h=>by simpa using h
 | f::fs,places,h=>by
  simp only[List.map_cons,List.mapM_cons,Option.bind_eq_bind,Option.bind_eq_some_iff,Option.pure_def,Option.some.injEq,Option.map_eq_some_iff] at h ⊢
  obtain⟨a,⟨fi,hfi,rfl⟩,rest,hrest,rfl⟩:=h
  obtain⟨d,inf,h1,h2,rfl⟩:=bT hfi
  exact⟨_,⟨inf,h2,rfl⟩,rest,aFH fs rest hrest,rfl⟩

theorem op_build (R:Rel σ π w h) (t:Nat) (ps:List (Nat × AV)) (pu:Array (Nat × Value)) (hp:PartsR σ π w ps pu.toList) (e:(aKO (dS P) t ps).run h=some (δ,L)) :
 cG P (do pure (.value (← Instr.build t pu))) σ π w h n δ:=by
 unfold aKO at e
 split at e
 · rename_i fs sz bts z cmp hst
   obtain⟨d,inf,h1,h2,he⟩:=bT hst
   simp only[TI.mk.injEq] at he
   obtain⟨hk,_,_,hz,_⟩:=he
   obtain⟨f',rfl,rfl⟩:=uK hk.symm
   obtain⟨zv,hzv,hzvr⟩:=j5 (e:=t) hz.symm
   split at e
   · rename_i places hpl
     obtain⟨v,hv,e⟩:=jV e
     have hδ:=bW e;subst hδ
     obtain⟨c',hc',rfl⟩:=Option.map_eq_some_iff.1 hv
     obtain⟨d',hd',hvr⟩:=aLQ hp (hzvr σ π w).2 hc'
     refine a8 R (u:=.agg d') (run_build w t pu d' ?_) (.agg _ _ hvr.1 hvr.2)
     unfold Program.built
     simp only[h2,h1,hzv,aFH _ _ hpl]
     simpa using hd'
   · exact(aO e).elim
 · rename_i len el sz bts z cmp hst
   obtain⟨d,inf,h1,h2,he⟩:=bT hst
   simp only[TI.mk.injEq] at he
   obtain⟨hk,_,_,hz,_⟩:=he
   obtain rfl:=q8 hk.symm
   obtain⟨zv,hzv,hzvr⟩:=j5 (e:=t) hz.symm
   split at e
   · rename_i ei hei
     obtain⟨de,infe,e1,e2,rfl⟩:=bT hei
     obtain⟨v,hv,e⟩:=jV e
     have hδ:=bW e;subst hδ
     obtain⟨c',hc',rfl⟩:=Option.map_eq_some_iff.1 hv
     obtain⟨d',hd',hvr⟩:=aLQ hp (hzvr σ π w).2 hc'
     refine a8 R (u:=.agg d') (run_build w t pu d' ?_) (.agg _ _ hvr.1 hvr.2)
     unfold Program.built
     simp only[h2,h1,hzv,e2]
     exact hd'
   · exact(aO e).elim
 · exact(aO e).elim

def zV (σ:Sig) (π:bX) (w:World) (x:Option AV) (u:Option Value):Prop:=match x,u with
 | none,none=>True
 | some v,some u=>VR σ π w v u
 | _,_=>False

theorem oV {x:Option AV} {u:Option Value} (hx:zV σ π w x u) {d top k:Nat} (e:bY x d top=some k) (code:BoundsCode) :
 (u=none∧x=none∧k=d)∨(∃v,u=some v∧(Instr.sliceBound v top code).run P w = .ok k w∧k≤top∧x.isSome=true):=by
 cases x with
 | none =>
  cases u with
  | none=>simp [bY] at e;exact .inl ⟨rfl,rfl,e.symm⟩
  | some u=>exact hx.elim
 | some v =>
  cases u with
  | none=>exact hx.elim
  | some u =>
   cases v with
   | int kk q =>
    cases hx
    simp only[bY] at e
    split at e
    · rename_i hq
      cases e
      refine .inr ⟨_,rfl,?_,by omega,rfl⟩
      simp [Instr.sliceBound,asIntOf,hq]
    · cases e
   | _=>simp [bY] at e

theorem iW {lo hi mx:Option AV} {lu hu mu:Option Value} (hl:zV σ π w lo lu) (hh:zV σ π w hi hu) (hm:zV σ π w mx mu) {len cap l hv m:Nat} (isSlice:Bool)
 (e1:(bY mx cap cap=some m)) (e2:(hi=none∧mx=none∧hv=len)∨(hi.isSome=true∧bY hi 0 m=some hv)) (e3:bY lo 0 hv=some l) :
 (Instr.sliceBounds isSlice len cap lu hu mu).run P w = .ok (l,hv,m) w:=by
 unfold Instr.sliceBounds
 rcases oV (P:=P) hm e1 (if isSlice then BoundsCode.slice3Acap else .slice3Alen) with⟨rfl,rfl,rfl⟩ | ⟨mv,rfl,hmr,_,hms⟩
 · rcases e2 with⟨rfl,_,rfl⟩ | ⟨his,e2⟩
   · cases hu with
     | some u=>exact hh.elim
     | none =>
      rcases oV (P:=P) hl e3 .sliceB with⟨rfl,rfl,rfl⟩ | ⟨lv,rfl,hlr,_,_⟩
      · simp
      · simp [hlr]
   · rcases oV (P:=P) hh e2 (if isSlice then BoundsCode.sliceAcap else .sliceAlen) with⟨rfl,rfl,_⟩ | ⟨hv',rfl,hhr,_,_⟩
     · simp at his
     · rcases oV (P:=P) hl e3 .sliceB with⟨rfl,rfl,rfl⟩ | ⟨lv,rfl,hlr,_,_⟩
       · simp [hhr]
       · simp [hhr,hlr]
 · rcases e2 with⟨rfl,rfl,rfl⟩ | ⟨his,e2⟩
   · simp at hms
   · rcases oV (P:=P) hh e2 .slice3B with⟨rfl,rfl,_⟩ | ⟨hv',rfl,hhr,_,_⟩
     · simp at his
     · rcases oV (P:=P) hl e3 .slice3C with⟨rfl,rfl,rfl⟩ | ⟨lv,rfl,hlr,_,_⟩
       · simp [hmr,hhr]
       · simp [hmr,hhr,hlr]

theorem rE {x:Option AV} {d top top' k:Nat} (e:bY x d top=some k) (h:top≤top') (hs:x.isSome=true):bY x d top'=some k:=by
 cases x with
 | none=>simp at hs
 | some v =>
  cases v with
  | int kk q =>
   simp only[bY] at e ⊢
   split at e
   · rename_i hq
     cases e
     rw[if_pos ⟨hq.1,by omega⟩]
   · cases e
  | _=>simp [bY] at e

theorem j4 (v:AV) (d d' top:Nat):bY (some v) d top=bY (some v) d' top:=by cases v<;>rfl
theorem fW {x:Option AV} {d top k:Nat} (e:bY x d top=some k) (h:d≤top):k≤top:=by
 cases x with
 | none=>simp [bY] at e;omega
 | some v =>
  cases v with
  | int kk q =>
   simp only[bY] at e
   split at e
   · cases e;omega
   · cases e
  | _=>simp [bY] at e

theorem aHZ {sz:Nat} {rows:List (List AV)} {a:Addr} {s c:Nat} (hx:VR σ π w (.inl sz rows) (.slice (some a) s c)) {l hv c':Nat} (hlh:l≤hv) (hh:hv≤rows.length) (a':Addr) (hc':hv - l≤c') (ha':l<hv→a'=a.add (l*sz)) :
 VR σ π w (.inl sz ((rows.drop l).take (hv - l))) (.slice (some a') (hv - l) c'):=by
 have hlen:((rows.drop l).take (hv - l)).length=hv - l:=by simp;omega
 rcases Nat.lt_or_ge l hv with hlt | hge
 · obtain rfl:=ha' hlt
   cases hx with
   | inl0=>simp at hh;omega
   | inl _ _ B o _ u hf hl hc hvv =>
    rw[f0]
    have hrow:∀(r:Nat) row,((rows.drop l).take (hv - l))[r]? = some row→rows[l+r]? = some row:=by
     intro r row hr
     simp only[List.getElem?_take,List.getElem?_drop] at hr
     split at hr
     · exact hr
     · cases hr
    have:=VR.inl (σ:=σ) (π:=π) (w:=w) sz ((rows.drop l).take (hv - l)) B (o+l*sz) c' (fun r q=>u (l+r) q) (aA4 hf l (hv - l)) (by rw[hlen];exact hc')
     (fun r q row v hr hq=>by
      have:=hc (l+r) q row v (hrow r row hr) hq
      rw[Nat.add_mul,← Nat.add_assoc] at this
      exact this)
     (fun r q row v hr hq=>hvv (l+r) q row v (hrow r row hr) hq)
    rwa [hlen] at this
 · have h0:hv - l=0:=by omega
   rw[h0]
   simp only[List.take_zero]
   exact .inl0 _ _ _

theorem eP {t el:Nat} {inf:TypeInfo} (h1:P.underlying t=some (.slice el)) (h2:P.info? el=some inf) (a:Option Addr) (len cap l hv m:Nat) (lu hu mu:Option Value)
 (hb:(Instr.sliceBounds true len cap lu hu mu).run P w = .ok (l,hv,m) w) :
 (Instr.sliceAt t (.slice a len cap) lu hu mu).run P w = .ok (.slice (if m=l then a else a.map (·.add (l*inf.size))) (hv - l) (m - l)) w:=by
 simp [Instr.sliceAt,Instr.slice,run_underlying h1,hb,gE h2]

theorem aE7 (sz':Nat) (R:Rel σ π w h) {t el:Nat} {inf:TypeInfo} (h1:P.underlying t=some (.slice el)) (h2:P.info? el=some inf) (a:Option Addr) (c:Nat) (h0:a=none→c=0) {lo hi mx:Option AV} {lu hu mu:Option Value}
 (hl:zV σ π w lo lu) (hh:zV σ π w hi hu) (hm:zV σ π w mx mu) {v:AV}
 (hv:((bY mx ([]:List (List AV)).length ([]:List (List AV)).length).bind fun m=>(bY hi ([]:List (List AV)).length m).bind fun h=>(bY lo 0 h).bind fun l=>if mx.isSome && hi.isNone then none else some (if mx.isSome && m == l then AV.emps else AV.sl sz' ((([]:List (List AV)).drop l).take (h - l))))=some v) :
 cG P (do pure (.value (← Instr.sliceAt t (.slice a 0 c) lu hu mu))) σ π w h n ⟨v,[],[]⟩:=by
 simp only[Option.bind_eq_some_iff,List.length_nil] at hv
 obtain⟨m,a1,hv',a2,l,a3,a4⟩:=hv
 have hm0:=fW a1 (Nat.le_refl _)
 have hh0:=fW a2 (Nat.zero_le _)
 have hl0:=fW a3 (Nat.zero_le _)
 obtain rfl:m=0:=by omega
 obtain rfl:hv'=0:=by omega
 obtain rfl:l=0:=by omega
 cases mx with
 | none =>
  cases mu with
  | some u=>exact hm.elim
  | none =>
   simp only[Option.isSome_none,Bool.false_and,Bool.false_eq_true,if_false,Option.some.injEq,List.drop_nil,List.take_nil] at a4
   subst a4
   have hb:=iW (P:=P) hl hh (mx:=none) (mu:=none) (by trivial) (len:=0) (cap:=c) (m:=c) true rfl (by
    cases hi with
    | none=>exact .inl ⟨rfl,rfl,rfl⟩
    | some v=>exact .inr ⟨rfl,by rw[j4 v 0 0];exact rE a2 (Nat.zero_le _) rfl⟩) a3
   exact a8 R (eP h1 h2 a 0 c 0 0 c lu hu none hb) (.sl0 _ _ _ fun h=>by cases a with | none=>simpa using h0 rfl | some a=>split at h<;>cases h)
 | some mv =>
  cases hi with
  | none=>simp at a4
  | some hiv =>
   simp only[Option.isSome_some,Option.isNone_some,Bool.and_false,Bool.false_eq_true,if_false,if_true,Option.some.injEq,Bool.true_and,beq_self_eq_true] at a4
   subst a4
   cases mu with
   | none=>exact hm.elim
   | some mu =>
    have hb:=iW (P:=P) hl hh hm (len:=0) (cap:=c) (m:=0) true (by rw[j4 mv c 0];exact rE a1 (Nat.zero_le _) rfl) (.inr ⟨rfl,by rw[j4 hiv 0 0];exact a2⟩) a3
    exact a8 R (eP h1 h2 a 0 c 0 0 0 lu hu (some mu) hb) (.emps _)

set_option maxHeartbeats 1000000 in
theorem aF4 (R:Rel σ π w h) {t el:Nat} {inf:TypeInfo} (h1:P.underlying t=some (.slice el)) (e2:P.info? el=some inf) {rows:List (List AV)} {xu:Value} (hx:VR σ π w (.inl inf.size rows) xu)
 {lo hi mx:Option AV} {lu hu mu:Option Value} (hl:zV σ π w lo lu) (hh:zV σ π w hi hu) (hm:zV σ π w mx mu) {v:AV}
 (hv:((bY mx rows.length rows.length).bind fun m=>(bY hi rows.length m).bind fun h=>(bY lo 0 h).bind fun l =>
  if mx.isSome && hi.isNone then none else some (if mx.isSome && m == l then AV.emps else AV.sl inf.size ((rows.drop l).take (h - l))))=some v) :
 cG P (do pure (.value (← Instr.sliceAt t xu lu hu mu))) σ π w h n ⟨v,[],[]⟩:=by
 obtain⟨ao,s',c,hsu,hle,hlen⟩:=jZ hx ⟨⟨_,rfl⟩,fun s hh=>by cases hh⟩
 simp only[lenOf,Option.some.injEq] at hlen
 subst hlen
 subst hsu
 have hsa:∃a',ao=some a':=by cases hx<;>exact⟨_,rfl⟩
 obtain⟨a,rfl⟩:=hsa
 simp only[Option.bind_eq_some_iff] at hv
 obtain⟨m,a1,hv',a2,l,a3,a4⟩:=hv
 have hmb:=fW a1 (Nat.le_refl _)
 cases mx with
 | none =>
  cases mu with
  | some u=>exact hm.elim
  | none =>
   simp only[bY,Option.some.injEq] at a1
   subst a1
   simp only[Option.isSome_none,Bool.false_and,Bool.false_eq_true,if_false,Option.some.injEq] at a4
   subst a4
   have hhb:hv'≤rows.length:=fW a2 (Nat.le_refl _)
   have hlb:l≤hv':=fW a3 (Nat.zero_le _)
   have hb:=iW (P:=P) hl hh (mx:=none) (mu:=none) (by trivial) (len:=rows.length) (cap:=c) (m:=c) true rfl (by
    cases hi with
    | none=>simp [bY] at a2;exact .inl ⟨rfl,rfl,a2.symm⟩
    | some v=>exact .inr ⟨rfl,by rw[j4 v 0 rows.length];exact rE a2 hle rfl⟩) a3
   refine a8 R (eP h1 e2 (some a) rows.length c l hv' c lu hu none hb) ?_
   by_cases hcl:c=l
   · rw[if_pos hcl]
     exact(aHZ hx hlb hhb a (by omega) (fun hlt=>by omega)).toSl
   · rw[if_neg hcl]
     exact(aHZ hx hlb hhb _ (by omega) (fun _=>rfl)).toSl
 | some mv =>
  have hhi:hi.isSome=true:=by
   cases hi with
   | none=>simp at a4
   | some v=>rfl
  simp only[Option.isSome_some,Bool.true_and,hhi,Option.isNone_eq_false_iff.2 hhi,Bool.false_eq_true,if_false,Option.some.injEq] at a4
  cases hi with
  | none=>simp at hhi
  | some hiv =>
   cases mu with
   | none=>exact hm.elim
   | some mu =>
    have hhb:hv'≤m:=fW (by rw[j4 hiv 0 rows.length];exact a2) (Nat.zero_le _)
    have hlb:l≤hv':=fW a3 (Nat.zero_le _)
    have hb:=iW (P:=P) hl hh hm (len:=rows.length) (cap:=c) (m:=m) true (by rw[j4 mv c rows.length];exact rE a1 hle rfl) (.inr ⟨rfl,by rw[j4 hiv 0 rows.length];exact a2⟩) a3
    have hrun:=eP h1 e2 (some a) rows.length c l hv' m lu hu (some mu) hb
    split at a4
    · rename_i hml
      cases a4
      have hml':m=l:=by simpa using hml
      subst hml'
      refine a8 R hrun ?_
      have h0:hv' - m=0:=by omega
      rw[h0,Nat.sub_self,if_pos rfl]
      exact .emps _
    · rename_i hml
      cases a4
      have hml':m≠l:=by simpa using hml
      refine a8 R hrun ?_
      rw[if_neg hml']
      exact(aHZ hx hlb (by omega) _ (by omega) (fun _=>rfl)).toSl

set_option maxHeartbeats 1000000 in
theorem op_slice (R:Rel σ π w h) (t:Nat) (x:AV) (lo hi mx:Option AV) (xu:Value) (lu hu mu:Option Value) (hx:VR σ π w x xu) (hl:zV σ π w lo lu) (hh:zV σ π w hi hu) (hm:zV σ π w mx mu)
 (e:(nS (dS P) t x lo hi mx).run h=some (δ,L)) :
 cG P (do pure (.value (← Instr.sliceAt t xu lu hu mu))) σ π w h n δ:=by
 unfold nS at e
 split at e
 · rename_i sz bts z cmp hst
   obtain⟨d,inf,h1,h2,he⟩:=bT hst
   simp only[TI.mk.injEq] at he
   obtain rfl:=xP he.1.symm
   split at e
   · rename_i s
     obtain⟨v,hv,e4⟩:=jV e
     have hδ:=bW e4;subst hδ
     cases hx
     simp only[Option.bind_eq_some_iff,Option.some.injEq] at hv
     obtain⟨hv',e2,l,e3,rfl⟩:=hv
     cases mu with
     | some m=>exact hm.elim
     | none =>
      have hb:=iW (P:=P) hl hh (mx:=none) (mu:=none) (by trivial) (len:=s.size) (cap:=s.size) (m:=s.size) false rfl (by
       cases hi with
       | none=>simp [bY] at e2;exact .inl ⟨rfl,rfl,e2.symm⟩
       | some v=>exact .inr ⟨rfl,by rw[j4 v 0 s.size];exact e2⟩) e3
      exact a8 R (u:=.string (s.extract l hv')) (by simp [Instr.sliceAt,Instr.slice,run_underlying h1,hb]) (.str _)
   · exact(aO e).elim
 · rename_i el sz bts z cmp hst
   obtain⟨d,inf0,h1,h2,he⟩:=bT hst
   simp only[TI.mk.injEq] at he
   obtain rfl:=gK he.1.symm
   split at e
   · exact(aO e).elim
   · rename_i ei hei
     obtain⟨de,inf,e1,e2,rfl⟩:=bT hei
     have hzero:∀{v:AV},(((bY mx 0 0).bind fun m=>(bY hi 0 m).bind fun hv=>(bY lo 0 hv).bind fun _=>if mx.isSome && hi.isNone then none else some v):Option AV)≠none →
      (Instr.sliceBounds true 0 0 lu hu mu).run P w = .ok (0,0,0) w:=by
      intro v hne
      obtain⟨v',hv'⟩:=Option.ne_none_iff_exists'.1 hne
      simp only[Option.bind_eq_some_iff] at hv'
      obtain⟨m,a1,hv,a2,l,a3,a4⟩:=hv'
      have hm0:=fW a1 (Nat.le_refl _)
      have hh0:=fW a2 (Nat.zero_le _)
      have hl0:=fW a3 (Nat.zero_le _)
      obtain rfl:m=0:=by omega
      obtain rfl:hv=0:=by omega
      obtain rfl:l=0:=by omega
      refine iW (P:=P) hl hh hm true a1 ?_ a3
      cases hi with
      | none =>
       refine .inl ⟨rfl,?_,rfl⟩
       cases mx with
       | none=>rfl
       | some v=>simp at a4
      | some v=>exact .inr ⟨rfl,a2⟩
     split at e
     · obtain⟨v,hv,e4⟩:=jV e
       have hδ:=bW e4;subst hδ
       have hb:=hzero (v:=.nils) (by rw[hv];simp)
       cases hx
       simp only[Option.bind_eq_some_iff] at hv
       obtain⟨_,_,_,_,_,_,a4⟩:=hv
       split at a4
       · cases a4
       · cases a4
         exact a8 R (eP h1 e2 none 0 0 0 0 0 lu hu mu hb) (by simpa using VR.nils)
     · obtain⟨v,hv,e4⟩:=jV e
       have hδ:=bW e4;subst hδ
       have hb:=hzero (v:=.emps) (by rw[hv];simp)
       cases hx with
       | emps a =>
        simp only[Option.bind_eq_some_iff] at hv
        obtain⟨_,_,_,_,_,_,a4⟩:=hv
        split at a4
        · cases a4
        · cases a4
          exact a8 R (eP h1 e2 a 0 0 0 0 0 lu hu mu hb) (.emps _)
     · rename_i sz' rows
       split at e
       · rename_i hsz
         subst hsz
         obtain⟨v,hv,e4⟩:=jV e
         have hδ:=bW e4;subst hδ
         exact aF4 R h1 e2 hx hl hh hm hv
       · exact(aO e).elim
     · rename_i sz' rows
       split at e
       · rename_i hsz
         subst hsz
         obtain⟨v,hv,e4⟩:=jV e
         have hδ:=bW e4;subst hδ
         rcases hx.sl_cases with⟨rfl,a,c,rfl,h0⟩ | hx
         · exact aE7 _ R h1 e2 a c h0 hl hh hm hv
         · exact aF4 R h1 e2 hx hl hh hm hv
       · exact(aO e).elim
     · rename_i sz' b g i k flg
       split at e
       · rename_i hsz
         subst hsz
         split at e
         · rename_i hvz
           obtain⟨hvf,hk0⟩:=hvz
           subst hvf hk0
           obtain⟨v,hv,e4⟩:=jV e
           have hδ:=bW e4;subst hδ
           obtain⟨ao,s',c,hsu,hle,hlen⟩:=jZ hx ⟨⟨_,rfl⟩,fun s hh=>by cases hh⟩
           simp only[lenOf,Option.some.injEq] at hlen
           subst hlen
           subst hsu
           have h0:ao=none→c=0:=by
            cases hx with
            | ref0=>exact fun _=>rfl
            | ref=>exact fun h=>by cases h
           exact aE7 _ R h1 e2 ao c h0 hl hh hm hv
         rename_i hvz
         obtain⟨ao,s',c,hsu,hle,hlen⟩:=jZ hx ⟨⟨_,rfl⟩,fun s hh=>by cases hh⟩
         simp only[lenOf,Option.some.injEq] at hlen
         subst hlen
         subst hsu
         have hsa:∃a',ao=some a':=by
          cases hx with
          | ref0=>exact absurd ⟨rfl,rfl⟩ hvz
          | ref=>exact⟨_,rfl⟩
         obtain⟨a,rfl⟩:=hsa
         have hsub:∀(l hv' m:Nat) (full':Fl) (a':Addr),l≤hv'→m≤c→hv'≤m→i+hv'≤(match σ b g with | some lc=>lc.m | none=>0)→(full'.whole=true→flg.whole=true∧m=c)→(l<m→a'=a.add (l*inf.size)) →
          VR σ π w (.ref inf.size b g (i+l) (hv' - l) full') (.slice (some a') (hv' - l) (m - l)):=by
          intro l hv' m full' a' hlb hmc hhm hhi' hf' ha'
          cases hx with
          | ref0=>exact absurd ⟨rfl,rfl⟩ hvz
          | ref _ _ _ _ _ _ _ _ lc hl' hin hn ha hff C ty hC hs' =>
           simp only[hl'] at hhi'
           refine .ref _ _ _ _ _ _ a' (m - l) lc hl' (by omega) (by omega) (fun h0=>?_) (fun h1=>?_) C ty hC ?_
           · rw[ha' (by omega),ha (by omega),f0,Nat.add_mul]
           · obtain⟨f1,rfl⟩:=hf' h1
             have:=hff f1
             omega
           · refine Nat.le_trans (Nat.mul_le_mul_right _ ?_) hs'
             omega
         have hσ:∃lc,σ b g=some lc∧i+k≤lc.m:=by
          cases hx with
          | ref0=>exact absurd ⟨rfl,rfl⟩ hvz
          | ref _ _ _ _ _ _ _ _ lc hl' hin hn ha hff C ty hC hs'=>exact⟨lc,hl',hin⟩
         obtain⟨lc,hlc,hlcm⟩:=hσ
         have hnomax:∀(full':Fl),(full'.whole=true→flg.whole=true)→∀(top:Nat),(top=k∨(top≤c∧i+top≤lc.m))→mx=none→∀v,(((bY hi k top).bind fun hv=>(bY lo 0 hv).bind fun l=>some (AV.ref inf.size b g (i+l) (hv - l) full')):Option AV)=some v →
          k≤top→cG P (do pure (.value (← Instr.sliceAt t (.slice (some a) k c) lu hu mu))) σ π w h n ⟨v,[],[]⟩:=by
          intro full' hff' top htop hmx v hv hst2
          subst hmx
          cases mu with
          | some u=>exact hm.elim
          | none =>
           simp only[Option.bind_eq_some_iff,Option.some.injEq] at hv
           obtain⟨hv',a2,l,a3,rfl⟩:=hv
           have hht:hv'≤top:=fW a2 hst2
           have hlb:l≤hv':=fW a3 (Nat.zero_le _)
           have htc:top≤c:=by rcases htop with rfl | ⟨h3,_⟩<;>omega
           have htm:i+top≤lc.m:=by rcases htop with rfl | ⟨_,h3⟩<;>omega
           have hb:=iW (P:=P) hl hh (mx:=none) (mu:=none) (by trivial) (len:=k) (cap:=c) (m:=c) true rfl (by
            cases hi with
            | none=>simp [bY] at a2;exact .inl ⟨rfl,rfl,a2.symm⟩
            | some v=>exact .inr ⟨rfl,by rw[j4 v 0 k];exact rE a2 htc rfl⟩) a3
           refine a8 R (eP h1 e2 (some a) k c l hv' c lu hu none hb) ?_
           by_cases hcl:c=l
           · rw[if_pos hcl]
             exact hsub l hv' c full' a hlb (Nat.le_refl _) (by omega) (by simp only[hlc];omega) (fun hf=>⟨hff' hf,rfl⟩) (fun hlt=>by omega)
           · rw[if_neg hcl]
             exact hsub l hv' c full' _ hlb (Nat.le_refl _) (by omega) (by simp only[hlc];omega) (fun hf=>⟨hff' hf,rfl⟩) (fun _=>rfl)
         split at e
         · rename_i hmx
           obtain⟨y,L',hy,e5,_⟩:=lC e
           clear e
           split at e5
           · rename_i s2 rows gen wgen ro
             split at e5
             · rename_i hcd
               obtain⟨rfl,hf,hir⟩:=hcd
               obtain⟨v,hv,e6⟩:=jV e5
               have hδ:=bW e6;subst hδ
               obtain⟨q1,q2,q3,q4,⟨l2,c1,c2,c3,c4⟩,q6⟩:=BR.real (R.blk b _ hy) hlc
               rw[hlc] at c1
               cases c1
               refine hnomax (if lo.isNone then flg else .full) (fun _=>hf) (rows.length - i) (.inr ⟨?_,by omega⟩) rfl v hv (by omega)
               cases hx with
               | ref0=>exact absurd ⟨rfl,rfl⟩ hvz
               | ref _ _ _ _ _ _ _ _ l3 hl' hin hn ha hff C ty hC hs' =>
                rw[hlc] at hl'
                cases hl'
                have:=hff hf
                omega
             · obtain⟨v,hv,e6⟩:=jV e5
               have hδ:=bW e6;subst hδ
               exact hnomax .part (fun h=>by cases h) k (.inl rfl) rfl v hv (Nat.le_refl _)
           · exact(aO e5).elim
         · rename_i mv
           obtain⟨v,hv,e4⟩:=jV e
           have hδ:=bW e4;subst hδ
           simp only[Option.bind_eq_some_iff] at hv
           obtain⟨m,a1,hv',a2,l,a3,a4⟩:=hv
           have hmb:m≤k:=fW a1 (Nat.le_refl _)
           cases hi with
           | none=>simp at a4
           | some hiv =>
            cases mu with
            | none=>exact hm.elim
            | some mu =>
             have hhb:hv'≤m:=fW (by rw[j4 hiv 0 k];exact a2) (Nat.zero_le _)
             have hlb:l≤hv':=fW a3 (Nat.zero_le _)
             have hb:=iW (P:=P) hl hh hm (len:=k) (cap:=c) (m:=m) true (by rw[j4 mv c k];exact rE a1 hle rfl) (.inr ⟨rfl,by rw[j4 hiv 0 k];exact a2⟩) a3
             have hrun:=eP h1 e2 (some a) k c l hv' m lu hu (some mu) hb
             simp only[Option.isNone_some,Bool.false_eq_true,if_false,Option.some.injEq] at a4
             refine a8 R hrun ?_
             split at a4
             · rename_i hml
               subst a4
               subst hml
               have h0:hv' - m=0:=by omega
               rw[h0,Nat.sub_self,if_pos rfl]
               exact .emps _
             · rename_i hml
               subst a4
               rw[if_neg hml]
               exact hsub l hv' m .part _ hlb (by omega) hhb (by simp only[hlc];omega) (fun hf=>by cases hf) (fun _=>rfl)
       · exact(aO e).elim
     · exact(aO e).elim
 · exact(aO e).elim

end
end Go.Ws

namespace Go.Ws
set_option linter.unusedVariables false
set_option linter.unusedSimpArgs false

section
variable {P:Program} {σ:Sig} {π:bX} {w:World} {h:Nat→Option Blk} {n:Nat} {δ:Delta} {L:List Nat}

theorem aBX {c:List AV} {d:Array Value} (hv:VRs σ π w c d) (o k:Nat):VRs σ π w ((c.drop o).take k) (d.extract o (o+k)):=by
 refine⟨by simp [hv.1];omega,fun i v u hi hu=>?_⟩
 simp only[List.getElem?_take,List.getElem?_drop] at hi
 split at hi
 · rw[Array.getElem?_extract] at hu
   split at hu
   · exact hv.2 (o+i) v u hi (by rw[Nat.add_comm];simpa [Nat.add_comm] using hu)
   · cases hu
 · cases hi

theorem aJB {t:Nat} {i:TI} (hi:dS P t=some i) {c:List AV} {d:Array Value} (hv:VRs σ π w c d) (o:Nat) {v:AV}
 (e:(if i.isAgg then some (AV.agg ((c.drop o).take i.sz)) else c[o]?)=some v):∃u,(part t d o).run P w = .ok u w∧VR σ π w v u:=by
 obtain⟨dd,inf,h1,h2,rfl⟩:=bT hi
 unfold part
 simp only[Sem.run_bind,aHD h1,Result.andThen_ok]
 split at e
 · rename_i ha
   have ha':aggB dd=true:=ha
   cases e
   refine⟨.agg (d.extract o (o+inf.size)),?_,?_⟩
   · simp only[ha',if_true,Sem.run_bind,gE h2,Result.andThen_ok,Sem.run_pure]
   · exact .agg _ _ (aBX hv o inf.size).1 (aBX hv o inf.size).2
 · rename_i ha
   have ha':aggB dd=false:=by cases hh:aggB dd with | false=>rfl | true=>exact absurd hh ha
   obtain⟨u,hu,hvu⟩:=hv.at_ e
   refine⟨u,?_,hvu⟩
   simp only[ha',Bool.false_eq_true,if_false,hu,Sem.run_pure]

theorem op_index (R:Rel σ π w h) (t:Nat) (x ix:AV) (xu iu:Value) (hx:VR σ π w x xu) (hix:VR σ π w ix iu) (e:(aKV (dS P) t x ix).run h=some (δ,L)) :
 cG P (do pure (.value (← Instr.index t xu iu))) σ π w h n δ:=by
 unfold aKV at e
 split at e
 · rename_i sz bts z cmp s kk q hst
   obtain⟨d,inf,h1,h2,he⟩:=bT hst
   simp only[TI.mk.injEq] at he
   obtain rfl:=xP he.1.symm
   cases hx
   cases hix
   split at e
   · rename_i hq
     split at e
     · rename_i b hb
       have hδ:=bW e;subst hδ
       exact a8 R (u:=.int .u8 b.toNat) (by simp [Instr.index,asIntOf,run_underlying h1,hq,hb]) (.int _ _)
     · exact(aO e).elim
   · exact(aO e).elim
 · rename_i len el sz bts z cmp l kk q hst
   obtain⟨d,inf,h1,h2,he⟩:=bT hst
   simp only[TI.mk.injEq] at he
   obtain rfl:=q8 he.1.symm
   cases hix
   cases hx with
   | agg _ dd hl hv =>
    split at e
    · rename_i ei hei
      split at e
      · rename_i hq
        obtain⟨v,hv',e4⟩:=jV e
        have hδ:=bW e4;subst hδ
        obtain⟨u,hu,hvu⟩:=aJB (P:=P) hei ⟨hl,hv⟩ (q.toNat*ei.sz) hv'
        obtain⟨de,infe,e1,e2,rfl⟩:=bT hei
        exact a8 R (by simp [Instr.index,asIntOf,run_underlying h1,hq.1,hq.2,gE e2,hu]) hvu
      · exact(aO e).elim
    · exact(aO e).elim
 · exact(aO e).elim

theorem op_field (R:Rel σ π w h) (t:Nat) (x:AV) (f:Nat) (xu:Value) (hx:VR σ π w x xu) (e:(aK2 (dS P) t x f).run h=some (δ,L)) :
 cG P (do pure (.value (← Instr.field t xu f))) σ π w h n δ:=by
 unfold aK2 at e
 split at e
 · rename_i fs sz bts z cmp l hi
   obtain⟨d,inf,h1,h2,he⟩:=bT hi
   simp only[TI.mk.injEq] at he
   obtain⟨hk,_⟩:=he
   obtain⟨f',rfl,rfl⟩:=uK hk.symm
   cases hx with
   | agg _ dd hl hv =>
    split at e
    · rename_i off ft hf
      simp only[List.getElem?_map,Option.map_eq_some_iff,Prod.mk.injEq,Array.getElem?_toList] at hf
      obtain⟨fd,hfd,rfl,rfl⟩:=hf
      split at e
      · rename_i fi hfi
        obtain⟨v,hv',e4⟩:=jV e
        have hδ:=bW e4;subst hδ
        obtain⟨u,hu,hvu⟩:=aJB (P:=P) hfi ⟨hl,hv⟩ fd.offset hv'
        exact a8 R (by simp [Instr.field,run_underlying h1,hfd,asAgg,hu]) hvu
      · exact(aO e).elim
    · exact(aO e).elim
 · exact(aO e).elim

theorem op_len (R:Rel σ π w h) (t ty:Nat) (x:AV) (xu:Value) (hx:VR σ π w x xu) (e:(aCC (dS P) t x).run h=some (δ,L)) :
 cG P (do pure (.value (← Builtin.len_ #[t] ty #[xu]))) σ π w h n δ:=by
 unfold aCC at e
 split at e
 · rename_i sz bts z cmp hst
   obtain⟨d,inf,h1,h2,he⟩:=bT hst
   simp only[TI.mk.injEq] at he
   obtain rfl:=xP he.1.symm
   split at e
   · have hδ:=bW e;subst hδ
     cases hx
     exact a8 R (u:=.int .i64 _) (by simp [Builtin.len_,run_underlying h1,goInt]) (.int _ _)
   · exact(aO e).elim
 · rename_i el sz bts z cmp hst
   obtain⟨d,inf,h1,h2,he⟩:=bT hst
   simp only[TI.mk.injEq] at he
   obtain rfl:=gK he.1.symm
   have key:∀s,lenOf x=some s→(∀s',x ≠ .str s')→δ=⟨.int .i64 s,[],[]⟩→cG P (do pure (.value (← Builtin.len_ #[t] ty #[xu]))) σ π w h n δ:=by
    intro s hs hns hδ
    subst hδ
    obtain⟨a,s',c,hsu,hle,hlen⟩:=jZ hx ⟨⟨s,hs⟩,hns⟩
    rw[hs] at hlen
    cases hlen
    subst hsu
    exact a8 R (u:=.int .i64 _) (by simp [Builtin.len_,run_underlying h1,goInt]) (.int _ _)
   split at e
   · exact key 0 rfl (fun s' hh=>by cases hh) (bW e)
   · exact key 0 rfl (fun s' hh=>by cases hh) (bW e)
   · exact key _ rfl (fun s' hh=>by cases hh) (bW e)
   · exact key _ rfl (fun s' hh=>by cases hh) (bW e)
   · exact key _ rfl (fun s' hh=>by cases hh) (bW e)
   · have hδ:=bW e;subst hδ
     cases hx
     exact a8 R (u:=.int .i64 _) (by simp [Builtin.len_,run_underlying h1,goInt]) (.int _ _)
   · exact(aO e).elim
 · rename_i kt el sz bts z cmp hst
   obtain⟨d,inf,h1,h2,he⟩:=bT hst
   simp only[TI.mk.injEq] at he
   obtain rfl:=yJ he.1.symm
   split at e
   · have hδ:=bW e;subst hδ
     cases hx
     exact a8 R (u:=.int .i64 _) (by simp [Builtin.len_,run_underlying h1,goInt]) (.int _ _)
   · rename_i b
     obtain⟨y,L',hy,e5,_⟩:=lC e
     split at e5
     · rename_i es cl
       have hδ:=bW e5;subst hδ
       cases hx with
       | mp _ l hl =>
        obtain⟨l',C,q1,q2,q3,q4,q5⟩:=R.blk b _ hy
        rw[hl] at q1
        cases q1
        refine a8 R (u:=.int .i64 C.size) (by simp [Builtin.len_,run_underlying h1,goInt,getObj,Sem.run,q2]) (by rw[q3];exact .int _ _)
     · exact(aO e5).elim
   · exact(aO e).elim
 · rename_i len el sz bts z cmp hst
   obtain⟨d,inf,h1,h2,he⟩:=bT hst
   simp only[TI.mk.injEq] at he
   obtain rfl:=q8 he.1.symm
   have hδ:=bW e;subst hδ
   exact a8 R (u:=.int .i64 _) (by simp [Builtin.len_,run_underlying h1,goInt]) (.int _ _)
 · exact(aO e).elim

end
end Go.Ws

namespace Go.Ws
set_option linter.unusedVariables false
set_option linter.unusedSimpArgs false

section
variable {P:Program} {σ:Sig} {π:bX} {w:World} {h:Nat→Option Blk} {n:Nat} {δ:Delta} {L:List Nat}

theorem op_un (R:Rel σ π w h) (op:UnOp) (x:AV) (xu:Value) (hx:VR σ π w x xu) {v:AV} (e:aUn op x=some v):cG P (do pure (.value (← Op.unary op xu))) σ π w h n ⟨v,[],[]⟩:=by
 unfold aUn at e
 split at e
 · cases hx;cases e
   exact a8 R (u:=.int _ _) (by simp [Op.unary,Op.intArith]) (.int _ _)
 · cases hx;cases e
   exact a8 R (u:=.bool _) (by simp [Op.unary]) (.bool _)
 · cases hx;cases e
   exact a8 R (u:=.int _ _) (by simp [Op.unary,Op.intBits]) (.int _ _)
 · cases e

theorem int_bin {t:Nat} {op:BinOp} {k:IntKind} {a b:Int} {v:AV} (e:tJ op k a b=some v):∃u,(binOp op t (.int k a) (.int k b)).run P w = .ok u w∧VR σ π w v u:=by
 unfold tJ at e
 split at e
 · cases e;exact⟨_,by simp [binOp,Op.intArith],.int _ _⟩
 · cases e;exact⟨_,by simp [binOp,Op.intArith],.int _ _⟩
 · cases e;exact⟨_,by simp [binOp,Op.intArith],.int _ _⟩
 · split at e
   · cases e
   · rename_i hb;cases e;exact⟨_,by simp [binOp,Op.intDiv,hb],.int _ _⟩
 · split at e
   · cases e
   · rename_i hb;cases e;exact⟨_,by simp [binOp,Op.intDiv,hb],.int _ _⟩
 · cases e;exact⟨_,by simp [binOp,Op.intBits],.int _ _⟩
 · cases e;exact⟨_,by simp [binOp,Op.intBits],.int _ _⟩
 · cases e;exact⟨_,by simp [binOp,Op.intBits],.int _ _⟩
 · cases e;exact⟨_,by simp [binOp,Op.intBits],.int _ _⟩
 · cases e;exact⟨_,by simp [binOp,Op.intCmp],.bool _⟩
 · cases e;exact⟨_,by simp [binOp,Op.intCmp],.bool _⟩
 · cases e;exact⟨_,by simp [binOp,Op.intCmp],.bool _⟩
 · cases e;exact⟨_,by simp [binOp,Op.intCmp],.bool _⟩
 · cases e;exact⟨_,by simp [binOp,Op.intCmp],.bool _⟩
 · cases e;exact⟨_,by simp [binOp,Op.intCmp],.bool _⟩
 · cases e

theorem sc_eq {t:Nat} {x y:AV} {b:Bool} {xu yu:Value} (hx:VR σ π w x xu) (hy:VR σ π w y yu) (e:scEq (dS P) t x y=some b) (d:Nat):(Op.equalIn (d+1) t xu yu).run P w = .ok b w:=by
 unfold scEq at e
 split at e
 · cases hx;cases hy
   split at e
   · rename_i kk sz bts z cmp hst
     obtain⟨dd,inf,h1,h2,he⟩:=bT hst
     simp only[TI.mk.injEq] at he
     obtain rfl:=tO he.1.symm
     split at e
     · rename_i hk
       subst hk
       cases e
       exact run_equalIn_int w d t _ _ _ _ h1
     · cases e
   · cases e
 · cases hx;cases hy
   split at e
   · rename_i sz bts z cmp hst
     obtain⟨dd,inf,h1,h2,he⟩:=bT hst
     simp only[TI.mk.injEq] at he
     obtain rfl:=xP he.1.symm
     cases e
     rw[run_equalIn_string w d t _ _ h1,beq_toListBytes]
   · cases e
 · cases hx;cases hy
   split at e
   · rename_i sz bts z cmp hst
     obtain⟨dd,inf,h1,h2,he⟩:=bT hst
     simp only[TI.mk.injEq] at he
     obtain rfl:=aHK he.1.symm
     cases e
     exact run_equalIn_bool' w d t _ _ h1
   · cases e
 · cases e

theorem uJ {t:Nat} {x y:AV} {b:Bool} (e:scEq (dS P) t x y=some b):∃dd,P.underlying t=some dd∧aggB dd=false:=by
 unfold scEq at e
 split at e
 · split at e
   · rename_i kk sz bts z cmp hst
     obtain⟨dd,inf,h1,h2,he⟩:=bT hst
     simp only[TI.mk.injEq] at he
     obtain rfl:=tO he.1.symm
     exact⟨_,h1,rfl⟩
   · cases e
 · split at e
   · rename_i sz bts z cmp hst
     obtain⟨dd,inf,h1,h2,he⟩:=bT hst
     simp only[TI.mk.injEq] at he
     obtain rfl:=xP he.1.symm
     exact⟨_,h1,rfl⟩
   · cases e
 · split at e
   · rename_i sz bts z cmp hst
     obtain⟨dd,inf,h1,h2,he⟩:=bT hst
     simp only[TI.mk.injEq] at he
     obtain rfl:=aHK he.1.symm
     exact⟨_,h1,rfl⟩
   · cases e
 · cases e

theorem qD {t:Nat} {dd:TypeDesc} (h1:P.underlying t=some dd) (ha:aggB dd=false) {d:Array Value} {o:Nat} {u:Value} (hu:d[o]? = some u):(part t d o).run P w = .ok u w:=by
 unfold part
 simp only[Sem.run_bind,aHD h1,Result.andThen_ok,ha,Bool.false_eq_true,if_false,hu,Sem.run_pure]

theorem aFM (d : Nat) : ∀ (fs : List Field) {a b : List AV} {au bu : Array Value} {r : Bool}, VRs σ π w a au → VRs σ π w b bu → (fs.all fun f => f.name != "_") = true →
 iA (dS P) (fs.map fun f=>(f.offset,f.type)) a b=some r→(Op.eqFields (d+1) au bu fs).run P w = .ok r w
 | [],a,b,au,bu,r,_,_,_,e=>by simp [iA] at e;subst e;simp [Op.eqFields]
 | f::fs,a,b,au,bu,r,ha,hb,hn,e=>by
  simp only[List.all_cons,Bool.and_eq_true] at hn
  have hf : f.name ≠ "_" := by simpa using hn.1
  simp only[List.map_cons,iA] at e
  split at e
  · rename_i x y hx hy
    obtain⟨xu,hxu,hvx⟩:=ha.at_ hx
    obtain⟨yu,hyu,hvy⟩:=hb.at_ hy
    split at e
    · rename_i hs
      obtain⟨dd,h1,h2⟩:=uJ hs
      have ih:=aFM d fs ha hb hn.2 e
      simp [Op.eqFields,hf,qD h1 h2 hxu,qD h1 h2 hyu,sc_eq hvx hvy hs d,ih]
    · rename_i hs
      cases e
      obtain⟨dd,h1,h2⟩:=uJ hs
      simp [Op.eqFields,hf,qD h1 h2 hxu,qD h1 h2 hyu,sc_eq hvx hvy hs d]
    · cases e
  · cases e

def qG (P:Program) (d e m:Nat) (xs ys:Array Value):List Nat→Sem Bool
 | []=>pure true
 | i::is=>do
  let a ← part e xs (i*m)
  let b ← part e ys (i*m)
  let r ← Op.equalIn d e a b
  if (!r)=true then pure false else qG P d e m xs ys is

theorem zL (d t len e:Nat) (xs ys:Array Value) (ht:P.underlying t=some (.array len e)) {inf:TypeInfo} (hi:P.info? e=some inf) :
 (Op.equalIn (d+1) t (.agg xs) (.agg ys)).run P w=(qG P d e inf.size xs ys (List.range' 0 len)).run P w:=by
 simp only[Op.equalIn,Sem.run_bind,run_underlying ht,Result.andThen_ok,gE hi]
 simp only[Std.Legacy.Range.forIn_eq_forIn_range',Std.Legacy.Range.size]
 simp only[Nat.sub_zero,Nat.add_sub_cancel,Nat.div_one]
 generalize List.range' 0 len=is
 induction is generalizing w with
 | nil=>simp [qG]
 | cons i is ih =>
  simp only[List.forIn_cons,qG,Sem.run_bind]
  generalize (part e xs (i*inf.size)).run P w=r1
  cases r1 with
  | halt x w1=>simp [Result.andThen]
  | ok a w1 =>
   simp only[Result.andThen_ok]
   generalize (part e ys (i*inf.size)).run P w1=r2
   cases r2 with
   | halt x w2=>simp [Result.andThen]
   | ok b w2 =>
    simp only[Result.andThen_ok]
    generalize (Op.equalIn d e a b).run P w2=r3
    cases r3 with
    | halt x w3=>simp [Result.andThen]
    | ok r w3 =>
     cases r
     · simp
     · simp only[Result.andThen_ok,Bool.not_true,Bool.false_eq_true,if_false,Sem.run_pure]
       exact ih

theorem aIP (d e m:Nat):∀(is:List Nat) {a b:List AV} {au bu:Array Value} {r:Bool},VRs σ π w a au→VRs σ π w b bu →
 iA (dS P) (is.map fun i=>(i*m,e)) a b=some r→(qG P (d+1) e m au bu is).run P w = .ok r w
 | [],a,b,au,bu,r,_,_,e=>by simp [iA] at e;subst e;simp [qG]
 | i::is,a,b,au,bu,r,ha,hb,e=>by
  simp only[List.map_cons,iA] at e
  split at e
  · rename_i x y hx hy
    obtain⟨xu,hxu,hvx⟩:=ha.at_ hx
    obtain⟨yu,hyu,hvy⟩:=hb.at_ hy
    split at e
    · rename_i hs
      obtain⟨dd,h1,h2⟩:=uJ hs
      have ih:=aIP d _ m is ha hb e
      simp [qG,qD h1 h2 hxu,qD h1 h2 hyu,sc_eq hvx hvy hs d,ih]
    · rename_i hs
      cases e
      obtain⟨dd,h1,h2⟩:=uJ hs
      simp [qG,qD h1 h2 hxu,qD h1 h2 hyu,sc_eq hvx hvy hs d]
    · cases e
  · cases e

def NilV (d:TypeDesc) (u:Value) (b:Bool):Prop :=
 (∃e base n c,d = .slice e∧u = .slice base n c∧base.isNone=b)∨(∃e a,d = .pointer e∧u = .pointer a∧a.isNone=b)∨(∃k e m,d = .map k e∧u = .map m∧m.isNone=b) ∨
 (∃p q r,d = .func p q r∧((b=true∧u = .nilFunc)∨(b=false∧∃f x y,u = .func f x y)))

theorem q7 {d:TypeDesc} {x:AV} {xu:Value} (hx:VR σ π w x xu) {b:Bool} (e:nilK (oS d) x=some b):NilV d xu b:=by
 unfold nilK at e
 split at e
 · rename_i q hk;cases e;cases hx;obtain rfl:=gK hk;exact .inl ⟨_,_,_,_,rfl,rfl,rfl⟩
 · rename_i q s r hk;cases e;obtain rfl:=gK hk;cases hx<;>exact .inl ⟨_,_,_,_,rfl,rfl,rfl⟩
 · rename_i hk
   split at e
   · cases e
   · rename_i hf
     cases e
     obtain rfl:=gK hk
     cases hx with
     | ref0=>exact absurd rfl hf
     | ref=>exact .inl ⟨_,_,_,_,rfl,rfl,rfl⟩
 · rename_i q hk;cases e;cases hx;obtain rfl:=tk_ptr hk;exact .inr (.inl ⟨_,_,rfl,rfl,rfl⟩)
 · rename_i hk;cases e;cases hx;obtain rfl:=tk_ptr hk;exact .inr (.inl ⟨_,_,rfl,rfl,rfl⟩)
 · rename_i hk;cases e;cases hx;obtain rfl:=yJ hk;exact .inr (.inr (.inl ⟨_,_,_,rfl,rfl,rfl⟩))
 · rename_i hk;cases e;cases hx;obtain rfl:=yJ hk;exact .inr (.inr (.inl ⟨_,_,_,rfl,rfl,rfl⟩))
 · rename_i hk;cases e;cases hx;obtain⟨p,q,r,rfl⟩:=aLH hk;exact .inr (.inr (.inr ⟨p,q,r,rfl,.inl ⟨rfl,rfl⟩⟩))
 · rename_i hk;cases e;obtain⟨p,q,r,rfl⟩:=aLH hk;cases hx<;>exact .inr (.inr (.inr ⟨p,q,r,rfl,.inr ⟨rfl,_,_,_,rfl⟩⟩))
 · cases e

theorem aFD {t e:Nat} (h1:P.underlying t=some (.slice e)) (m:Nat) (b c:Option Addr) (n1 c1 n2 c2:Nat) (hn:b.isNone=true∨c.isNone=true):(Op.equalIn (m+1) t (.slice b n1 c1) (.slice c n2 c2)).run P w = .ok (b.isNone && c.isNone) w:=by
 cases b<;>cases c<;>simp_all [Op.equalIn,run_underlying h1]
theorem aL6 {t e:Nat} (h1:P.underlying t=some (.pointer e)) (m:Nat) (b c:Option Addr) (hn:b.isNone=true∨c.isNone=true):(Op.equalIn (m+1) t (.pointer b) (.pointer c)).run P w = .ok (b.isNone && c.isNone) w:=by
 cases b<;>cases c<;>simp_all [Op.equalIn,run_underlying h1]
theorem aLJ {t k e:Nat} (h1:P.underlying t=some (.map k e)) (m:Nat) (b c:Option Nat) (hn:b.isNone=true∨c.isNone=true):(Op.equalIn (m+1) t (.map b) (.map c)).run P w = .ok (b.isNone && c.isNone) w:=by
 cases b<;>cases c<;>simp_all [Op.equalIn,run_underlying h1]

theorem nil_eq {d:TypeDesc} {t:Nat} (h1:P.underlying t=some d) {x y:AV} {xu yu:Value} (hx:VR σ π w x xu) (hy:VR σ π w y yu) {b:Bool} (e:nilEq (oS d) x y=some b) (m:Nat) :
 (Op.equalIn (m+1) t xu yu).run P w = .ok b w∧(∃bx,NilV d xu bx):=by
 have key:∀bx by',NilV d xu bx→NilV d yu by'→(bx=true∨by'=true)→(Op.equalIn (m+1) t xu yu).run P w = .ok (bx && by') w:=by
  intro bx by' hbx hby hor
  rcases hbx with⟨e,base,n,c,rfl,rfl,rfl⟩ | ⟨e,a,rfl,rfl,rfl⟩ | ⟨k,e,mm,rfl,rfl,rfl⟩ | ⟨p,q,r,rfl,hf⟩
  · rcases hby with⟨e',base',n',c',hd,rfl,rfl⟩ | ⟨e',a',hd,_,_⟩ | ⟨_,_,_,hd,_,_⟩ | ⟨_,_,_,hd,_⟩<;>first|cases hd | exact aFD h1 m _ _ _ _ _ _ hor
    exact aFD h1 m _ _ _ _ _ _ hor
  · rcases hby with⟨_,_,_,_,hd,_,_⟩ | ⟨e',a',hd,rfl,rfl⟩ | ⟨_,_,_,hd,_,_⟩ | ⟨_,_,_,hd,_⟩<;>first|cases hd | exact aL6 h1 m _ _ hor
    exact aL6 h1 m _ _ hor
  · rcases hby with⟨_,_,_,_,hd,_,_⟩ | ⟨_,_,hd,_,_⟩ | ⟨_,_,_,hd,rfl,rfl⟩ | ⟨_,_,_,hd,_⟩<;>first|cases hd | exact aLJ h1 m _ _ hor
    exact aLJ h1 m _ _ hor
  · rcases hby with⟨_,_,_,_,hd,_,_⟩ | ⟨_,_,hd,_,_⟩ | ⟨_,_,_,hd,_,_⟩ | ⟨_,_,_,hd,hg⟩
    · cases hd
    · cases hd
    · cases hd
    · rcases hf with⟨rfl,rfl⟩ | ⟨rfl,f,x,y,rfl⟩<;>rcases hg with⟨rfl,rfl⟩ | ⟨rfl,f',x',y',rfl⟩<;>first|(simp at hor;done)|simp [Op.equalIn,run_underlying h1]
 unfold nilEq at e
 split at e
 · rename_i b' hxn hyn
   cases e
   exact⟨by simpa using key true b (q7 hx hxn) (q7 hy hyn) (.inl rfl),_,q7 hx hxn⟩
 · rename_i hxn hyn
   cases e
   exact⟨by simpa using key false true (q7 hx hxn) (q7 hy hyn) (.inr rfl),_,q7 hx hxn⟩
 · cases e

end
end Go.Ws

namespace Go.Ws
set_option linter.unusedVariables false
set_option linter.unusedSimpArgs false

section
variable {P:Program} {σ:Sig} {π:bX} {w:World} {h:Nat→Option Blk} {n:Nat} {δ:Delta} {L:List Nat}

theorem str_eq (s t:ByteArray):(s.toList == t.toList)=(s == t):=(beq_toListBytes s t).symm

theorem qI {op:BinOp} {t:Nat} {xo yo:Operand} {xu yu u:Value} (h1:(eqGuard op t xo yo xu yu).run P w = .ok () w) (h2:(binOp op t xu yu).run P w = .ok u w) :
 (do eqGuard op t xo yo xu yu;binOp op t xu yu:Sem Value).run P w = .ok u w:=by
 simp [h1,h2]

theorem eq_val {t:Nat} {x y:AV} {xu yu:Value} (hx:VR σ π w x xu) (hy:VR σ π w y yu) {b:Bool} (e:aEq (dS P) t x y=some b) (xo yo:Operand) (op:BinOp) :
 (Op.equalIn 10000 t xu yu).run P w = .ok b w∧(eqGuard op t xo yo xu yu).run P w = .ok () w∧(∀k a,xu ≠ .int k a)∧(∀s,xu ≠ .string s)∧(∀k a,xu ≠ .float k a)∧(∀k a b,xu ≠ .complex k a b):=by
 unfold aEq at e
 split at e
 · cases e
 · rename_i i hi
   obtain⟨d,inf,h1,h2,rfl⟩:=bT hi
   split at e
   · cases hx;cases hy
     split at e
     · rename_i hk
       cases e
       obtain rfl:=aHK hk
       refine⟨run_equalIn_bool' w 9999 t _ _ h1,?_,by simp,by simp,by simp,by simp⟩
       rw[eqGuard_at_bool];rfl
     · cases e
   · rename_i a b
     cases hx with
     | agg _ da hla hva =>
      cases hy with
      | agg _ db hlb hvb =>
       split at e
       · rename_i hcmp
         simp only[Bool.and_eq_true,Bool.not_eq_true'] at hcmp
         obtain⟨⟨hg,hs⟩,hn⟩:=hcmp
         refine⟨?_,run_eqGuard_agg w op t xo yo da db hg,by simp,by simp,by simp,by simp⟩
         split at e
         · rename_i fs hk
           obtain⟨f',rfl,rfl⟩:=uK hk
           have hfs:P.fieldsOf t=f':=by simp [Program.fieldsOf,h1]
           rw[run_equalIn_struct w 9999 t da db (by rw[hfs];exact h1) hs,hfs]
           exact aFM 9998 f'.toList ⟨hla,hva⟩ ⟨hlb,hvb⟩ hn e
         · rename_i len el hk
           obtain rfl:=q8 hk
           split at e
           · rename_i ei hei
             obtain⟨de,infe,e1,e2,rfl⟩:=bT hei
             rw[zL 9999 t len el da db h1 e2]
             exact aIP 9998 el infe.size _ ⟨hla,hva⟩ ⟨hlb,hvb⟩ e
           · cases e
         · cases e
       · cases e
   · obtain⟨k1,bx,hnv⟩:=nil_eq h1 hx hy e 9999
     refine⟨k1,?_⟩
     rcases hnv with⟨e,base,n,c,rfl,rfl,rfl⟩ | ⟨e,a,rfl,rfl,rfl⟩ | ⟨k,e,mm,rfl,rfl,rfl⟩ | ⟨p,q,r,rfl,⟨_,rfl⟩ | ⟨_,f,x',y',rfl⟩⟩
     · exact⟨by rw[eqGuard_at_slice];rfl,by simp,by simp,by simp,by simp⟩
     · exact⟨by rw[eqGuard_at_pointer];rfl,by simp,by simp,by simp,by simp⟩
     · exact⟨by rw[eqGuard_at_map];rfl,by simp,by simp,by simp,by simp⟩
     · exact⟨by rw[eqGuard_at_nilFunc];rfl,by simp,by simp,by simp,by simp⟩
     · exact⟨by rw[eqGuard_at_func];rfl,by simp,by simp,by simp,by simp⟩

theorem aLW {t:Nat} {xu yu:Value} {b:Bool} (h1:(Op.equalIn 10000 t xu yu).run P w = .ok b w) (a1:∀k a,xu ≠ .int k a) (a2:∀s,xu ≠ .string s) (a3:∀k a,xu ≠ .float k a) (a4:∀k a b,xu ≠ .complex k a b) :
 (binOp .eql t xu yu).run P w = .ok (.bool b) w∧(binOp .neq t xu yu).run P w = .ok (.bool !b) w:=by
 have e1:binOp .eql t xu yu=(do let b ← Op.equal t xu yu;pure (.bool b):Sem Value):=by
  cases xu<;>first|rfl | exact absurd rfl (a1 _ _)|exact absurd rfl (a2 _)|exact absurd rfl (a3 _ _)|exact absurd rfl (a4 _ _ _)
 have e2:binOp .neq t xu yu=(do let b ← Op.equal t xu yu;pure (.bool !b):Sem Value):=by
  cases xu<;>first|rfl | exact absurd rfl (a1 _ _)|exact absurd rfl (a2 _)|exact absurd rfl (a3 _ _)|exact absurd rfl (a4 _ _ _)
 have e3:(Op.equal t xu yu).run P w = .ok b w:=h1
 rw[e1,e2]
 simp [e3]

theorem op_bin (R:Rel σ π w h) (op:BinOp) (t:Nat) (xo yo:Operand) (x y:AV) (xu yu:Value) (hx:VR σ π w x xu) (hy:VR σ π w y yu) {v:AV} (e:aBin (dS P) op t x y=some v) :
 cG P (do pure (.value (← (do eqGuard op t xo yo xu yu;binOp op t xu yu)))) σ π w h n ⟨v,[],[]⟩:=by
 unfold aBin at e
 split at e
 · rename_i k a k' b
   cases hx;cases hy
   have hg:(eqGuard op t xo yo (.int k a) (.int k' b)).run P w = .ok () w:=by rw[eqGuard_at_int];rfl
   split at e
   · split at e
     · rename_i hb
       cases e
       exact a8 R (qI hg (by simp [binOp,Op.shift,show ¬b<0 by omega])) (.int _ _)
     · cases e
   · split at e
     · rename_i hb
       cases e
       exact a8 R (qI hg (by simp [binOp,Op.shift,show ¬b<0 by omega])) (.int _ _)
     · cases e
   · split at e
     · rename_i hk
       subst hk
       obtain⟨u,hu,hvu⟩:=int_bin (P:=P) (σ:=σ) (π:=π) (w:=w) (t:=t) e
       exact a8 R (qI hg hu) hvu
     · cases e
 · rename_i a b
   cases hx;cases hy
   have hg:(eqGuard op t xo yo (.string a) (.string b)).run P w = .ok () w:=by rw[eqGuard_at_string];rfl
   split at e
   · split at e
     · rename_i hb
       cases e
       exact a8 R (qI hg (by
        have:¬(9223372036854775807<((a.size:Int)+(b.size:Int))):=by omega
        simp [binOp,Op.stringOp,this])) (.str _)
     · cases e
   · cases e
     exact a8 R (qI hg (by simp only[binOp,Op.stringOp,str_eq];rfl)) (.bool _)
   · cases e
     exact a8 R (qI hg (by simp only[binOp,Op.stringOp,str_eq];rfl)) (.bool _)
   · cases e
 · split at e
   · obtain⟨b,hb,rfl⟩:=Option.map_eq_some_iff.1 e
     obtain⟨k1,k2,k3,k4,k5,k6⟩:=eq_val hx hy hb xo yo .eql
     exact a8 R (qI k2 (aLW k1 k3 k4 k5 k6).1) (.bool _)
   · obtain⟨b,hb,rfl⟩:=Option.map_eq_some_iff.1 e
     obtain⟨k1,k2,k3,k4,k5,k6⟩:=eq_val hx hy hb xo yo .neq
     exact a8 R (qI k2 (aLW k1 k3 k4 k5 k6).2) (.bool _)
   · cases e

theorem u8s_spec:∀{rows:List (List AV)} {bs:List UInt8},u8s rows=some bs→∃ns:List Int,rows=ns.map (fun n=>[AV.int .u8 n])∧bs=ns.map fun n=>UInt8.ofNat n.toNat:=by
 intro rows
 induction rows with
 | nil=>intro bs e;simp [u8s] at e;subst e;exact⟨[],rfl,rfl⟩
 | cons r rows ih =>
  intro bs e
  have hr:∃n,r=[.int .u8 n]:=by
   unfold u8s at e
   split at e
   · rename_i hh;cases hh
   · rename_i n r' hr;cases hr;exact⟨n,rfl⟩
   · cases e
  obtain⟨n,rfl⟩:=hr
  simp only[u8s] at e
  obtain⟨bs',h1,rfl⟩:=Option.map_eq_some_iff.1 e
  obtain⟨ns,rfl,rfl⟩:=ih h1
  exact⟨n::ns,rfl,rfl⟩

theorem to_str (R:Rel σ π w h) {s d:Nat} {si:TI} (hsi:dS P s=some si) (hd:P.underlying d=some .string) (x:AV) (xu:Value) (hx:VR σ π w x xu) (hns:∀s',x ≠ .str s') (e:(aD7 (dS P) si x).run h=some (δ,L)) :
 cG P (do pure (.value (← convert s d xu))) σ π w h n δ:=by
 obtain⟨ds,infs,s1,s2,rfl⟩:=bT hsi
 unfold aD7 at e
 split at e
 · rename_i el hks
   obtain rfl:=gK hks
   split at e
   · rename_i szz btss zz cmpp hel
     obtain⟨de,infe,e1,e2,he⟩:=bT hel
     simp only[TI.mk.injEq] at he
     obtain rfl:=tO he.1.symm
     obtain⟨rows,L1,L2,hrows,e4,_⟩:=kO e
     obtain⟨hf,news,n1,n2,n3,n4⟩:=aK1 (P:=P) R hx hrows
     split at e4
     · rename_i bs hbs
       obtain⟨ns,rfl,rfl⟩:=u8s_spec hbs
       have hδ:=bW e4;subst hδ
       obtain⟨m1,m2⟩:=n4 w (qW w)
       have hnews:news=ns.map (Value.int .u8):=by
        apply List.ext_getElem?
        intro i
        rcases Nat.lt_or_ge i ns.length with hlt | hge
        · obtain⟨u,hu,hv⟩:=n2 i [.int .u8 ns[i]] (by simp [hlt]) 0 _ rfl
          cases hv
          simp only[Nat.mul_one,Nat.add_zero,List.getElem?_toArray] at hu
          rw[hu]
          simp [hlt]
        · rw[List.getElem?_eq_none (by rw[n1];simpa using hge),List.getElem?_eq_none (by simpa using hge)]
       have hsl:∃a l c,xu = .slice a l c:=by
        cases hx<;>first|exact⟨_,_,_,rfl⟩ | (exfalso;simp [pE,AM.run] at hrows;done)|exact absurd rfl (hns _)
       obtain⟨a,l,c,rfl⟩:=hsl
       have hll:l=ns.length:=by
        simp [Builtin.lenOf] at m1
        exact m1
       subst hll
       refine a8 R (u:=.string ⟨(ns.map fun n=>UInt8.ofNat n.toNat).toArray⟩) ?_ (.str _)
       rw[run_convert_bytes_string w s d el a ns.length c s1 e1 hd]
       cases a with
       | none =>
        have hz:=m2 ns.length (by simp)
        simp [Builtin.firstCells] at hz
        rw[hnews] at hz
        have:ns=[]:=by simpa using hz
        subst this
        simp [Conv.bytesToString]
        rfl
       | some a =>
        have hl:=m2 ns.length (by simp)
        rw[show news.take (ns.length*1)=ns.map (Value.int .u8) by rw[hnews];exact List.take_of_length_le (by simp)] at hl
        simp only[Builtin.firstCells,Nat.mul_one] at hl
        rw[run_bytesToString w a ns.length c ns hl,foldl_push_bytes]
        simp [ByteArray.empty,ByteArray.emptyWithCapacity]
        rfl
     · exact(aO e4).elim
   · exact(aO e).elim
 · exact(aO e).elim

def gS (w:World) (e:TypeId) (s:ByteArray):Array Value:=s.data.map (fun b=>Value.int .u8 (b.toNat:Int))++Array.replicate (grownCap w s.size 0 e - s.size) (Value.int .u8 0)

theorem aAC (e:TypeId) (s:ByteArray):∃w' cap C fr,(Conv.stringToBytes e s).run P w = .ok (.slice (some ⟨w.heap.size,0,none⟩) s.size cap) w'∧s.size≤cap ∧
 (∀B,B<w.heap.size→w'.heap[B]? = w.heap[B]?)∧w'.heap.size=w.heap.size+1∧w'.os=w.os∧w'.tape=w.tape∧w'.output=w.output ∧
 w'.heap[w.heap.size]? = some (.cells C e fr)∧∀(i:Nat) (b:UInt8),s.data.toList[i]? = some b→C[i]? = some (Value.int .u8 (b.toNat:Int)):=by
 have hge:=grownCap_ge w s.size 0 e
 have hnew:=iE w.drew (.cells (gS w e s) e)
 have hold:∀B,B<w.heap.size→(w.drew.alloc (.cells (gS w e s) e)).heap[B]? = w.heap[B]?:=fun B hB=>dC w.drew _ hB
 have hrun:(Conv.stringToBytes e s).run P w = .ok (.slice (some ⟨w.heap.size,0,none⟩) s.size (grownCap w s.size 0 e))
  ((w.drew.alloc (.cells (gS w e s) e)).freeze ⟨w.heap.size,(gS w e s).size,none⟩ 1):=by
  have hsh:(w.drew.alloc (.cells (gS w e s) e)).shape? w.heap.size=some (e,(gS w e s).size):=by
   unfold World.shape?
   rw[show w.heap.size=w.drew.heap.size from rfl,hnew]
  simp only[Conv.stringToBytes,Sem.run_bind,run_choose,Question.forced,Bool.false_eq_true,if_false,Result.andThen_ok,newRow,run_newObj,Sem.run_pure,markStringish,run_shape]
  have e1:(Question.appendCap s.size 0 e).cut (w.tape w.drawn (Question.appendCap s.size 0 e))=grownCap w s.size 0 e:=rfl
  rw[e1]
  show (Sem.run P (match (w.drew.alloc (.cells (gS w e s) e)).shape? w.heap.size with | some (_,n)=>freeze ⟨w.heap.size,n,none⟩ 1 | _=>pure ()) (w.drew.alloc (.cells (gS w e s) e))).andThen _=_
  rw[hsh]
  rfl
 generalize hW:w.drew.alloc (.cells (gS w e s) e)=W at hrun hnew hold
 have hWs:W.heap.size=w.heap.size+1:=by rw[← hW];exact eW w.drew _
 have hmod:∀(f:Obj→Obj) B,B≠w.heap.size→(W.heap.modify w.heap.size f)[B]? = W.heap[B]?:=fun f B hne=>by simp [Array.getElem?_modify,Ne.symm hne]
 refine⟨_,_,gS w e s,((gS w e s).size,(gS w e s).size+1),hrun,hge,fun B hB=>?_,by simp [World.freeze,hWs],by rw[← hW];rfl,by rw[← hW];rfl,by rw[← hW];rfl,?_,?_⟩
 · simp only[World.freeze,Nat.one_ne_zero,if_false]
   rw[hmod _ _ (by omega)]
   exact hold B hB
 · simp only[World.freeze,Nat.one_ne_zero,if_false]
   rw[Array.getElem?_modify,if_pos rfl]
   rw[show w.heap.size=w.drew.heap.size from rfl,hnew]
   simp
 · intro i b hb
   unfold gS
   rw[Array.getElem?_append_left (by simp;exact(List.getElem?_eq_some_iff.1 hb).1)]
   simp only[Array.getElem?_toList] at hb
   simp [hb]

theorem sealed {S:Sem Next} {sz b g k wgen:Nat} {flg:Fl} {rows:List (List AV)} {ro:Bool} (hd:cG P S σ π w h n ⟨.ref sz b g 0 k flg,[(b,.arr sz rows g wgen ro)],[]⟩) (hk:k=rows.length) (hk0:0<k) :
 cG P S σ π w h n ⟨.sl sz rows,[(b,.arr sz rows g wgen true)],[]⟩:=by
 obtain⟨r,u,w',σ',π',hr,hru,hv,hD⟩:=hd
 have hupd:∀(x:Blk) c,gG h n ⟨.sl sz rows,[(b,x)],[]⟩ c=if c=b then some x else h c:=fun x c=>by
  unfold gG
  rw[if_neg (by simp only[List.length_nil];omega)]
  rfl
 have hupd2:∀c,gG h n ⟨.ref sz b g 0 k flg,[(b,.arr sz rows g wgen ro)],[]⟩ c=if c=b then some (.arr sz rows g wgen ro) else h c:=fun c=>hupd _ c
 have hb:gG h n ⟨.ref sz b g 0 k flg,[(b,.arr sz rows g wgen ro)],[]⟩ b=some (.arr sz rows g wgen ro):=by rw[hupd2,if_pos rfl]
 cases hv with
 | ref0=>exact absurd hk0 (Nat.lt_irrefl _)
 | ref _ _ _ _ _ _ a c l hl hi hn ha hf C te hC hs =>
  obtain rfl:=ha (by omega)
  obtain⟨q1,q2,q3,q4,⟨l2,c1,c2,c3,c4⟩,q6⟩:=BR.real (hD.rel.blk b _ hb) hl
  rw[hl] at c1
  cases c1
  obtain⟨l3,C3,te3,p1,p2,p3,p4,p5⟩:=q6 g l hl q2 (Nat.le_refl _)
  rw[hl] at p1
  cases p1
  rw[hC] at p3
  simp only[Option.some.injEq,Obj.cells.injEq] at p3
  obtain⟨rfl,-,-⟩:=p3
  obtain⟨π2,hπ2⟩:∃π2:bX,π2=fun B o=>π' B o∨(B=l.blk∧o<rows.length*sz):=⟨_,rfl⟩
  have E:Ext σ' π' w' σ' π2 w':=⟨fun _ _ _ h=>h,fun B o h=>by rw[hπ2];exact .inl h,fun _ _ _=>rfl,fun _ _ _ C _ fr _ h=>⟨C,fr,h,rfl⟩,fun _ _ _ _ _ h=>h⟩
  have hin:∀(r q:Nat) row v,rows[r]? = some row→row[q]? = some v→r*sz+q<rows.length*sz:=by
   intro r q row v hrow hq
   obtain⟨hrl,hre⟩:=List.getElem?_eq_some_iff.1 hrow
   have hlen:=(q3 row (hre▸List.getElem_mem hrl)).1
   obtain⟨hql,_⟩:=List.getElem?_eq_some_iff.1 hq
   have:(r+1)*sz≤rows.length*sz:=Nat.mul_le_mul_right _ hrl
   rw[Nat.add_mul,Nat.one_mul] at this
   omega
  have hcell:∀(r q:Nat) row v,rows[r]? = some row→row[q]? = some v→∃x,C[r*sz+q]? = some x∧VR σ' π' w' v x:=by
   intro r q row v hrow hq
   obtain⟨hrl,_⟩:=List.getElem?_eq_some_iff.1 hrow
   exact p5 r row (by omega) hrow q v hq
  refine⟨r,_,w',σ',π2,hr,hru,?_,hD.ext.trans E,⟨hD.frm.size,hD.frm.os,hD.frm.tape,hD.frm.output,hD.frm.same,hD.frm.own,?_⟩,⟨?_,?_,hD.rel.inj,hD.rel.lt,?_⟩⟩
  · have:=VR.sl (σ:=σ') (π:=π2) (w:=w') sz rows l.blk (0*sz) c (fun r q=>(C[r*sz+q]?).getD undef) q3 (by omega) (fun r q row v hrow hq=>by
     obtain⟨x,hx,_⟩:=hcell r q row v hrow hq
     refine⟨?_,by rw[hπ2];exact .inr ⟨rfl,by have:=hin r q row v hrow hq;omega⟩⟩
     simp only[World.cell?,hC,Nat.zero_mul,Nat.zero_add,hx]
     rfl) (fun r q row v hrow hq=>by
     obtain⟨x,hx,hvx⟩:=hcell r q row v hrow hq
     rw[hx]
     exact hvx.mono E)
    rw[hk]
    exact this
  · intro B o hp
    rw[hπ2] at hp
    rcases hp with hp | ⟨rfl,_⟩
    · exact hD.frm.pro B o hp
    · rcases hD.frm.own b g l hl with h1 | ⟨b0,g0,l0,h1,h2⟩
      · exact .inr (.inl h1)
      · exact .inr (.inr ⟨b0,g0,l0,h1,h2⟩)
  · intro c0 x hx
    rw[hupd] at hx
    by_cases hc:c0=b
    · subst hc
      rw[if_pos rfl] at hx
      cases hx
      refine⟨q1,q2,q3,q4,.inr ⟨⟨l,hl,c2,(fun h=>by cases h),fun o ho hp=>?_⟩,fun g1 lg h1 h2 h3=>?_⟩⟩
      · rw[hπ2] at hp
        rcases hp with hp | ⟨_,hp⟩
        · exact c4 o ho hp
        · omega
      · obtain⟨l5,C5,te5,r1,r2,r3,r4,r5⟩:=q6 g1 lg h1 h2 h3
        exact⟨l5,C5,te5,r1,r2,r3,r4,fun r row hr hrow=>(r5 r row hr hrow).mono E⟩
    · rw[if_neg hc] at hx
      refine(hD.rel.blk c0 x (by rw[hupd2,if_neg hc];exact hx)).mono E (fun _=>rfl) (fun _ _ _=>rfl) (fun g1 l1 o h1 hp=>?_)
      rw[hπ2] at hp
      rcases hp with hp | ⟨hp,_⟩
      · exact hp
      · exact absurd (hD.rel.inj c0 g1 b g l1 l h1 hl hp) hc
  · intro c0 hx
    rw[hupd] at hx
    by_cases hc:c0=b
    · rw[if_pos hc] at hx;cases hx
    · rw[if_neg hc] at hx
      exact hD.rel.non c0 (by rw[hupd2,if_neg hc];exact hx)
  · intro B o hp
    rw[hπ2] at hp
    rcases hp with hp | ⟨rfl,_⟩
    · exact hD.rel.prot B o hp
    · exact hD.rel.lt _ _ _ hl

theorem op_markA (R:Rel σ π w h) {s d el:Nat} {ds:TypeDesc} (s1:P.underlying s=some ds) (d1:P.underlying d=some (.slice el)) {sz b g i k:Nat} {flg:Fl} {xu:Value}
 (hx:VR σ π w (.ref sz b g i k flg) xu) (e:(markA (dS P) s d el sz b g i k flg).run h=some (δ,L)) :
 cG P (do pure (Next.value (← convert s d xu))) σ π w h n δ:=by
 unfold markA at e
 split at e
 · rename_i hc
   obtain⟨rfl,hk⟩:=hc
   rw[d1] at s1
   cases s1
   split at e
   · rename_i szz btss zz cmpp hel
     obtain⟨de,infe,e1,e2,he⟩:=bT hel
     simp only[TI.mk.injEq] at he
     obtain rfl:=tO he.1.symm
     obtain⟨x,L',hb,e9,_⟩:=lC e
     clear e
     split at e9
     · rename_i s0 rows gen wgen ro
       split at e9
       rotate_left
       · exact(aO e9).elim
       rename_i hs01
       suffices key:cG P (do pure (Next.value (← convert s s xu))) σ π w h n ⟨.ref sz b g i k flg,[(b,.arr s0 rows gen wgen ro)],[]⟩ by
        split at e9
        · rename_i hc
          obtain⟨rfl,rfl,rfl,hk2⟩:=hc
          have hδ:=cT e9
          subst hδ
          exact sealed key hk2 hk
        · have hδ:=cT e9
          subst hδ
          exact key
       have hx':=hx
       cases hx with
       | ref0=>exact absurd hk (Nat.lt_irrefl _)
       | ref _ _ _ _ _ _ a c l hl hi hn ha hf C te hC hs =>
        obtain rfl:=ha (by omega)
        have hlt:l.blk<w.heap.size:=R.lt _ _ _ hl
        obtain⟨w',hw'⟩:∃w',w.freeze ⟨l.blk,C.size,none⟩ 1=w':=⟨_,rfl⟩
        obtain⟨fr',hfr',hthis⟩:∃fr':Nat × Nat,(FrZ s0 C te.2→FrZ s0 C fr')∧w'.heap[l.blk]? = some (.cells C te.1 fr'):=by
         refine⟨if te.2.1 == te.2.2 then (C.size,C.size+1) else (min te.2.1 C.size,max te.2.2 (C.size+1)),fun hh=>?_,?_⟩
         · rcases hh with hh | ⟨_,hh⟩
           · rw[if_pos (by simpa using hh)]
             exact .inr ⟨hs01,Nat.le_refl _⟩
           · split
             · exact .inr ⟨hs01,Nat.le_refl _⟩
             · exact .inr ⟨hs01,by simp;omega⟩
         · rw[← hw']
           obtain⟨h1,h2⟩:=Array.getElem?_eq_some_iff.1 hC
           simp only[World.freeze,Nat.succ_ne_zero,if_false]
           rw[Array.getElem?_eq_getElem (by rw[Array.size_modify];exact hlt),Array.getElem_modify_self,h2]
        have hother:∀B,B≠l.blk→w'.heap[B]? = w.heap[B]?:=by
         intro B hB
         rw[← hw']
         simp only[World.freeze,Nat.succ_ne_zero,if_false]
         rw[Array.getElem?_modify,if_neg (Ne.symm hB)]
        have hsize:w'.heap.size=w.heap.size:=by rw[← hw'];simp [World.freeze]
        have E:Ext σ π w σ π w':=by
         refine⟨fun _ _ _ h=>h,fun _ _ h=>h,fun B o hB=>?_,fun b' g' l' C1 e1 fr q1 q2=>?_,fun B o C2 k hB h2=>?_⟩
         · by_cases hne:B=l.blk
           · subst hne
             simp [World.cell?,hthis,hC]
           · exact kP (hother B hne)
         · by_cases hne:l'.blk=l.blk
           · rw[hne,hC] at q2
             cases q2
             exact⟨C,fr',by rw[hne];exact hthis,rfl⟩
           · exact⟨C1,fr,(hother _ hne).trans q2,rfl⟩
         · exact(hother B (fun e=>by rw[e,hC] at h2;cases h2)).trans h2
        refine⟨_,_,w',σ,π,iV ?_,.inl rfl,hx'.mono E,iQ R hb _ E (fun _ _ _=>rfl) (fun g l' hl'=>.inl ⟨g,l',hl',rfl⟩) (fun B _ hn=>hother B (fun e=>hn g l hl e.symm)) (by omega) (by rw[← hw'];rfl) (by rw[← hw'];rfl) (by rw[← hw'];rfl) ?_⟩
        · unfold convert
          simp only[Sem.run_bind,run_underlying d1,Result.andThen_ok,beq_self_eq_true,run_underlying e1,markStringish,run_shape,World.shape?,hC,run_freeze,Sem.run_pure,hw']
        · obtain⟨q1,q2,q3,q4,q5,q6⟩:=BR.real (R.blk b _ hb) hl
          refine⟨q1,q2,q3,q4,.inr ⟨q5,fun g' lg hlg hg1 hg2=>?_⟩⟩
          obtain⟨l2,C2,te2,p1,p2,p3,p4,p5⟩:=q6 g' lg hlg hg1 hg2
          by_cases hne:l2.blk=l.blk
          · rw[hne,hC] at p3
            simp only[Option.some.injEq,Obj.cells.injEq] at p3
            obtain⟨rfl,p31,p32⟩:=p3
            exact⟨l2,C,(te.1,fr'),p1,p2,by rw[hne];exact hthis,⟨p4.1,hfr' (p32▸p4.2)⟩,fun r row h1 h2=>(p5 r row h1 h2).mono E⟩
          · exact⟨l2,C2,te2,p1,p2,(hother _ hne).trans p3,p4,fun r row h1 h2=>(p5 r row h1 h2).mono E⟩
     · exact(aO e9).elim
   · exact(aO e).elim
 · exact(aO e).elim

theorem aKG (R:Rel σ π w h) (s d:Nat) (x:AV) (xu:Value) (hx:VR σ π w x xu) (e:(jY (dS P) s d x).run h=some (δ,L)) :
 cG P (do pure (.value (← convert s d xu))) σ π w h n δ:=by
 unfold jY at e
 split at e
 · rename_i si di hsi hdi
   have hsi':=hsi
   obtain⟨ds,infs,s1,s2,rfl⟩:=bT hsi
   obtain⟨dd,infd,d1,d2,rfl⟩:=bT hdi
   simp only at e
   split at e
   · rename_i k hk
     obtain rfl:=tO hk
     split at e
     · have hδ:=bW e;subst hδ
       cases hx
       refine a8 R (u:=.int k (k.wrap _)) ?_ (.int _ _)
       unfold convert
       simp only[Sem.run_bind,run_underlying s1,run_underlying d1,Result.andThen_ok]
       rfl
     · exact(aO e).elim
   · rename_i hk
     obtain rfl:=xP hk
     split at e
     · rename_i s'
       have hδ:=bW e;subst hδ
       cases hx
       refine a8 R (u:=.string s') ?_ (.str _)
       unfold convert
       simp only[Sem.run_bind,run_underlying s1,run_underlying d1,Result.andThen_ok]
       cases ds<;>rfl
     · rename_i hns
       exact to_str R hsi' d1 x xu hx (fun s' hh=>hns s' hh) e
   · rename_i el hk
     obtain rfl:=gK hk
     split at e
     · rename_i str
       split at e
       · rename_i szz btss zz cmpp hel
         obtain⟨de,infe,e1,e2,he⟩:=bT hel
         simp only[TI.mk.injEq] at he
         obtain rfl:=tO he.1.symm
         have hδ:=bW e;subst hδ
         cases hx
         obtain⟨w',cap,C,fr,hr,hcap,hold,hsz,hos,htp,hout,hnew,hC⟩:=aAC (P:=P) (w:=w) el str
         have hD:=aF8 R w' hold hsz hos htp hout
         refine⟨_,.slice (some ⟨w.heap.size,0,none⟩) str.size cap,w',σ,_,iV ?_,.inl rfl,?_,by rw[i9];exact hD⟩
         · unfold convert
           simp only[Sem.run_bind,run_underlying s1,run_underlying d1,Result.andThen_ok]
           cases ds<;>simp only[Sem.run_bind,run_underlying e1,Result.andThen_ok,hr]
         · have hl:(str.data.toList.map fun b=>[AV.int .u8 b.toNat]).length=str.size:=by simp
           have hrow:∀(r q:Nat) (row:List AV) (v:AV),(str.data.toList.map fun b=>[AV.int .u8 b.toNat])[r]? = some row→row[q]? = some v→∃b:UInt8,str.data.toList[r]? = some b∧q=0∧v = .int .u8 b.toNat:=by
            intro r q row v hr hq
            simp only[List.getElem?_map,Option.map_eq_some_iff] at hr
            obtain⟨b,hb,rfl⟩:=hr
            cases q with
            | zero=>simp at hq;exact⟨b,hb,rfl,hq.symm⟩
            | succ q=>simp at hq
           have:=VR.inl (σ:=σ) (π:=fun B o=>π B o∨B=w.heap.size) (w:=w') 1 (str.data.toList.map fun b=>[AV.int .u8 b.toNat]) w.heap.size 0 cap (fun r _=>.int .u8 ((str.data.toList.getD r 0).toNat:Nat)) (fun row hr=>by
            simp only[List.mem_map] at hr
            obtain⟨b,_,rfl⟩:=hr
            exact⟨rfl,fun v hv=>by simp at hv;subst hv;exact⟨rfl,rfl⟩⟩) (by rw[hl];exact hcap)
            (fun r q row v hr hq=>by
             obtain⟨b,hb,rfl,rfl⟩:=hrow r q row v hr hq
             refine⟨?_,.inr rfl⟩
             simp only[World.cell?,hnew,Nat.zero_add,Nat.mul_one,Nat.add_zero,List.getD_eq_getElem?_getD,hb,Option.getD_some]
             simpa using hC r b hb)
            (fun r q row v hr hq=>by
             obtain⟨b,hb,rfl,rfl⟩:=hrow r q row v hr hq
             simp only[List.getD_eq_getElem?_getD,hb,Option.getD_some]
             exact .int _ _)
           rw[hl] at this
           exact this.toSl
       · exact(aO e).elim
     · exact op_markA R s1 d1 hx e
     · exact(aO e).elim
   · exact(aO e).elim
 · exact(aO e).elim

end
end Go.Ws
