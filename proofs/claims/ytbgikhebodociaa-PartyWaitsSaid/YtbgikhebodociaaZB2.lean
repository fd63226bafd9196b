/-
  The abstract machine and its soundness, part 2.
  Conditions: none.
-/
import Derived.Test.YtbgikhebodociaaZB1
set_option linter.unusedVariables false
set_option linter.unusedSimpArgs false
namespace Go.Ws
set_option linter.unusedVariables false
set_option linter.unusedSimpArgs false

/-! ### Words -/
def iadd (k : IntKind) (a b : Int) : Int := k.wrap (a + b)
def isub (k : IntKind) (a b : Int) : Int := k.wrap (a - b)
def imul (k : IntKind) (a b : Int) : Int := k.wrap (a * b)
def iquo (k : IntKind) (a b : Int) : Int := k.wrap (a.tdiv b)
def irem (k : IntKind) (a b : Int) : Int := a.tmod b
def iand (k : IntKind) (a b : Int) : Int := k.wrap (BitVec.ofInt k.bits a &&& BitVec.ofInt k.bits b).toNat
def ior (k : IntKind) (a b : Int) : Int := k.wrap (BitVec.ofInt k.bits a ||| BitVec.ofInt k.bits b).toNat
def ixor (k : IntKind) (a b : Int) : Int := k.wrap (BitVec.ofInt k.bits a ^^^ BitVec.ofInt k.bits b).toNat
def iandn (k : IntKind) (a b : Int) : Int := k.wrap (BitVec.ofInt k.bits a &&& ~~~(BitVec.ofInt k.bits b)).toNat
def ishl (k : IntKind) (a b : Int) : Int := k.wrap (a * 2 ^ (min b.toNat k.bits))
def ishr (k : IntKind) (a b : Int) : Int := a.fdiv (2 ^ (min b.toNat k.bits))
def ineg (k : IntKind) (a : Int) : Int := k.wrap (0 - a)
def icom (k : IntKind) (a : Int) : Int := k.wrap (BitVec.ofInt k.bits (if k.signed then -1 else k.max) ^^^ BitVec.ofInt k.bits a).toNat
def conv (k : IntKind) (a : Int) : Int := k.wrap a
def ltI (a b : Int) : Bool := decide (a < b)
def eqI (a b : Int) : Bool := a == b
def eqS (a b : ByteArray) : Bool := a == b
def eqB (a b : Bool) : Bool := a == b
def imax (a b : Int) : Int := if b > a then b else a
def imin (a b : Int) : Int := if b < a then b else a
/-- A length. -/
def nI (n : Nat) : Int := n
def tN (q : Int) : Nat := q.toNat
def inI (q : Int) (n : Nat) : Bool := decide (0 ≤ q ∧ q < n)
def leI (q : Int) (n : Nat) : Bool := decide (0 ≤ q ∧ q ≤ n)
def ssz (s : ByteArray) : Int := s.size
def isZ (n : Nat) : Bool := decide (n = 0)
def eqN (m n : Nat) : Bool := decide (m = n)
def capI (n m : Nat) : Bool := decide (n ≤ m)
def roomI (n : Nat) : Bool := decide (n ≤ 140737488355328)
def lenI (q : Int) (b : Nat) : Bool := decide (0 ≤ q ∧ q * b ≤ 140737488355328)

/-- A byte in a row of cells. -/
def e_u8 (n : Int) : List AV := [.int .u8 n]
def e_str (s : ByteArray) : List AV := [.str s]
def strOf (l : List Int) : ByteArray := ⟨(l.map fun n => UInt8.ofNat n.toNat).toArray⟩
def bytesOf (s : ByteArray) : List Int := s.data.toList.map fun b => (b.toNat : Int)

/-! ### Slices that grow: g tells whether there is an array yet -/
def accV (g : Bool) (sz b n : Nat) : AV := if g then .ref sz b 0 0 n true else .emps
def accB (g : Bool) (sz : Nat) (rows : List (List AV)) (ro : Bool) : Blk := if g then .arr sz rows 0 0 ro else .none
theorem accV_t (sz b n : Nat) : accV true sz b n = .ref sz b 0 0 n true := rfl
theorem accV_f (sz b n : Nat) : accV false sz b n = .emps := rfl
theorem accB_t (sz : Nat) (rows : List (List AV)) (ro : Bool) : accB true sz rows ro = .arr sz rows 0 0 ro := rfl
theorem accB_f (sz : Nat) (rows : List (List AV)) (ro : Bool) : accB false sz rows ro = .none := rfl

/-! ### Slices that are shared -/
theorem sl_nil (sz : Nat) : sl sz [] = .zs := rfl
theorem sl_one (sz : Nat) (l : List (List AV)) : (sl sz l).one = true := by cases l <;> rfl
theorem sl_refs (sz : Nat) (l : List (List AV)) : (sl sz l).refs = [] := by cases l <;> rfl
theorem sl_gens (sz : Nat) (l : List (List AV)) : (sl sz l).gens = [] := by cases l <;> rfl
theorem sl_ren (r : Nat → Nat) (sz : Nat) (l : List (List AV)) : (sl sz l).ren r = sl sz l := by cases l <;> rfl
theorem sl_reg (r : Nat → Nat) (q : Nat → Nat → Nat) (sz : Nat) (l : List (List AV)) : (sl sz l).reg r q = sl sz l := by cases l <;> rfl
theorem sl_hasInl (sz : Nat) (l : List (List AV)) : (sl sz l).hasInl = true := by cases l <;> rfl
theorem sl_can (sz : Nat) (l : List (List AV)) : (sl sz l).can = sl sz l := by cases l <;> rfl
theorem sl_cells (sz : Nat) (l : List (List AV)) : (sl sz l).cells = [sl sz l] := by cases l <;> rfl
theorem sl_borrow (sz : Nat) (l : List (List AV)) : borrowV (sl sz l) = .ret (sl sz l, []) := by cases l <;> rfl
theorem sl_frz (h : List Blk) (m sz : Nat) (l : List (List AV)) : frzV h m (sl sz l) = some (sl sz l) := by cases l <;> rfl
theorem sl_rows (sz : Nat) (l : List (List AV)) : rowsOf sz (sl sz l) = .ret l := by cases l <;> simp [sl, AV.can, rowsOf]
theorem sl_len (sz : Nat) (l : List (List AV)) : lenOf (sl sz l) = some l.length := by cases l <;> rfl
theorem sl_view (sz : Nat) (vs : List Nat) (l : List (List AV)) : viewV vs (sl sz l) = sl sz l := by cases l <;> simp [sl, AV.can, viewV]
theorem sl_isStr (sz : Nat) (l : List (List AV)) : isStr (sl sz l) = false := by cases l <;> rfl
theorem zs_rows (sz : Nat) : rowsOf sz .zs = .ret [] := rfl

/-- borrowL and frzL look at a value's head; a shared slice has none that shows. -/
theorem borrowL_sl (sz : Nat) (rows : List (List AV)) (l : List AV) : borrowL (sl sz rows :: l) = (borrowV (sl sz rows)).bind fun (v', b) => (borrowL l).bind fun (l', bs) => .ret (v' :: l', b ++ bs) := by
  cases rows <;> rfl

section
variable (T : Nat → Option TI)

/-! ### Tests and numbers -/
theorem aBin_add (t : Nat) (k : IntKind) (a b : Int) : aBin T .add t (.int k a) (.int k b) = some (.int k (iadd k a b)) := by simp [aBin, aIntOp, iadd]
theorem aBin_sub (t : Nat) (k : IntKind) (a b : Int) : aBin T .sub t (.int k a) (.int k b) = some (.int k (isub k a b)) := by simp [aBin, aIntOp, isub]
theorem aBin_mul (t : Nat) (k : IntKind) (a b : Int) : aBin T .mul t (.int k a) (.int k b) = some (.int k (imul k a b)) := by simp [aBin, aIntOp, imul]
theorem aBin_quo (t : Nat) (k : IntKind) (a b : Int) (h : b ≠ 0) : aBin T .quo t (.int k a) (.int k b) = some (.int k (iquo k a b)) := by simp [aBin, aIntOp, iquo, h]
theorem aBin_rem (t : Nat) (k : IntKind) (a b : Int) (h : b ≠ 0) : aBin T .rem t (.int k a) (.int k b) = some (.int k (irem k a b)) := by simp [aBin, aIntOp, irem, h]
theorem aBin_and (t : Nat) (k : IntKind) (a b : Int) : aBin T .and t (.int k a) (.int k b) = some (.int k (iand k a b)) := by simp [aBin, aIntOp, iand]
theorem aBin_or (t : Nat) (k : IntKind) (a b : Int) : aBin T .or t (.int k a) (.int k b) = some (.int k (ior k a b)) := by simp [aBin, aIntOp, ior]
theorem aBin_xor (t : Nat) (k : IntKind) (a b : Int) : aBin T .xor t (.int k a) (.int k b) = some (.int k (ixor k a b)) := by simp [aBin, aIntOp, ixor]
theorem aBin_andNot (t : Nat) (k : IntKind) (a b : Int) : aBin T .andNot t (.int k a) (.int k b) = some (.int k (iandn k a b)) := by simp [aBin, aIntOp, iandn]
theorem aBin_shl (t : Nat) (k k' : IntKind) (a b : Int) (h : 0 ≤ b) : aBin T .shl t (.int k a) (.int k' b) = some (.int k (ishl k a b)) := by simp [aBin, ishl, h]
theorem aBin_shr (t : Nat) (k k' : IntKind) (a b : Int) (h : 0 ≤ b) : aBin T .shr t (.int k a) (.int k' b) = some (.int k (ishr k a b)) := by simp [aBin, ishr, h]
theorem aBin_lss (t : Nat) (k : IntKind) (a b : Int) : aBin T .lss t (.int k a) (.int k b) = some (.bool (ltI a b)) := by simp [aBin, aIntOp, ltI]
theorem aBin_gtr (t : Nat) (k : IntKind) (a b : Int) : aBin T .gtr t (.int k a) (.int k b) = some (.bool (ltI b a)) := by simp [aBin, aIntOp, ltI]
theorem aBin_leq (t : Nat) (k : IntKind) (a b : Int) : aBin T .leq t (.int k a) (.int k b) = some (.bool (!ltI b a)) := by
  simp only [aBin, aIntOp, ltI, if_true, Option.some.injEq, AV.bool.injEq]
  by_cases h : a ≤ b <;> simp [h]; omega
theorem aBin_geq (t : Nat) (k : IntKind) (a b : Int) : aBin T .geq t (.int k a) (.int k b) = some (.bool (!ltI a b)) := by
  simp only [aBin, aIntOp, ltI, if_true, Option.some.injEq, AV.bool.injEq]
  by_cases h : a ≥ b <;> simp [h]; omega
theorem aBin_eql (t : Nat) (k : IntKind) (a b : Int) : aBin T .eql t (.int k a) (.int k b) = some (.bool (eqI a b)) := by simp [aBin, aIntOp, eqI]
theorem aBin_neq (t : Nat) (k : IntKind) (a b : Int) : aBin T .neq t (.int k a) (.int k b) = some (.bool (!eqI a b)) := by simp [aBin, aIntOp, eqI, bne]
theorem aBin_eqS (t : Nat) (a b : ByteArray) : aBin T .eql t (.str a) (.str b) = some (.bool (eqS a b)) := rfl
theorem aBin_neS (t : Nat) (a b : ByteArray) : aBin T .neq t (.str a) (.str b) = some (.bool (!eqS a b)) := rfl
theorem aBin_eqB (t : Nat) (a b : Bool) : aBin T .eql t (.bool a) (.bool b) = (match T t with | some i => if i.k = .bool then some (.bool (eqB a b)) else none | none => none) := by
  simp only [aBin, aEq, eqB]
  cases T t with
  | none => rfl
  | some i => simp only; split <;> rfl
theorem aBin_neB (t : Nat) (a b : Bool) : aBin T .neq t (.bool a) (.bool b) = (match T t with | some i => if i.k = .bool then some (.bool (!eqB a b)) else none | none => none) := by
  simp only [aBin, aEq, eqB]
  cases T t with
  | none => rfl
  | some i => simp only; split <;> rfl
theorem aBin_eqG (t : Nat) (a b : List AV) : aBin T .eql t (.agg a) (.agg b) = (aEq T t (.agg a) (.agg b)).map .bool := rfl
theorem aBin_neG (t : Nat) (a b : List AV) : aBin T .neq t (.agg a) (.agg b) = (aEq T t (.agg a) (.agg b)).map fun b => .bool !b := rfl
theorem aBin_eqP (t : Nat) (b o : Nat) : aBin T .eql t (.hp b o) .nilp = (aEq T t (.hp b o) .nilp).map .bool := rfl
theorem aBin_neP (t : Nat) (b o : Nat) : aBin T .neq t (.hp b o) .nilp = (aEq T t (.hp b o) .nilp).map fun b => .bool !b := rfl
theorem aBin_eqN (t : Nat) : aBin T .eql t .nilp .nilp = (aEq T t .nilp .nilp).map .bool := rfl
theorem aBin_neN (t : Nat) : aBin T .neq t .nilp .nilp = (aEq T t .nilp .nilp).map fun b => .bool !b := rfl
theorem aBin_neM (t : Nat) (b : Nat) : aBin T .neq t (.mp b) .mapn = (aEq T t (.mp b) .mapn).map fun b => .bool !b := rfl
theorem aBin_neMn (t : Nat) : aBin T .neq t .mapn .mapn = (aEq T t .mapn .mapn).map fun b => .bool !b := rfl

def andO (x y : Option Bool) : Option Bool := match x with
  | some true => y
  | some false => some false
  | none => none
theorem andO_some (p q : Bool) : andO (some p) (some q) = some (p && q) := by cases p <;> rfl
theorem scEq_int (t : Nat) (k : IntKind) (a b : Int) : scEq T t (.int k a) (.int k b) = (match T t with | some { k := .int _, .. } => some (eqI a b) | _ => none) := by
  simp only [scEq, eqI, if_true]
  cases T t with
  | none => rfl
  | some i => obtain ⟨k, _, _, _, _⟩ := i; cases k <;> rfl
theorem scEq_str (t : Nat) (a b : ByteArray) : scEq T t (.str a) (.str b) = (match T t with | some { k := .str, .. } => some (eqS a b) | _ => none) := rfl
theorem scEq_bool (t : Nat) (a b : Bool) : scEq T t (.bool a) (.bool b) = (match T t with | some { k := .bool, .. } => some (eqB a b) | _ => none) := rfl
theorem fieldsEq_cons (off ft : Nat) (fs : List (Nat × Nat)) (a b : List AV) : fieldsEq T ((off, ft) :: fs) a b = (match a[off]?, b[off]? with
    | some x, some y => andO (scEq T ft x y) (fieldsEq T fs a b)
    | _, _ => none) := rfl
theorem fieldsEq_nil (a b : List AV) : fieldsEq T [] a b = some true := rfl

theorem aUn_neg (k : IntKind) (a : Int) : aUn .neg (.int k a) = some (.int k (ineg k a)) := rfl
theorem aUn_not (b : Bool) : aUn .not (.bool b) = some (.bool !b) := rfl
theorem aUn_xor (k : IntKind) (a : Int) : aUn .xor (.int k a) = some (.int k (icom k a)) := rfl
theorem aMin_max (k : IntKind) (a b : Int) : aMin true (.int k a) (.int k b) = some (.int k (imax a b)) := by simp [aMin, imax]
theorem aMin_min (k : IntKind) (a b : Int) : aMin false (.int k a) (.int k b) = some (.int k (imin a b)) := by simp [aMin, imin]

/-! ### Lengths -/
def lenS : AV → AM Delta
  | .nils => .val (.int .i64 (nI 0))
  | .emps => .val (.int .i64 (nI 0))
  | .zs => .val (.int .i64 (nI 0))
  | .inl _ rows => .val (.int .i64 (nI rows.length))
  | .ref _ _ _ _ n _ => .val (.int .i64 (nI n))
  | _ => .fail
def lenM : AV → AM Delta
  | .mapn => .val (.int .i64 (nI 0))
  | .mp b => .rd b fun
    | .map es _ => .val (.int .i64 (nI es.length))
    | _ => .fail
  | _ => .fail
def lenT : AV → AM Delta
  | .str s => .val (.int .i64 (ssz s))
  | _ => .fail
theorem aLen_eq (t : Nat) (x : AV) : aLen T t x = (match T t with
    | some { k := .str, .. } => lenT x
    | some { k := .slice _, .. } => lenS x
    | some { k := .map _ _, .. } => lenM x
    | some { k := .array n _, .. } => .val (.int .i64 n)
    | _ => .fail) := by
  unfold aLen
  cases T t with
  | none => rfl
  | some i =>
    obtain ⟨k, _, _, _, _⟩ := i
    cases k <;> first | rfl | (cases x <;> rfl) | (cases x <;> first | rfl | (simp only [lenM]; congr 1; funext y; cases y <;> rfl))
theorem lenS_sl (sz : Nat) (l : List (List AV)) : lenS (sl sz l) = .val (.int .i64 (nI l.length)) := by cases l <;> rfl

/-! ### Elements -/
def ixS (sz : Nat) : AV → Int → AM Delta
  | .inl s rows, q => if s = sz ∧ inI q rows.length = true then .val (.ip s rows (tN q) 0) else .fail
  | .ref s b g i n _, q => if s = sz ∧ inI q n = true then .val (.ep s b g (i + tN q) 0) else .fail
  | _, _ => .fail
theorem ixS_sl (sz : Nat) (l : List (List AV)) (q : Int) : ixS sz (sl sz l) q = if inI q l.length = true then .val (.ip sz l (tN q) 0) else .fail := by
  cases l with
  | nil =>
    have : inI q 0 = false := by simp only [inI, decide_eq_false_iff_not]; omega
    simp [sl, AV.can, ixS, this]
  | cons a l => simp [sl, AV.can, ixS]
def ixA1 (sz : Nat) (q : Int) : AV → AM Delta
  | .hp b o => .val (.hp b (o + q.toNat * sz))
  | .ep s b g i j => .val (.ep s b g i (j + q.toNat * sz))
  | .ip s rows i j => .val (.ip s rows i (j + q.toNat * sz))
  | _ => .fail
def ixA (len sz : Nat) (x : AV) (q : Int) : AM Delta := if 0 ≤ q ∧ q < len then ixA1 sz q x else .fail
theorem aIndexAddr_eq (t : Nat) (x : AV) (k : IntKind) (q : Int) : aIndexAddr T t x (.int k q) = (match T t with
    | some { k := .slice e, .. } => match T e with
      | some ei => ixS ei.sz x q
      | none => .fail
    | some { k := .array len e, .. } => match T e with
      | some ei => ixA len ei.sz x q
      | none => .fail
    | _ => .fail) := by
  unfold aIndexAddr
  cases T t with
  | none => rfl
  | some i =>
    obtain ⟨kk, _, _, _, _⟩ := i
    cases kk <;> first | rfl | skip
    rename_i e
    simp only
    cases T e with
    | none => rfl
    | some ei =>
      simp only [ixS]
      cases x <;> first | rfl | (simp only [inI, tN, decide_eq_true_eq]; done) | (simp only [inI, tN, decide_eq_true_eq]; rfl)

/-! ### Cuts -/
theorem aBound_none (d top : Nat) : aBound none d top = some d := rfl
theorem aBound_int (k : IntKind) (q : Int) (d top : Nat) : aBound (some (.int k q)) d top = if leI q top = true then some (tN q) else none := by
  simp [aBound, leI, tN]

def cutS (ei : TI) (lo hi mx : Option AV) : AV → AM Delta
  | .nils => (AM.of ((aBound mx 0 0).bind fun m => (aBound hi 0 m).bind fun h => (aBound lo 0 h).bind fun _ => if mx.isSome && hi.isNone then none else some AV.nils)).bind AM.val
  | .emps => (AM.of ((aBound mx 0 0).bind fun m => (aBound hi 0 m).bind fun h => (aBound lo 0 h).bind fun _ => if mx.isSome && hi.isNone then none else some AV.emps)).bind AM.val
  | .zs => (AM.of ((aBound mx 0 0).bind fun m => (aBound hi 0 m).bind fun h => (aBound lo 0 h).bind fun _ => if mx.isSome && hi.isNone then none else some (if mx.isSome then AV.emps else AV.zs))).bind AM.val
  | .inl sz rows => if sz = ei.sz then
      (AM.of ((aBound mx rows.length rows.length).bind fun m => (aBound hi rows.length m).bind fun h => (aBound lo 0 h).bind fun l =>
        if mx.isSome && hi.isNone then none else some (if mx.isSome && m == l then AV.emps else sl sz ((rows.drop l).take (h - l))))).bind AM.val
    else .fail
  | .ref sz b g i n full => if sz = ei.sz then
      match mx with
      | none => .rd b fun
        | .arr _ rows gen _ _ => if g = gen ∧ full ∧ i + n ≤ rows.length then
            (AM.of ((aBound hi n (rows.length - i)).bind fun h => (aBound lo 0 h).bind fun l => some (AV.ref sz b g (i + l) (h - l) full))).bind AM.val
          else
            (AM.of ((aBound hi n n).bind fun h => (aBound lo 0 h).bind fun l => some (AV.ref sz b g (i + l) (h - l) full))).bind AM.val
        | _ => .fail
      | some _ => (AM.of ((aBound mx n n).bind fun m => (aBound hi n m).bind fun h => (aBound lo 0 h).bind fun l =>
          if hi.isNone then none else some (if m = l then AV.emps else AV.ref sz b g (i + l) (h - l) false))).bind AM.val
    else .fail
  | _ => .fail
def cutT : AV → Option AV → Option AV → Option AV → AM Delta
  | .str s, lo, hi, none => (AM.of ((aBound hi s.size s.size).bind fun h => (aBound lo 0 h).bind fun l => some (AV.str (s.extract l h)))).bind AM.val
  | _, _, _, _ => .fail
theorem aSlice_eq (t : Nat) (x : AV) (lo hi mx : Option AV) : aSlice T t x lo hi mx = (match T t with
    | some { k := .str, .. } => cutT x lo hi mx
    | some { k := .slice e, .. } => match T e with
      | none => .fail
      | some ei => cutS ei lo hi mx x
    | _ => .fail) := by
  unfold aSlice
  cases T t with
  | none => rfl
  | some i =>
    obtain ⟨k, _, _, _, _⟩ := i
    cases k <;> first | rfl | (cases x <;> first | rfl | (cases mx <;> rfl)) | (rename_i e; cases T e <;> first | rfl | (cases x <;> first | rfl | (cases mx <;> rfl)))
theorem bound_nil {x : Option AV} {d k : Nat} (h : aBound x d 0 = some k) (hd : d = 0) : k = 0 := by
  cases x with
  | none => simp [aBound] at h; omega
  | some v =>
    cases v with
    | int kk q =>
      simp only [aBound] at h
      split at h
      · cases h; omega
      · cases h
    | _ => simp [aBound] at h
theorem cutS_sl (ei : TI) (sz : Nat) (rows : List (List AV)) (lo hi mx : Option AV) (hs : sz = ei.sz) : cutS ei lo hi mx (sl sz rows) =
      (AM.of ((aBound mx rows.length rows.length).bind fun m => (aBound hi rows.length m).bind fun h => (aBound lo 0 h).bind fun l =>
        if mx.isSome && hi.isNone then none else some (if mx.isSome && m == l then AV.emps else sl sz ((rows.drop l).take (h - l))))).bind AM.val := by
  cases rows with
  | cons r rows => simp only [sl, AV.can, cutS, hs, if_true]
  | nil =>
    simp only [sl, AV.can, cutS, List.length_nil]
    congr 2
    cases hm : aBound mx 0 0 with
    | none => rfl
    | some m =>
      obtain rfl := bound_nil hm rfl
      simp only [Option.bind_some]
      cases hh : aBound hi 0 0 with
      | none => rfl
      | some h =>
        obtain rfl := bound_nil hh rfl
        simp only [Option.bind_some]
        cases hl : aBound lo 0 0 with
        | none => rfl
        | some l =>
          obtain rfl := bound_nil hl rfl
          simp only [Option.bind_some]
          cases mx <;> simp [AV.can]

/-! ### Texts and bytes -/
theorem u8s_map : ∀ (l : List Int), u8s (l.map e_u8) = some (l.map fun n => UInt8.ofNat n.toNat)
  | [] => rfl
  | n :: l => by simp [u8s, e_u8, u8s_map l]
def toStrA (l : List (List AV)) : AM Delta := match u8s l with
  | some bs => .val (.str ⟨bs.toArray⟩)
  | none => .fail
theorem toStrA_map (l : List Int) : toStrA (l.map e_u8) = .val (.str (strOf l)) := by simp only [toStrA, u8s_map]; rfl
theorem aToStr_eq (si : TI) (x : AV) : aToStr T si x = (match si.k with
    | .slice e => match T e with
      | some { k := .int .u8, .. } => (rowsOf 1 x).bind toStrA
      | _ => .fail
    | _ => .fail) := rfl
def convI (k : IntKind) : AV → AM Delta
  | .int _ q => .val (.int k (conv k q))
  | _ => .fail
def bytesA (s : ByteArray) : AV := sl 1 ((bytesOf s).map e_u8)
def convS (si : TI) : AV → AM Delta
  | .str s => .val (.str s)
  | x => aToStr T si x
theorem convS_sl (si : TI) (sz : Nat) (l : List (List AV)) : convS T si (sl sz l) = aToStr T si (sl sz l) := by cases l <;> rfl
theorem aConvert_eq (src dst : Nat) (x : AV) : aConvert T src dst x = (match T src, T dst with
    | some si, some di => match di.k with
      | .int k => convI k x
      | .str => convS T si x
      | .slice e => match x with
        | .str s => match T e with
          | some { k := .int .u8, .. } => .val (bytesA s)
          | _ => .fail
        | _ => .fail
      | _ => .fail
    | _, _ => .fail) := by
  unfold aConvert
  cases T src with
  | none => rfl
  | some si =>
    cases T dst with
    | none => rfl
    | some di =>
      simp only
      cases di.k <;> first | rfl | (cases x <;> rfl) | skip
      rename_i e
      cases x <;> first | rfl | skip
      rename_i s
      simp only
      have hb : (s.data.toList.map fun b => [AV.int .u8 b.toNat]) = (bytesOf s).map e_u8 := by simp [bytesOf, e_u8, List.map_map, Function.comp_def]
      cases T e with
      | none => rfl
      | some i =>
        obtain ⟨k, _, _, _, _⟩ := i
        cases k <;> first | rfl | (rename_i kk; cases kk <;> first | rfl | (simp only [bytesA, hb]))

/-! ### Growing -/
def grow (n : Nat) (ei : TI) (ys : List (List AV)) : AV → AM Delta
  | .nils => if isZ ys.length = true then .val .nils else if roomI (ys.length * ei.bts) = true then .ret ⟨.ref ei.sz n 0 0 ys.length true, [], [.arr ei.sz ys 0 0 false]⟩ else .fail
  | .emps => if isZ ys.length = true then .val .emps else if roomI (ys.length * ei.bts) = true then .ret ⟨.ref ei.sz n 0 0 ys.length true, [], [.arr ei.sz ys 0 0 false]⟩ else .fail
  | .zs => if isZ ys.length = true then .val .zs else .fail
  | .inl sz rows => if isZ ys.length = true then .val (.inl sz rows) else .fail
  | .ref sz b g i k full =>
    if isZ ys.length = true then .val (.ref sz b g i k full) else
    if sz = ei.sz ∧ i = 0 ∧ full = true ∧ roomI ((k + ys.length) * ei.bts) = true then
      .rd b fun
      | .arr s' rows gen wgen ro =>
        if s' = sz ∧ g = gen ∧ k ≤ rows.length then
          if k = rows.length then .ret ⟨.ref sz b (gen + 1) 0 (k + ys.length) true, [(b, .arr sz (rows ++ ys) (gen + 1) wgen ro)], []⟩
          else if ro then .fail
          else if k + ys.length ≤ rows.length then .ret ⟨.ref sz b (gen + 1) 0 (k + ys.length) true, [(b, .arr sz (rows.take k ++ ys ++ rows.drop (k + ys.length)) (gen + 1) (gen + 1) false)], []⟩
          else .ret ⟨.ref sz b (gen + 1) 0 (k + ys.length) true, [(b, .arr sz (rows.take k ++ ys) (gen + 1) (gen + 1) false)], []⟩
        else .fail
      | _ => .fail
    else .fail
  | _ => .fail
theorem aAppend_eq (n st xt : Nat) (s x : AV) : aAppend T n st xt s x = (match T st with
    | some { k := .slice e, .. } => match T e, T xt with
      | some ei, some xi => if 0 < ei.sz ∧ 0 < ei.bts ∧ (ei.z.map (·.cells.length)) = some ei.sz then (aYs ei xi x).bind (fun ys => grow n ei ys s) else .fail
      | _, _ => .fail
    | _ => .fail) := by
  unfold aAppend
  cases T st with
  | none => rfl
  | some i =>
    obtain ⟨k, _, _, _, _⟩ := i
    cases k <;> first | rfl | skip
    rename_i e
    simp only
    cases T e with
    | none => rfl
    | some ei =>
      cases T xt with
      | none => rfl
      | some xi =>
        simp only
        split
        · congr 1
          funext ys
          cases s <;> first | rfl | (simp only [grow, roomI, isZ, decide_eq_true_eq]; done) | (simp only [grow, roomI, isZ, decide_eq_true_eq]; rfl)
        · rfl
def ysOf (ei xi : TI) (x : AV) : AM (List (List AV)) := aYs ei xi x
theorem aYs_sl (ei xi : TI) (sz : Nat) (l : List (List AV)) {e : Nat} (h : xi.k = .slice e) : aYs ei xi (sl sz l) = rowsOf ei.sz (sl sz l) := by
  unfold aYs
  cases l <;> simp only [sl, AV.can, h]

end

/-! ### Temporaries -/
theorem tget_mk_eq (n : Nat) (l : List (Nat × AV)) (v : AV) {i : Nat} (h : i < n) : tget (mkT n ((i, v) :: l)) i = v := by
  simp only [mkT]; exact tget_set _ _ (by rw [show (mkT n l).length = n from mkT_length n l]; exact h)
theorem tget_mk_ne (n : Nat) (l : List (Nat × AV)) (v : AV) {i j : Nat} (h : i ≠ j) : tget (mkT n ((i, v) :: l)) j = tget (mkT n l) j := by
  simp only [mkT]; exact tget_set_ne _ _ h
theorem mk_set (n : Nat) (l : List (Nat × AV)) (v : AV) (i : Nat) : (mkT n l).set i v = mkT n ((i, v) :: l) := rfl
theorem mk_get (n : Nat) (l : List (Nat × AV)) {i : Nat} (h : i < n) : (mkT n l)[i]? = some (tget (mkT n l) i) := by
  have hl : i < (mkT n l).length := by rw [mkT_length]; exact h
  simp [tget, hl]
theorem begin0 (n : Nat) (h : List Blk) : begin [] n h = ⟨mkT n [], h⟩ := by simp [begin, mkT]
theorem begin1 (a : AV) (n : Nat) (h : List Blk) : begin [a] (n + 1) h = ⟨mkT (n + 1) [(0, a)], h⟩ := by simp [begin, mkT, List.replicate_succ]
theorem begin2 (a b : AV) (n : Nat) (h : List Blk) : begin [a, b] (n + 2) h = ⟨mkT (n + 2) [(1, b), (0, a)], h⟩ := by simp [begin, mkT, List.replicate_succ]
theorem begin3 (a b c : AV) (n : Nat) (h : List Blk) : begin [a, b, c] (n + 3) h = ⟨mkT (n + 3) [(2, c), (1, b), (0, a)], h⟩ := by simp [begin, mkT, List.replicate_succ]
theorem begin4 (a b c d : AV) (n : Nat) (h : List Blk) : begin [a, b, c, d] (n + 4) h = ⟨mkT (n + 4) [(3, d), (2, c), (1, b), (0, a)], h⟩ := by simp [begin, mkT, List.replicate_succ]
theorem begin5 (a b c d e : AV) (n : Nat) (h : List Blk) : begin [a, b, c, d, e] (n + 5) h = ⟨mkT (n + 5) [(4, e), (3, d), (2, c), (1, b), (0, a)], h⟩ := by simp [begin, mkT, List.replicate_succ]
end Go.Ws
namespace Go.Ws
theorem norm_none {m : Nat} {N : Nat → Option NSpec} {id : Nat} (st : St) (h : N id = none) : norm m N id st = some st := by simp only [norm, h]
theorem norm_some {m : Nat} {N : Nat → Option NSpec} {id : Nat} (st : St) {s : NSpec} (h : N id = some s) : norm m N id st = normS m s st := by simp only [norm, h]
theorem normS_mk (m : Nat) (live : List (Nat × List Nat)) (slots : List (NSrc × List Nat)) (ro : Bool) (t : List AV) (h : List Blk) : normS m ⟨live, slots, ro⟩ ⟨t, h⟩ = (match liveVs t live, slotIds m t h slots [] with
  | some lv, some ids =>
    if decide (m ≤ h.length) && (nodupB ids && idsOk m h.length ids && gensOk m h ids (gensLive lv ++ ((h.take m).flatMap Blk.gens ++ gensSlots h ids))) then
      some ⟨mkT t.length (liveReg (regB m ids) (regG m) lv), (h.take m).map (Blk.reg (regB m ids) (regG m)) ++ slotBlks m h ids ro slots ids⟩
    else none
  | _, _ => none) := rfl
theorem liveVs_nil (t : List AV) : liveVs t [] = some [] := rfl
theorem liveVs_mk (n : Nat) (l : List (Nat × AV)) {i : Nat} (vs : List Nat) (r : List (Nat × List Nat)) (h : i < n) : liveVs (mkT n l) ((i, vs) :: r) = (match liveVs (mkT n l) r with | some x => some ((i, viewV vs (tget (mkT n l) i)) :: x) | none => none) := by
  rw [liveVs, mk_get n l h]
  cases liveVs (mkT n l) r <;> rfl
theorem atV_tmp (m n : Nat) (l : List (Nat × AV)) (h : List Blk) (ids : List (Option Nat)) {i : Nat} (hi : i < n) : atV m (mkT n l) h ids (.tmp i) = some (tget (mkT n l) i) := by simp only [atV, mk_get n l hi]
theorem atV_tcell (m n : Nat) (l : List (Nat × AV)) (h : List Blk) (ids : List (Option Nat)) {i : Nat} (j : Nat) (hi : i < n) : atV m (mkT n l) h ids (.tcell i j) = (tget (mkT n l) i).sub[j]? := by simp only [atV, mk_get n l hi, Option.bind_some]
theorem atV_cell (m : Nat) (t : List AV) (h : List Blk) (ids : List (Option Nat)) (b j : Nat) : atV m t h ids (.cell b j) = (if b < m then some b else (ids[b - m]?).bind id).bind fun c => match h[c]? with
    | some (.row l) => l[j]?
    | _ => none := rfl
theorem viewL_nil : ∀ (i : Nat) (l : List AV), viewL [] i l = l
  | _, [] => rfl
  | i, v :: l => by simp [viewL, viewL_nil (i + 1) l]
theorem viewV_nil (v : AV) : viewV [] v = v := by
  unfold viewV
  split
  · rw [viewL_nil]
  · rfl
theorem viewV_agg (vs : List Nat) (l : List AV) : viewV vs (.agg l) = .agg (viewL vs 0 l) := rfl
theorem viewV_emps (i : Nat) (vs : List Nat) : viewV (i :: vs) .emps = .zs := rfl
theorem viewV_zs (vs : List Nat) : viewV vs .zs = .zs := by unfold viewV; cases vs <;> rfl
theorem viewL_cons (vs : List Nat) (i : Nat) (v : AV) (l : List AV) : viewL vs i (v :: l) = (if vs.contains i then v.can else v) :: viewL vs (i + 1) l := rfl
theorem viewL_nil2 (vs : List Nat) (i : Nat) : viewL vs i [] = [] := rfl
theorem leI_zero (n : Nat) : leI 0 n = true := by simp [leI]
theorem leI_nI (n : Nat) : leI (nI n) n = true := by simp [leI, nI]
theorem tN_lit (n : Nat) : tN (@OfNat.ofNat Int n _) = n := rfl
theorem tN_nI (n : Nat) : tN (nI n) = n := by simp [tN, nI]
theorem roomI_lit {n : Nat} (h : n ≤ 140737488355328) : roomI n = true := by simp [roomI, h]
theorem isZ_zero : isZ 0 = true := rfl
theorem isZ_pos {n : Nat} (h : n ≠ 0) : isZ n = false := by simp [isZ, h]
def accH (g : Bool) (l : List Blk) : List Blk := if g then l else []
theorem accH_t (l : List Blk) : accH true l = l := rfl
theorem accH_f (l : List Blk) : accH false l = [] := rfl
/-- A copy. -/
def cloneP {α : Type} (bts : Nat) (l : List α) : Option (List α) := if roomI (l.length * bts) = true then some l else none
theorem cloneP_some {α : Type} {bts : Nat} {l r : List α} (h : cloneP bts l = some r) : r = l ∧ roomI (l.length * bts) = true := by
  unfold cloneP at h
  split at h
  · rename_i h1; cases h; exact ⟨rfl, h1⟩
  · cases h
theorem ltI_00 : ltI 0 (nI 0) = false := rfl
theorem eqI_self (a : Int) : eqI a a = true := by simp [eqI]
theorem leI_le {q : Int} {n : Nat} (h : leI q n = true) : tN q ≤ n := by
  simp only [leI, decide_eq_true_eq] at h; unfold tN; omega
theorem leI_add {q : Int} {n : Nat} (h : leI q n = true) : tN q + (n - tN q) = n := by
  have := leI_le h; omega
theorem le_up {a b k : Nat} (h : a ≤ b) : a ≤ b + k := Nat.le_add_right_of_le h
theorem capI_le {m n : Nat} (h : capI m n = true) : m ≤ n := by simpa [capI] using h
theorem inI_zero (q : Int) : inI q 0 = false := by simp only [inI, decide_eq_false_iff_not]; omega
theorem inI_no {q : Int} {P : Prop} (h : inI q 0 = true) : P := by rw [inI_zero] at h; cases h
theorem eqI_ne {a b : Int} (h : eqI a b = false) : a ≠ b := by simpa [eqI] using h
end Go.Ws

namespace Go.Ws
theorem one_bool (b : Bool) : AV.one (.bool b : AV) = true := rfl
theorem cells_bool (b : Bool) : AV.cells (.bool b : AV) = [.bool b] := rfl
theorem can_bool (b : Bool) : AV.can (.bool b : AV) = .bool b := rfl
theorem bor_bool (b : Bool) : borrowV (.bool b : AV) = .ret (.bool b, []) := rfl
theorem one_int (k : IntKind) (n : Int) : AV.one (.int k n : AV) = true := rfl
theorem cells_int (k : IntKind) (n : Int) : AV.cells (.int k n : AV) = [.int k n] := rfl
theorem can_int (k : IntKind) (n : Int) : AV.can (.int k n : AV) = .int k n := rfl
theorem bor_int (k : IntKind) (n : Int) : borrowV (.int k n : AV) = .ret (.int k n, []) := rfl
theorem one_str (s : ByteArray) : AV.one (.str s : AV) = true := rfl
theorem cells_str (s : ByteArray) : AV.cells (.str s : AV) = [.str s] := rfl
theorem can_str (s : ByteArray) : AV.can (.str s : AV) = .str s := rfl
theorem bor_str (s : ByteArray) : borrowV (.str s : AV) = .ret (.str s, []) := rfl
theorem one_nilp : AV.one (.nilp : AV) = true := rfl
theorem cells_nilp : AV.cells (.nilp : AV) = [.nilp] := rfl
theorem can_nilp : AV.can (.nilp : AV) = .nilp := rfl
theorem bor_nilp : borrowV (.nilp : AV) = .ret (.nilp, []) := rfl
theorem one_hp (b o : Nat) : AV.one (.hp b o : AV) = true := rfl
theorem cells_hp (b o : Nat) : AV.cells (.hp b o : AV) = [.hp b o] := rfl
theorem can_hp (b o : Nat) : AV.can (.hp b o : AV) = .hp b o := rfl
theorem bor_hp (b o : Nat) : borrowV (.hp b o : AV) = .ret (.hp b o, []) := rfl
theorem one_ep (sz b g i j : Nat) : AV.one (.ep sz b g i j : AV) = true := rfl
theorem cells_ep (sz b g i j : Nat) : AV.cells (.ep sz b g i j : AV) = [.ep sz b g i j] := rfl
theorem can_ep (sz b g i j : Nat) : AV.can (.ep sz b g i j : AV) = .ep sz b g i j := rfl
theorem bor_ep (sz b g i j : Nat) : borrowV (.ep sz b g i j : AV) = .ret (.ep sz b g i j, []) := rfl
theorem one_ip (sz : Nat) (rows : List (List AV)) (i j : Nat) : AV.one (.ip sz rows i j : AV) = true := rfl
theorem cells_ip (sz : Nat) (rows : List (List AV)) (i j : Nat) : AV.cells (.ip sz rows i j : AV) = [.ip sz rows i j] := rfl
theorem can_ip (sz : Nat) (rows : List (List AV)) (i j : Nat) : AV.can (.ip sz rows i j : AV) = .ip sz rows i j := rfl
theorem bor_ip (sz : Nat) (rows : List (List AV)) (i j : Nat) : borrowV (.ip sz rows i j : AV) = .ret (.ip sz rows i j, []) := rfl
theorem one_nils : AV.one (.nils : AV) = true := rfl
theorem cells_nils : AV.cells (.nils : AV) = [.nils] := rfl
theorem can_nils : AV.can (.nils : AV) = .zs := rfl
theorem bor_nils : borrowV (.nils : AV) = .ret (.zs, []) := rfl
theorem one_emps : AV.one (.emps : AV) = true := rfl
theorem cells_emps : AV.cells (.emps : AV) = [.emps] := rfl
theorem can_emps : AV.can (.emps : AV) = .zs := rfl
theorem bor_emps : borrowV (.emps : AV) = .ret (.zs, []) := rfl
theorem one_zs : AV.one (.zs : AV) = true := rfl
theorem cells_zs : AV.cells (.zs : AV) = [.zs] := rfl
theorem can_zs : AV.can (.zs : AV) = .zs := rfl
theorem bor_zs : borrowV (.zs : AV) = .ret (.zs, []) := rfl
theorem one_inl (sz : Nat) (rows : List (List AV)) : AV.one (.inl sz rows : AV) = true := rfl
theorem cells_inl (sz : Nat) (rows : List (List AV)) : AV.cells (.inl sz rows : AV) = [.inl sz rows] := rfl
theorem one_ref (sz b g i n : Nat) (full : Bool) : AV.one (.ref sz b g i n full : AV) = true := rfl
theorem cells_ref (sz b g i n : Nat) (full : Bool) : AV.cells (.ref sz b g i n full : AV) = [.ref sz b g i n full] := rfl
theorem can_ref (sz b g i n : Nat) (full : Bool) : AV.can (.ref sz b g i n full : AV) = .ref sz b g i n full := rfl
theorem bor_ref (sz b g i n : Nat) (full : Bool) : borrowV (.ref sz b g i n full : AV) = .rd b fun
    | .arr s rows gen wgen ro => if s = sz ∧ wgen ≤ g ∧ g ≤ gen ∧ i + n ≤ rows.length then .ret (sl sz ((rows.drop i).take n), [(b, .arr s rows gen wgen true)]) else .fail
    | _ => .fail := rfl
theorem one_mapn : AV.one (.mapn : AV) = true := rfl
theorem cells_mapn : AV.cells (.mapn : AV) = [.mapn] := rfl
theorem can_mapn : AV.can (.mapn : AV) = .mapn := rfl
theorem bor_mapn : borrowV (.mapn : AV) = .ret (.mapn, []) := rfl
theorem one_mp (b : Nat) : AV.one (.mp b : AV) = true := rfl
theorem cells_mp (b : Nat) : AV.cells (.mp b : AV) = [.mp b] := rfl
theorem can_mp (b : Nat) : AV.can (.mp b : AV) = .mp b := rfl
theorem bor_mp (b : Nat) : borrowV (.mp b : AV) = .ret (.mp b, []) := rfl
theorem one_fn (f : Nat) (c : List AV) : AV.one (.fn f c : AV) = true := rfl
theorem cells_fn (f : Nat) (c : List AV) : AV.cells (.fn f c : AV) = [.fn f c] := rfl
theorem can_fn (f : Nat) (c : List AV) : AV.can (.fn f c : AV) = .fn f c := rfl
theorem bor_fn (f : Nat) (c : List AV) : borrowV (.fn f c : AV) = .ret (.fn f c, []) := rfl
theorem one_nilf : AV.one (.nilf : AV) = true := rfl
theorem cells_nilf : AV.cells (.nilf : AV) = [.nilf] := rfl
theorem can_nilf : AV.can (.nilf : AV) = .nilf := rfl
theorem bor_nilf : borrowV (.nilf : AV) = .ret (.nilf, []) := rfl
theorem one_agg (l : List AV) : AV.one (.agg l : AV) = false := rfl
theorem cells_agg (l : List AV) : AV.cells (.agg l : AV) = l := rfl
theorem can_agg (l : List AV) : AV.can (.agg l : AV) = .agg l := rfl
theorem bor_agg (l : List AV) : borrowV (.agg l : AV) = .ret (.agg l, []) := rfl
theorem one_tup (l : List AV) : AV.one (.tup l : AV) = false := rfl
theorem cells_tup (l : List AV) : AV.cells (.tup l : AV) = [.tup l] := rfl
theorem can_tup (l : List AV) : AV.can (.tup l : AV) = .tup l := rfl
theorem bor_tup (l : List AV) : borrowV (.tup l : AV) = .ret (.tup l, []) := rfl
theorem one_any : AV.one (.any : AV) = false := rfl
theorem cells_any : AV.cells (.any : AV) = [.any] := rfl
theorem can_any : AV.can (.any : AV) = .any := rfl
theorem bor_any : borrowV (.any : AV) = .ret (.any, []) := rfl
theorem can_cons (sz : Nat) (r : List AV) (rows : List (List AV)) : AV.can (.inl sz (r :: rows)) = .inl sz (r :: rows) := rfl
theorem can_nil (sz : Nat) : AV.can (.inl sz []) = .zs := rfl
theorem rows_nils (sz : Nat) : rowsOf sz .nils = .ret [] := rfl
theorem rows_emps (sz : Nat) : rowsOf sz .emps = .ret [] := rfl
theorem rows_zs (sz : Nat) : rowsOf sz .zs = .ret [] := rfl
theorem rows_inl (sz s : Nat) (rows : List (List AV)) : rowsOf sz (.inl s rows) = if s = sz then .ret rows else .fail := rfl
theorem rows_ref (sz s b g i n : Nat) (full : Bool) : rowsOf sz (.ref s b g i n full) = if s = sz then .rd b fun
      | .arr s' rows gen wgen _ => if s' = sz ∧ wgen ≤ g ∧ g ≤ gen ∧ i + n ≤ rows.length then .ret ((rows.drop i).take n) else .fail
      | _ => .fail
    else .fail := rfl
theorem rows_str1 (s : ByteArray) : rowsOf 1 (.str s) = .ret (s.data.toList.map fun b => [.int .u8 b.toNat]) := rfl
theorem lenS_nils : lenS .nils = .val (.int .i64 (nI 0)) := rfl
theorem lenS_emps : lenS .emps = .val (.int .i64 (nI 0)) := rfl
theorem lenS_zs : lenS .zs = .val (.int .i64 (nI 0)) := rfl
theorem lenS_inl (sz : Nat) (rows : List (List AV)) : lenS (.inl sz rows) = .val (.int .i64 (nI rows.length)) := rfl
theorem lenS_ref (sz b g i n : Nat) (full : Bool) : lenS (.ref sz b g i n full) = .val (.int .i64 (nI n)) := rfl
theorem ixS_inl (sz s : Nat) (rows : List (List AV)) (q : Int) : ixS sz (.inl s rows) q = if s = sz ∧ inI q rows.length = true then .val (.ip s rows (tN q) 0) else .fail := rfl
theorem ixS_ref (sz s b g i n : Nat) (full : Bool) (q : Int) : ixS sz (.ref s b g i n full) q = if s = sz ∧ inI q n = true then .val (.ep s b g (i + tN q) 0) else .fail := rfl
theorem cutS_nils (ei : TI) (lo hi mx : Option AV) : cutS ei lo hi mx .nils = (AM.of ((aBound mx 0 0).bind fun m => (aBound hi 0 m).bind fun h => (aBound lo 0 h).bind fun _ => if mx.isSome && hi.isNone then none else some AV.nils)).bind AM.val := rfl
theorem cutS_emps (ei : TI) (lo hi mx : Option AV) : cutS ei lo hi mx .emps = (AM.of ((aBound mx 0 0).bind fun m => (aBound hi 0 m).bind fun h => (aBound lo 0 h).bind fun _ => if mx.isSome && hi.isNone then none else some AV.emps)).bind AM.val := rfl
theorem cutS_zs (ei : TI) (lo hi mx : Option AV) : cutS ei lo hi mx .zs = (AM.of ((aBound mx 0 0).bind fun m => (aBound hi 0 m).bind fun h => (aBound lo 0 h).bind fun _ => if mx.isSome && hi.isNone then none else some (if mx.isSome then AV.emps else AV.zs))).bind AM.val := rfl
theorem cutS_ref (ei : TI) (lo hi mx : Option AV) (sz b g i n : Nat) (full : Bool) : cutS ei lo hi mx (.ref sz b g i n full) = if sz = ei.sz then
      match mx with
      | none => .rd b fun
        | .arr _ rows gen _ _ => if g = gen ∧ full ∧ i + n ≤ rows.length then
            (AM.of ((aBound hi n (rows.length - i)).bind fun h => (aBound lo 0 h).bind fun l => some (AV.ref sz b g (i + l) (h - l) full))).bind AM.val
          else
            (AM.of ((aBound hi n n).bind fun h => (aBound lo 0 h).bind fun l => some (AV.ref sz b g (i + l) (h - l) full))).bind AM.val
        | _ => .fail
      | some _ => (AM.of ((aBound mx n n).bind fun m => (aBound hi n m).bind fun h => (aBound lo 0 h).bind fun l =>
          if hi.isNone then none else some (if m = l then AV.emps else AV.ref sz b g (i + l) (h - l) false))).bind AM.val
    else .fail := rfl
theorem convS_str (T : Nat → Option TI) (si : TI) (s : ByteArray) : convS T si (.str s) = .val (.str s) := rfl
theorem convS_nils (T : Nat → Option TI) (si : TI) : convS T si (.nils) = aToStr T si (.nils) := rfl
theorem convS_emps (T : Nat → Option TI) (si : TI) : convS T si (.emps) = aToStr T si (.emps) := rfl
theorem convS_zs (T : Nat → Option TI) (si : TI) : convS T si (.zs) = aToStr T si (.zs) := rfl
theorem convS_inl (T : Nat → Option TI) (si : TI) (sz : Nat) (rows : List (List AV)) : convS T si (.inl sz rows) = aToStr T si (.inl sz rows) := rfl
theorem convS_ref (T : Nat → Option TI) (si : TI) (sz b g i n : Nat) (full : Bool) : convS T si (.ref sz b g i n full) = aToStr T si (.ref sz b g i n full) := rfl
theorem aYs_nils (ei : TI) (e s0 b0 : Nat) (z0 : Option AV) (c0 : Bool) : aYs ei ⟨.slice e, s0, b0, z0, c0⟩ (.nils) = rowsOf ei.sz (.nils) := rfl
theorem aYs_emps (ei : TI) (e s0 b0 : Nat) (z0 : Option AV) (c0 : Bool) : aYs ei ⟨.slice e, s0, b0, z0, c0⟩ (.emps) = rowsOf ei.sz (.emps) := rfl
theorem aYs_zs (ei : TI) (e s0 b0 : Nat) (z0 : Option AV) (c0 : Bool) : aYs ei ⟨.slice e, s0, b0, z0, c0⟩ (.zs) = rowsOf ei.sz (.zs) := rfl
theorem aYs_inl (ei : TI) (e s0 b0 : Nat) (z0 : Option AV) (c0 : Bool) (sz : Nat) (rows : List (List AV)) : aYs ei ⟨.slice e, s0, b0, z0, c0⟩ (.inl sz rows) = rowsOf ei.sz (.inl sz rows) := rfl
theorem aYs_ref (ei : TI) (e s0 b0 : Nat) (z0 : Option AV) (c0 : Bool) (sz b g i n : Nat) (full : Bool) : aYs ei ⟨.slice e, s0, b0, z0, c0⟩ (.ref sz b g i n full) = rowsOf ei.sz (.ref sz b g i n full) := rfl
theorem aYs_str (ei : TI) (s0 b0 : Nat) (z0 : Option AV) (c0 : Bool) (s : ByteArray) : aYs ei ⟨.str, s0, b0, z0, c0⟩ (.str s) = rowsOf ei.sz (.str s) := rfl
theorem aYs_sh (ei : TI) (e s0 b0 : Nat) (z0 : Option AV) (c0 : Bool) (sz : Nat) (l : List (List AV)) : aYs ei ⟨.slice e, s0, b0, z0, c0⟩ (sl sz l) = rowsOf ei.sz (sl sz l) := by cases l <;> rfl
theorem eqN_nils (T : Nat → Option TI) (t : Nat)  : aBin T .eql t .nils .nils = (aEq T t .nils .nils).map .bool := rfl
theorem neN_nils (T : Nat → Option TI) (t : Nat)  : aBin T .neq t .nils .nils = (aEq T t .nils .nils).map fun b => .bool !b := rfl
theorem eqN_inl (T : Nat → Option TI) (t : Nat) (sz : Nat) (rows : List (List AV)) : aBin T .eql t (.inl sz rows) .nils = (aEq T t (.inl sz rows) .nils).map .bool := rfl
theorem neN_inl (T : Nat → Option TI) (t : Nat) (sz : Nat) (rows : List (List AV)) : aBin T .neq t (.inl sz rows) .nils = (aEq T t (.inl sz rows) .nils).map fun b => .bool !b := rfl
theorem eqN_ref (T : Nat → Option TI) (t : Nat) (sz b g i n : Nat) (full : Bool) : aBin T .eql t (.ref sz b g i n full) .nils = (aEq T t (.ref sz b g i n full) .nils).map .bool := rfl
theorem neN_ref (T : Nat → Option TI) (t : Nat) (sz b g i n : Nat) (full : Bool) : aBin T .neq t (.ref sz b g i n full) .nils = (aEq T t (.ref sz b g i n full) .nils).map fun b => .bool !b := rfl
def clearS (ei : TI) (z : AV) : AV → AM Delta
  | .nils => .val undefA
  | .emps => .val undefA
  | .zs => .val undefA
  | .inl _ rows => if isZ rows.length = true then .val undefA else .fail
  | .ref sz b g i n _ => if isZ n = true then .val undefA else .rd b fun
    | .arr s' rows gen _ ro => if sz = ei.sz ∧ s' = sz ∧ g = gen ∧ ro = false ∧ i + n ≤ rows.length ∧ z.cells.length = sz ∧ flatB z.cells then
        .ret ⟨undefA, [(b, .arr sz (rows.take i ++ List.replicate n z.cells ++ rows.drop (i + n)) gen gen false)], []⟩ else .fail
    | _ => .fail
  | _ => .fail
theorem aClear_eq (T : Nat → Option TI) (t : Nat) (x : AV) : aClear T t x = (match T t with
    | some { k := .slice e, .. } => match T e with
      | some ei => match ei.z with
        | some z => clearS ei z x
        | none => .fail
      | none => .fail
    | _ => .fail) := by
  unfold aClear
  cases T t with
  | none => rfl
  | some i =>
    obtain ⟨k, _, _, _, _⟩ := i
    cases k <;> first | rfl | skip
    rename_i e
    simp only
    cases T e with
    | none => rfl
    | some ei =>
      simp only
      cases ei.z with
      | none => rfl
      | some z => cases x <;> first | rfl | (simp only [clearS, isZ, decide_eq_true_eq]; done) | (simp only [clearS, isZ, decide_eq_true_eq]; rfl)
theorem clearS_nils (ei : TI) (z : AV) : clearS ei z .nils = .val undefA := rfl
theorem clearS_emps (ei : TI) (z : AV) : clearS ei z .emps = .val undefA := rfl
theorem clearS_zs (ei : TI) (z : AV) : clearS ei z .zs = .val undefA := rfl
theorem clearS_ref (ei : TI) (z : AV) (sz b g i n : Nat) (full : Bool) : clearS ei z (.ref sz b g i n full) = if isZ n = true then .val undefA else .rd b fun
    | .arr s' rows gen _ ro => if sz = ei.sz ∧ s' = sz ∧ g = gen ∧ ro = false ∧ i + n ≤ rows.length ∧ z.cells.length = sz ∧ flatB z.cells then
        .ret ⟨undefA, [(b, .arr sz (rows.take i ++ List.replicate n z.cells ++ rows.drop (i + n)) gen gen false)], []⟩ else .fail
    | _ => .fail := rfl
end Go.Ws

namespace Go.Ws
set_option linter.unusedVariables false

theorem ltI_iff {a b : Int} : ltI a b = true ↔ a < b := by simp [ltI]
theorem eqI_iff {a b : Int} : eqI a b = true ↔ a = b := by simp [eqI]
theorem eqS_iff {a b : ByteArray} : eqS a b = true ↔ a = b := by rw [eqS, ba_eq]; simp
theorem eqB_iff {a b : Bool} : eqB a b = true ↔ a = b := by simp [eqB]
theorem inI_iff {q : Int} {n : Nat} : inI q n = true ↔ 0 ≤ q ∧ q < n := by simp [inI]
theorem leI_iff {q : Int} {n : Nat} : leI q n = true ↔ 0 ≤ q ∧ q ≤ n := by simp [leI]
theorem capI_iff {m n : Nat} : capI m n = true ↔ m ≤ n := by simp [capI]
theorem isZ_iff {n : Nat} : isZ n = true ↔ n = 0 := by simp [isZ]
theorem eqN_iff {m n : Nat} : eqN m n = true ↔ m = n := by simp [eqN]
theorem roomI_iff {n : Nat} : roomI n = true ↔ n ≤ 140737488355328 := by simp [roomI]
theorem nI_def (n : Nat) : nI n = (n : Int) := rfl
theorem ssz_def (s : ByteArray) : ssz s = (s.size : Int) := rfl
theorem tN_def (q : Int) : tN q = q.toNat := rfl
theorem tN_nat (n : Nat) : tN (n : Int) = n := by simp [tN]
theorem wrap64 {a : Int} (h : -9223372036854775808 ≤ a ∧ a ≤ 9223372036854775807) : IntKind.i64.wrap a = a := by
  simp [IntKind.wrap, IntKind.bits, IntKind.signed]; omega
theorem iadd64 {a b : Int} (h : -9223372036854775808 ≤ a + b ∧ a + b ≤ 9223372036854775807) : iadd .i64 a b = a + b := wrap64 h
theorem isub64 {a b : Int} (h : -9223372036854775808 ≤ a - b ∧ a - b ≤ 9223372036854775807) : isub .i64 a b = a - b := wrap64 h
theorem conv64 {a : Int} (h : -9223372036854775808 ≤ a ∧ a ≤ 9223372036854775807) : conv .i64 a = a := wrap64 h

/-- With enough rounds the answer is r. -/
def Evp {α : Type} (g : Nat → Option α) (r : α) : Prop := ∃ n, ∀ k, n ≤ k → g k = some r
theorem Evp.of {α : Type} {g : Nat → Option α} {r : α} (h : ∀ k, g k = some r) : Evp g r := ⟨0, fun k _ => h k⟩
theorem Evp.bind {α β : Type} {g : Nat → Option α} {a : α} {f : Nat → α → Option β} {r : β} (h : Evp g a) (h2 : Evp (fun k => f k a) r) : Evp (fun k => (g k).bind fun x => f k x) r := by
  obtain ⟨n, h⟩ := h
  obtain ⟨m, h2⟩ := h2
  exact ⟨max n m, fun k hk => by show (g k).bind (fun x => f k x) = _; rw [h k (by omega)]; exact h2 k (by omega)⟩
theorem Evp.step {α : Type} {g f : Nat → Option α} {r : α} (h : ∀ k, g (k + 1) = f k) (hf : Evp f r) : Evp g r := by
  obtain ⟨n, hf⟩ := hf
  refine ⟨n + 1, fun k hk => ?_⟩
  obtain ⟨j, rfl⟩ : ∃ j, k = j + 1 := ⟨k - 1, by omega⟩
  rw [h]
  exact hf j (by omega)
theorem Evp.congr {α : Type} {g f : Nat → Option α} {r : α} (h : ∀ k, g k = f k) (hf : Evp f r) : Evp g r := by
  obtain ⟨n, hf⟩ := hf
  exact ⟨n, fun k hk => (h k).trans (hf k hk)⟩
theorem Evp.get {α : Type} {g : Nat → Option α} {r : α} (h : Evp g r) : ∃ k, g k = some r := let ⟨n, h⟩ := h; ⟨n, h n (Nat.le_refl _)⟩
theorem Evp.ite_t {α : Type} {c : Prop} [Decidable c] {g f : Nat → Option α} {r : α} (hc : c) (h : Evp g r) : Evp (fun k => if c then g k else f k) r := h.congr fun k => if_pos hc
theorem Evp.ite_f {α : Type} {c : Prop} [Decidable c] {g f : Nat → Option α} {r : α} (hc : ¬c) (h : Evp f r) : Evp (fun k => if c then g k else f k) r := h.congr fun k => if_neg hc
theorem Evp.obind {α β : Type} {o : Option α} {a : α} {f : Nat → α → Option β} {r : β} (h : o = some a) (h2 : Evp (fun k => f k a) r) : Evp (fun k => o.bind fun x => f k x) r := h2.congr fun k => by show o.bind (fun x => f k x) = _; rw [h]; rfl
theorem Evp.ret {α : Type} (r : α) : Evp (fun _ => some r) r := ⟨0, fun _ _ => rfl⟩
end Go.Ws

namespace Go.Ws
set_option linter.unusedVariables false

theorem rows_of {α : Type} (e : α → List AV) (p : α → Prop) : ∀ (rows : List (List AV)), (∀ row ∈ rows, ∃ x, row = e x ∧ p x) → ∃ L : List α, rows = L.map e ∧ ∀ x ∈ L, p x
  | [], _ => ⟨[], rfl, fun x h => by cases h⟩
  | r :: rows, h => by
    obtain ⟨x, hx, px⟩ := h r (by simp)
    obtain ⟨L, hL, pL⟩ := rows_of e p rows fun row hr => h row (by simp [hr])
    exact ⟨x :: L, by rw [hL, hx]; rfl, fun y hy => by
      rcases List.mem_cons.1 hy with rfl | hy
      · exact px
      · exact pL y hy⟩
end Go.Ws
