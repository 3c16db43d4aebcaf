/- A symbolic reading of the program's code: values without memory, evaluated by the kernel. Definitions only. -/
import Derived.WalkKit
import Derived.RangeFuncFrom
import Derived.RangeFuncLeaves
noncomputable section
namespace Go.V

inductive Ty where
  | int (k : IntKind)
  | bool
  | str
  | sl (e : TypeId) (t : Ty)
  | unit
  | pair (a b : Ty)
  | ref (t : Ty)
  | clo (f : FuncId) (c : Ty)
  deriving DecidableEq, Inhabited

@[reducible] def Ty.den : Ty → Type
  | .int _ => Int
  | .bool => Bool
  | .str => ByteArray
  | .sl _ t => List t.den
  | .unit => Unit
  | .pair a b => a.den × b.den
  | .ref t => t.den
  | .clo _ c => c.den

def Ty.zero : (t : Ty) → t.den
  | .int _ => (0 : Int)
  | .bool => false
  | .str => ByteArray.empty
  | .sl _ _ => []
  | .unit => ()
  | .pair a b => (a.zero, b.zero)
  | .ref t => t.zero
  | .clo _ c => c.zero

def Ty.size : Ty → Nat
  | .unit => 0
  | .pair a b => a.size + b.size
  | _ => 1

def Ty.agg : Ty → Bool
  | .unit | .pair _ _ => true
  | _ => false

def Ty.fld : Ty → Nat → Option (Nat × Ty)
  | .pair a _, 0 => some (0, a)
  | .pair a b, f + 1 => match b.fld f with
    | some (o, t) => some (a.size + o, t)
    | none => none
  | _, _ => none

inductive Ptr where
  | box (i off : Nat)
  | el (j : Nat) (i : Int) (off : Nat)
  | ro (t : Ty) (x : t.den) (off : Nat)

inductive Cl where
  | int (k : IntKind) (n : Int)
  | bool (b : Bool)
  | str (s : ByteArray)
  | sl (e : TypeId) (t : Ty) (xs : List t.den) (full : Bool)
  | nil (e : TypeId) (t : Ty)
  | own (j : Nat)
  | ptr (p : Ptr)
  | clo (f : FuncId) (c : Ty) (x : c.den)
  | fn (f : FuncId) (ps : List Ptr)
  | sub (j : Nat) (lo hi : Int)
  | junk

inductive PV where
  | one (c : Cl)
  | agg (cs : List Cl)
  | tup (vs : List (Bool × List Cl))
  | skip

def PV.junk : PV := .one .junk

def PV.cells : PV → List Cl
  | .one c => [c]
  | .agg cs => cs
  | .tup _ => []
  | .skip => []

def PV.ok : PV → Bool
  | .one .junk => false
  | .tup _ => false
  | .skip => false
  | _ => true

def flat : (t : Ty) → t.den → List Cl
  | .int k, n => [.int k n]
  | .bool, b => [.bool b]
  | .str, s => [.str s]
  | .sl e t, xs => [.sl e t xs false]
  | .unit, _ => []
  | .pair a b, x => flat a x.1 ++ flat b x.2
  | .ref t, x => [.ptr (.ro t x 0)]
  | .clo f c, x => [.clo f c x]

def pvOf (t : Ty) (x : t.den) : PV := if t.agg then .agg (flat t x) else .one ((flat t x).headD .junk)

def unflat : (t : Ty) → List Cl → Option (t.den × List Cl)
  | .int k, .int k' n :: r => if k = k' then some (n, r) else none
  | .bool, .bool b :: r => some (b, r)
  | .str, .str s :: r => some (s, r)
  | .sl e t, .sl e' t' xs _ :: r => if h : e = e' ∧ t' = t then some (h.2 ▸ xs, r) else none
  | .unit, r => some ((), r)
  | .pair a b, r => match unflat a r with
    | some (x, r1) => match unflat b r1 with
      | some (y, r2) => some ((x, y), r2)
      | none => none
    | none => none
  | .ref t, .ptr (.ro t' x 0) :: r => if h : t' = t then some (h ▸ x, r) else none
  | .clo f c, .clo f' c' x :: r => if h : f' = f ∧ c' = c then some (h.2 ▸ x, r) else none
  | _, _ => none

def zeros (t : Ty) : List Cl := match t with
  | .sl e t => [.nil e t]
  | .pair a b => zeros a ++ zeros b
  | .ref _ => [.junk]
  | .clo _ _ => [.junk]
  | t => flat t t.zero

structure Arr where
  e : TypeId
  t : Ty
  xs : List t.den
  live : Bool

structure St where
  tm : List PV
  bx : List (TypeId × List Cl)
  ar : List Arr
  n : Nat

def St.raw (σ : St) (t : Nat) : PV := σ.tm.getD t .junk
def St.get (σ : St) (t : Nat) : PV := cond (Nat.blt t σ.n) (σ.tm.getD t .junk) .junk
def St.put (σ : St) (d : Option Tmp) (v : PV) : St := match d with
  | some d => { tm := cond (Nat.blt d σ.n) (σ.tm.set d v) σ.tm, bx := σ.bx, ar := σ.ar, n := σ.n }
  | none => σ

def Ty.prods : List Ty → Ty
  | [] => .unit
  | t :: r => .pair t (Ty.prods r)

structure Known where
  ps : List Ty
  rs : List Ty
  f : (Ty.prods ps).den → Option (Ty.prods rs).den

structure Env where
  ty : List (TypeId × Ty)
  bytes : List (TypeId × Nat)
  fn : List (FuncId × Known)
  eqs : List TypeId
  inl : List (FuncId × Func)

def look {α : Type} (l : List (Nat × α)) (k : Nat) : Option α := match l with
  | [] => none
  | (j, a) :: r => if j = k then some a else look r k

def constCells : Ty → List Value → Option (List Cl × List Value)
  | .int k, .int k' n :: r => if k = k' then some ([.int k n], r) else none
  | .bool, .bool b :: r => some ([.bool b], r)
  | .str, .string s :: r => some ([.str s], r)
  | .sl e t, .slice none 0 0 :: r => some ([.nil e t], r)
  | .unit, r => some ([], r)
  | .pair a b, r => match constCells a r with
    | some (x, r1) => match constCells b r1 with
      | some (y, r2) => some (x ++ y, r2)
      | none => none
    | none => none
  | _, _ => none

def constPV (E : Env) (ty : TypeId) (v : Value) : PV := match v with
  | .int k n => .one (.int k n)
  | .bool b => .one (.bool b)
  | .string s => .one (.str s)
  | .agg cs => match look E.ty ty with
    | some t => match constCells t cs.toList with
      | some (c, []) => .agg c
      | _ => .junk
    | none => .junk
  | v => match look E.ty ty with
    | some t => match constCells t [v] with
      | some (c, []) => .one (c.headD .junk)
      | _ => .junk
    | none => .junk

def opv (E : Env) (σ : St) (ty : TypeId) : Operand → PV
  | .tmp t => σ.get t
  | .const v => constPV E ty v
  | .func f => .one (.clo f .unit ())
  | _ => .junk

def mergeCl (c : Bool) : Cl → Cl → Cl
  | .int k x, .int k' y => if k = k' then .int k (cond c x y) else cond c (.int k x) (.int k' y)
  | .bool x, .bool y => .bool (cond c x y)
  | .str x, .str y => .str (cond c x y)
  | x, y => cond c x y

def merge (c : Bool) : PV → PV → PV
  | .one x, .one y => .one (mergeCl c x y)
  | x, y => cond c x y

variable {R : Type}

def rdAt {t : Ty} (xs : List t.den) (i : Int) : t.den := xs.getD i.toNat t.zero
def bt (s : ByteArray) (i : Int) : Int := if h : i.toNat < s.size then ((s[i.toNat]'h).toNat : Int) else 0

def intOp (op : BinOp) (k : IntKind) (x y : Int) (K : Cl → Option R) : Option R := match op with
  | .add => K (.int k (k.wrap (x + y)))
  | .sub => K (.int k (k.wrap (x - y)))
  | .mul => K (.int k (k.wrap (x * y)))
  | .quo => if y = 0 then none else K (.int k (k.wrap (x.tdiv y)))
  | .rem => if y = 0 then none else K (.int k (x.tmod y))
  | .eql => K (.bool (x == y))
  | .neq => K (.bool (x != y))
  | .lss => K (.bool (decide (x < y)))
  | .leq => K (.bool (decide (x ≤ y)))
  | .gtr => K (.bool (decide (x > y)))
  | .geq => K (.bool (decide (x ≥ y)))
  | .shl => if y < 0 then none else K (.int k (k.wrap (x * 2 ^ (min y.toNat k.bits))))
  | .shr => if y < 0 then none else K (.int k (x.fdiv (2 ^ (min y.toNat k.bits))))
  | .and => K (.int k (k.wrap (BitVec.ofInt k.bits x &&& BitVec.ofInt k.bits y).toNat))
  | .or => K (.int k (k.wrap (BitVec.ofInt k.bits x ||| BitVec.ofInt k.bits y).toNat))
  | .xor => K (.int k (k.wrap (BitVec.ofInt k.bits x ^^^ BitVec.ofInt k.bits y).toNat))
  | _ => none

def eqCells : List Cl → List Cl → Option Bool
  | [], [] => some true
  | .int k x :: r, .int k' y :: r' => if k = k' then (match r, r' with
      | [], [] => some (x == y)
      | _, _ => match eqCells r r' with
        | some b => some (x == y && b)
        | none => none) else none
  | .bool x :: r, .bool y :: r' => (match r, r' with
      | [], [] => some (x == y)
      | _, _ => match eqCells r r' with
        | some b => some (x == y && b)
        | none => none)
  | .str x :: r, .str y :: r' => (match r, r' with
      | [], [] => some (x.toList == y.toList)
      | _, _ => match eqCells r r' with
        | some b => some (x.toList == y.toList && b)
        | none => none)
  | _, _ => none

def fitsC : Ty → List Cl → Bool
  | .pair (.int k) r, .int k' _ :: cs => decide (k' = k) && fitsC r cs
  | .pair .bool r, .bool _ :: cs => fitsC r cs
  | .pair .str r, .str _ :: cs => fitsC r cs
  | .unit, [] => true
  | _, _ => false

def fitsB (ty : Option Ty) (a b : List Cl) : Bool := match ty with
  | some τ => fitsC τ a && fitsC τ b
  | none => false

def binOpV (ty : Option Ty) (eqs : Bool) (op : BinOp) (x y : PV) (K : PV → Option R) : Option R := match x, y with
  | .one (.int k a), .one (.int k' b) => match op with
    | .shl | .shr => intOp op k a b fun c => K (.one c)
    | _ => if k = k' then intOp op k a b fun c => K (.one c) else none
  | .one (.bool a), .one (.bool b) => match ty, op with
    | some .bool, .eql => K (.one (.bool (a == b)))
    | some .bool, .neq => K (.one (.bool (!(a == b))))
    | _, _ => none
  | .one (.str a), .one (.str b) => match op with
    | .eql => K (.one (.bool (a.toList == b.toList)))
    | .neq => K (.one (.bool (!(a.toList == b.toList))))
    | .lss => K (.one (.bool (Op.bytesLess a.toList b.toList)))
    | .leq => K (.one (.bool (Op.bytesLess a.toList b.toList || a.toList == b.toList)))
    | .gtr => K (.one (.bool (!(Op.bytesLess a.toList b.toList || a.toList == b.toList))))
    | .geq => K (.one (.bool (!(Op.bytesLess a.toList b.toList))))
    | .add => if ((a.size + b.size : Nat) : Int) > IntKind.i64.max then none else K (.one (.str (a ++ b)))
    | _ => none
  | .agg a, .agg b => if eqs && fitsB ty a b then match op with
    | .eql => match eqCells a b with
      | some r => K (.one (.bool r))
      | none => none
    | .neq => match eqCells a b with
      | some r => K (.one (.bool (!r)))
      | none => none
    | _ => none
    else none
  | _, _ => none

def readAt (σ : St) (p : Ptr) (n : Nat) : Option (List Cl) := match p with
  | .box i off => match σ.bx[i]? with
    | some (_, cs) => if off + n ≤ cs.length then some ((cs.drop off).take n) else none
    | none => none
  | .el j i off => match σ.ar[j]? with
    | some a => if off + n ≤ a.t.size then some (((flat a.t (rdAt a.xs i)).drop off).take n) else none
    | none => none
  | .ro t x off => if off + n ≤ t.size then some (((flat t x).drop off).take n) else none

def setRange (cs : List Cl) (off : Nat) (v : List Cl) : List Cl := cs.take off ++ v ++ cs.drop (off + v.length)

def writeAt (σ : St) (p : Ptr) (v : List Cl) : Option St := match p with
  | .box i off => match σ.bx[i]? with
    | some (t, cs) => if off + v.length ≤ cs.length then some { σ with bx := σ.bx.set i (t, setRange cs off v) } else none
    | none => none
  | .el j i off => match σ.ar[j]? with
    | some a => if a.live = true ∧ off + v.length ≤ a.t.size then match unflat a.t (setRange (flat a.t (rdAt a.xs i)) off v) with
        | some (x, []) => some { σ with ar := σ.ar.set j { a with xs := a.xs.set i.toNat x } }
        | _ => none
      else none
    | none => none
  | .ro _ _ _ => none

def ptrAdd (p : Ptr) (n : Nat) : Ptr := match p with
  | .box i off => .box i (off + n)
  | .el j i off => .el j i (off + n)
  | .ro t x off => .ro t x (off + n)

def ofCells (t : Ty) (cs : List Cl) : PV := if t.agg then .agg cs else .one (cs.headD .junk)

def asRow (σ : St) (c : Cl) : Cl := match c with
  | .own j => match σ.ar[j]? with
    | some a => .sl a.e a.t a.xs false
    | none => .junk
  | .nil e t => .sl e t [] true
  | .sub j lo hi => match σ.ar[j]? with
    | some a => .sl a.e a.t ((a.xs.take hi.toNat).drop lo.toNat) false
    | none => .junk
  | c => c

def freezeJ (σ : St) (c : Cl) : St := match c with
  | .own j => match σ.ar[j]? with
    | some a => { σ with ar := σ.ar.set j { a with live := false } }
    | none => σ
  | .sub j _ _ => match σ.ar[j]? with
    | some a => { σ with ar := σ.ar.set j { a with live := false } }
    | none => σ
  | _ => σ

def storeV (σ : St) (p : Ptr) (cs : List Cl) : Option St := match p with
  | .box i off => writeAt σ (.box i off) cs
  | .el j i off => writeAt (cs.foldl freezeJ σ) (.el j i off) (cs.map (asRow σ))
  | .ro _ _ _ => none

def hasRow : Ty → Bool
  | .sl _ _ => true
  | .pair a b => hasRow a || hasRow b
  | .ref _ => true
  | .clo _ _ => true
  | _ => false

def encRes (rs : List Ty) (v : (Ty.prods rs).den) : PV := match rs, v with
  | [t], v => pvOf t v.1
  | rs, v => .tup (go rs v)
where go : (rs : List Ty) → (Ty.prods rs).den → List (Bool × List Cl)
  | [], _ => []
  | t :: r, v => (t.agg, flat t v.1) :: go r v.2

def dropC (j : Nat) (c : Cl) : Cl := match c with
  | .own i => if i = j then .junk else c
  | .sub i _ _ => if i = j then .junk else c
  | .ptr (.el i _ _) => if i = j then .junk else c
  | .fn _ ps => if ps.any (fun | .el i _ _ => i == j | _ => false) then .junk else c
  | c => c

def dropV (j : Nat) (v : PV) : PV := match v with
  | .one c => .one (dropC j c)
  | .agg cs => .agg (cs.map (dropC j))
  | .tup vs => .tup (vs.map fun x => (x.1, x.2.map (dropC j)))
  | .skip => .skip

def rowIn (σ : St) (c : Cl) : Option (TypeId × (t : Ty) × List t.den) := match c with
  | .sub _ _ _ => none
  | c => match asRow σ c with
    | .sl e t xs _ => some (e, ⟨t, xs⟩)
    | _ => none

def unflats (t : Ty) : List (List Cl) → Option (List t.den)
  | [] => some []
  | c :: r => match unflat t c with
    | some (x, []) => match unflats t r with
      | some xs => some (x :: xs)
      | none => none
    | _ => none

def overlay (places : Nat → Option (Nat × Ty)) (cs : List Cl) : List (Nat × PV) → Option (List Cl)
  | [] => some cs
  | (i, v) :: r => match places i with
    | some (o, t) => if v.ok = true ∧ v.cells.length = t.size then overlay places (setRange cs o v.cells) r else none
    | none => none

def PV.isAgg : PV → Bool
  | .agg _ => true
  | _ => false

def argsFit : List PV → List Ty → Bool
  | [], [] => true
  | p :: ps, t :: ts => p.ok && (p.isAgg == t.agg) && (p.cells.length == t.size) && argsFit ps ts
  | _, _ => false

def callFn (E : Env) (σ : St) (f : FuncId) (args : List PV) (K : St → PV → Option R) : Option R :=
  match look E.fn f with
  | none => none
  | some k =>
    if argsFit args k.ps then match unflat (Ty.prods k.ps) (((args.map PV.cells).flatten).map (asRow σ)) with
      | some (x, []) => match k.f x with
        | some r => K (if k.rs.any hasRow then ((args.map PV.cells).flatten).foldl freezeJ σ else σ) (encRes k.rs r)
        | none => none
      | _ => none
    else none

def lim (E : Env) (e : TypeId) : Nat := match look E.bytes e with
  | some b => if b = 0 then 0 else 140737488355328 / b
  | none => 0

def bnd (E : Env) (σ : St) (ty : TypeId) (d : Int) : Option Operand → Option Int
  | none => some d
  | some y => match opv E σ ty y with
    | .one (.int _ n) => some n
    | _ => none

def asTy (t : Ty) (x : Option (TypeId × (t : Ty) × List t.den)) (e : TypeId) : Option (List t.den) := match x with
  | some (e', ⟨t', xs⟩) => if h : e' = e ∧ t' = t then some (h.2 ▸ xs) else none
  | none => none

def unnil (c : Cl) : Cl := match c with
  | .nil e t => .sl e t [] true
  | c => c

def appendC (E : Env) (e : TypeId) (ty : Ty) (σ : St) (ys : List ty.den) (s : Cl) (K : St → PV → Option R) : Option R := match s with
  | .sl _ _ _ true => match asTy ty (rowIn σ s) e with
    | some xs => if ys.length = 0 then K σ (.one s) else if xs.length + ys.length ≤ lim E e then
        K { tm := σ.tm, bx := σ.bx, ar := σ.ar ++ [{ e, t := ty, xs := xs ++ ys, live := true }], n := σ.n } (.one (.own σ.ar.length)) else none
    | none => none
  | .own j => match σ.ar[j]? with
    | some a => if a.live = true then match asTy ty (rowIn σ s) e with
        | some xs => if xs.length + ys.length ≤ lim E e then
            K { tm := σ.tm.map (dropV j), bx := σ.bx.map fun b => (b.1, b.2.map (dropC j)), ar := σ.ar.set j { e, t := ty, xs := xs ++ ys, live := true }, n := σ.n } (.one (.own j)) else none
        | none => none
      else none
    | none => none
  | _ => none

def appendV (E : Env) (e : TypeId) (ty : Ty) (σ : St) (s x : PV) (K : St → PV → Option R) : Option R := match s, x with
  | .one s, .one x => match asTy ty (rowIn σ x) e with
    | some ys => appendC E e ty σ ys (unnil s) K
    | none => none
  | _, _ => none

def ptrsOf : List PV → Option (List Ptr)
  | [] => some []
  | .one (.ptr p) :: r => match ptrsOf r with
    | some ps => some (p :: ps)
    | none => none
  | _ => none

def evOp (E : Env) (o : Oper) (σ : St) (K : St → Option R) : Option R :=
  let v (x : Operand) : PV := opv E σ o.type x
  let put (p : PV) : Option R := K (σ.put o.dst p)
  match o.op with
  | .move x | .assign x => put (v x)
  | .pick c a b => match v c with
    | .one (.bool c) => put (merge c (v a) (v b))
    | _ => none
  | .alloc e => match look E.ty e with
    | some t => K (({ tm := σ.tm, bx := σ.bx ++ [(e, zeros t)], ar := σ.ar, n := σ.n } : St).put o.dst (.one (.ptr (.box σ.bx.length 0))))
    | none => none
  | .box e x => match look E.ty e with
    | some t => if (opv E σ e x).ok = true ∧ (opv E σ e x).cells.length = t.size then K (({ tm := σ.tm, bx := σ.bx ++ [(e, (opv E σ e x).cells)], ar := σ.ar, n := σ.n } : St).put o.dst (.one (.ptr (.box σ.bx.length 0)))) else none
    | none => none
  | .fieldAddr s x f => match v x, look E.ty s with
    | .one (.ptr p), some t => match t.fld f with
      | some (off, _) => put (.one (.ptr (ptrAdd p off)))
      | none => none
    | _, _ => none
  | .load t x => match v x, look E.ty t with
    | .one (.ptr p), some t => match readAt σ p t.size with
      | some cs => put (ofCells t cs)
      | none => none
    | _, _ => none
  | .store t p x => match v p, look E.ty t with
    | .one (.ptr p), some ty =>
      let cs := (opv E σ t x).cells
      if (opv E σ t x).ok = true ∧ cs.length = ty.size then match storeV σ p cs with
        | some σ' => K (σ'.put o.dst .junk)
        | none => none
      else none
    | _, _ => none
  | .indexAddr t x ix => match look E.ty t with
    | some (.sl e ty) => match v x, v ix with
      | .one (.sl e' t' xs _), .one (.int _ i) => if e' = e ∧ t' = ty then (if 0 ≤ i then if i < (xs.length : Int) then put (.one (.ptr (.ro t' (rdAt xs i) 0))) else none else none) else none
      | .one (.own j), .one (.int _ i) => match σ.ar[j]? with
        | some a => if a.e = e ∧ a.t = ty then (if 0 ≤ i then if i < (a.xs.length : Int) then put (.one (.ptr (.el j i 0))) else none else none) else none
        | none => none
      | .one (.sub j lo hi), .one (.int _ i) => match σ.ar[j]? with
        | some a => if a.e = e ∧ a.t = ty then (if 0 ≤ i then if i < hi - lo then put (.one (.ptr (.el j (lo + i) 0))) else none else none) else none
        | none => none
      | _, _ => none
    | _ => none
  | .index t x ix => match look E.ty t, v x, v ix with
    | some .str, .one (.str s), .one (.int _ i) => if 0 ≤ i then if i < (s.size : Int) then put (.one (.int .u8 (bt s i))) else none else none
    | _, _, _ => none
  | .binOp op t x y _ => binOpV (look E.ty t) (E.eqs.contains t) op (opv E σ t x) (opv E σ t y) put
  | .unOp op _ x => match op, v x with
    | .not, .one (.bool b) => put (.one (.bool (!b)))
    | .neg, .one (.int k n) => put (.one (.int k (k.wrap (0 - n))))
    | _, _ => none
  | .convert s d x => match look E.ty s, look E.ty d, v x with
    | some (.int _), some (.int k), .one (.int _ n) => put (.one (.int k (k.wrap n)))
    | some .str, some .str, .one (.str z) => put (.one (.str z))
    | _, _, _ => none
  | .extract x i => match v x with
    | .tup vs => match vs[i]? with
      | some (a, cs) => put (if a then .agg cs else .one (cs.headD .junk))
      | none => none
    | _ => none
  | .field t x f => match v x, look E.ty t with
    | .agg cs, some t => match t.fld f with
      | some (off, t') => if off + t'.size ≤ cs.length then put (ofCells t' ((cs.drop off).take t'.size)) else none
      | none => none
    | _, _ => none
  | .nilCheck x => match v x with
    | .one (.ptr p) => put (.one (.ptr p))
    | _ => none
  | .build t parts => match look E.ty t with
    | some ty => if ty.agg = true then match overlay ty.fld (zeros ty) (parts.toList.map fun (i, x) => (i, v x)) with
        | some cs => put (.agg cs)
        | none => none
      else none
    | none => none
  | .buildSlice t n parts => match look E.ty t with
    | some (.sl e ty) => if parts.toList.map (·.1) = List.range n ∧ n * ty.size ≤ 16777216 ∧ (parts.toList.all fun x => (opv E σ e x.2).ok) = true then
        match unflats ty (parts.toList.map fun x => (opv E σ e x.2).cells.map (asRow σ)) with
        | some xs => K ((((parts.toList.map fun x => (opv E σ e x.2).cells).flatten).foldl freezeJ σ).put o.dst (.one (.sl e ty xs true)))
        | none => none
      else none
    | _ => none
  | .makeSlice t l c => match look E.ty t, v l, v c with
    | some (.sl e ty), .one (.int _ n), .one (.int _ m) => if n = m then if 0 ≤ n then if n.toNat ≤ lim E e then
        K (({ tm := σ.tm, bx := σ.bx, ar := σ.ar ++ [{ e, t := ty, xs := List.replicate n.toNat ty.zero, live := true }], n := σ.n } : St).put o.dst (.one (.own σ.ar.length))) else none else none else none
    | _, _, _ => none
  | .slice t x lo hi mx => match look E.ty t, v x with
    | some .str, .one (.str s) => match bnd E σ o.type 0 lo, bnd E σ o.type (s.size : Int) hi, mx with
      | some l, some h, none => if 0 ≤ l then if l ≤ h then if h ≤ (s.size : Int) then put (.one (.str (s.extract l.toNat h.toNat))) else none else none else none
      | _, _, _ => none
    | some (.sl e ty), .one c => match asTy ty (rowIn σ c) e with
      | some xs => match bnd E σ o.type 0 lo, bnd E σ o.type (xs.length : Int) hi with
        | some l, some h => if 0 ≤ l then if l ≤ h then if h ≤ (xs.length : Int) then
            match mx with
            | none => K ((freezeJ σ c).put o.dst (.one (.sl e ty ((xs.take h.toNat).drop l.toNat) false)))
            | some m => match hi, bnd E σ o.type 0 (some m) with
              | some _, some m => if m = h then K ((freezeJ σ c).put o.dst (.one (.sl e ty ((xs.take h.toNat).drop l.toNat) true))) else none
              | _, _ => none
          else none else none else none
        | _, _ => none
      | none => none
    | _, _ => none
  | .makeFunc fn bd fr => match fn, bd.toList with
    | .func f, [] => match look E.inl f with
      | some _ => match ptrsOf (fr.toList.map v) with
        | some ps => put (.one (.fn f ps))
        | none => none
      | none => none
    | _, _ => none
  | .call c => match c.callee with
    | .builtin .len => match c.args.toList, c.argTypes.toList with
      | [x], [t] => match look E.ty t, v x with
        | some .str, .one (.str s) => put (.one (.int .i64 (s.size : Int)))
        | some (.sl _ _), .one c => match rowIn σ c with
          | some (_, xs) => put (.one (.int .i64 (xs.2.length : Int)))
          | none => none
        | _, _ => none
      | _, _ => none
    | .builtin .append => match c.args.toList, c.argTypes.toList with
      | [s, x], [t, t'] => if t' = t then match look E.ty t with
          | some (.sl e ty) => appendV E e ty σ (opv E σ t s) (opv E σ t x) fun σ' p => K (σ'.put o.dst p)
          | _ => none
        else none
      | _, _ => none
    | .builtin .min => match c.args.toList with
      | [x, y] => match v x, v y with
        | .one (.int k n), .one (.int _ m) => put (.one (.int k (if m < n then m else n)))
        | _, _ => none
      | _ => none
    | .builtin .max => match c.args.toList with
      | [x, y] => match v x, v y with
        | .one (.int k n), .one (.int _ m) => put (.one (.int k (if m > n then m else n)))
        | _, _ => none
      | _ => none
    | .value g => match v g with
      | .one (.clo f t y) => if c.args.size = c.argTypes.size then callFn E σ f (((c.args.toList.zip c.argTypes.toList).map fun (x, t) => opv E σ t x) ++ (flat t y).map PV.one) fun σ' p => K (σ'.put o.dst p) else none
      | _ => none
    | _ => none
  | _ => none

def setLit (σ : St) (t : Nat) (b : Bool) : St := { tm := σ.tm.set t (.one (.bool b)), bx := σ.bx, ar := σ.ar, n := σ.n }

def evOps (E : Env) (ops : Array Oper) : List Oper → St → (St → Option R) → Option R
  | [], σ, K => K σ
  | o :: rest, σ, K => match o.guard with
    | none => evOp E o σ fun σ' => evOps E ops rest σ' K
    | some (j, want) => match (ops[j]?).bind (·.dst) with
      | none => none
      | some t => match σ.get t with
        | .one (.bool b) =>
          match want with
          | true => cond b (evOp E o (setLit σ t true) fun σ' => evOps E ops rest σ' K) (evOps E ops rest ((setLit σ t false).put o.dst .skip) K)
          | false => cond b (evOps E ops rest ((setLit σ t true).put o.dst .skip) K) (evOp E o (setLit σ t false) fun σ' => evOps E ops rest σ' K)
        | .skip => evOps E ops rest (σ.put o.dst .skip) K
        | _ => none

inductive Item where
  | tm (t : Nat) (ty : Ty)
  | bx (i off : Nat) (ty : Ty)
  | ptr (t : Nat) (i off : Nat)
  | ownT (t : Nat) (e : TypeId) (ty : Ty)
  | ownB (i off : Nat) (e : TypeId) (ty : Ty)
  deriving Inhabited

def Item.ty : Item → Ty
  | .tm _ ty => ty
  | .bx _ _ ty => ty
  | .ptr _ _ _ => .unit
  | .ownT _ e ty => .sl e ty
  | .ownB _ _ e ty => .sl e ty

def tyOf : List Item → Ty
  | [] => .unit
  | x :: r => .pair x.ty (tyOf r)

structure Shape where
  items : List Item
  boxes : List TypeId

def setBox (σ : St) (i off : Nat) (cs : List Cl) : St := match σ.bx[i]? with
  | some (t, old) => { tm := σ.tm, bx := σ.bx.set i (t, setRange old off cs), ar := σ.ar, n := σ.n }
  | none => σ

def bare (E : Env) (n : Nat) (bs : List TypeId) : St :=
  { tm := List.replicate n .junk, bx := bs.map fun t => (t, List.replicate (match look E.ty t with | some ty => ty.size | none => 1) .junk), ar := [], n := n }

def fillIn : (l : List Item) → (tyOf l).den → St → St
  | [], _, σ => σ
  | .tm t ty :: r, x, σ => fillIn r x.2 (σ.put (some t) (pvOf ty x.1))
  | .bx i off ty :: r, x, σ => fillIn r x.2 (setBox σ i off (flat ty x.1))
  | .ptr t i off :: r, x, σ => fillIn r x.2 (σ.put (some t) (.one (.ptr (.box i off))))
  | .ownT t e ty :: r, x, σ => fillIn r x.2 ({ tm := σ.tm, bx := σ.bx, ar := σ.ar ++ [{ e, t := ty, xs := x.1, live := true }], n := σ.n : St }.put (some t) (.one (.own σ.ar.length)))
  | .ownB i off e ty :: r, x, σ => fillIn r x.2 (setBox { tm := σ.tm, bx := σ.bx, ar := σ.ar ++ [{ e, t := ty, xs := x.1, live := true }], n := σ.n } i off [.own σ.ar.length])

def inject (E : Env) (n : Nat) (s : Shape) (x : (tyOf s.items).den) : St := fillIn s.items x (bare E n s.boxes)

def takeOwn (σ : St) (T : List Nat) (c : Cl) (e : TypeId) (ty : Ty) : Option (List ty.den × List Nat) := match c with
  | .nil e' t => if e' = e ∧ t = ty then some ([], T) else none
  | .own j => match σ.ar[j]? with
    | some a => if h : a.live = true ∧ a.e = e ∧ a.t = ty ∧ T.contains j = false then some (h.2.2.1 ▸ a.xs, j :: T) else none
    | none => none
  | _ => none

def takeOwns : (l : List Item) → St → List Nat → Option (tyOf l).den
  | [], _, _ => some ()
  | .ownT t e ty :: r, σ, T => match σ.get t with
    | .one c => match takeOwn σ T c e ty with
      | some (xs, T') => match takeOwns r σ T' with
        | some y => some (xs, y)
        | none => none
      | none => none
    | _ => none
  | .ownB i off e ty :: r, σ, T => match σ.bx[i]? with
    | some (_, cs) => match takeOwn σ T (cs.getD off .junk) e ty with
      | some (xs, T') => match takeOwns r σ T' with
        | some y => some (xs, y)
        | none => none
      | none => none
    | none => none
  | _ :: _, _, _ => none

def takeOut (m : Nat) : (l : List Item) → St → Option (tyOf l).den
  | [], _ => some ()
  | .tm t ty :: r, σ => match unflat ty ((σ.get t).cells.map (asRow σ)) with
    | some (x, []) => if (σ.get t).ok && ((σ.get t).isAgg == ty.agg) then match takeOut m r ((σ.get t).cells.foldl freezeJ σ) with
      | some y => some (x, y)
      | none => none
      else none
    | _ => none
  | .bx i off ty :: r, σ => match σ.bx[i]? with
    | some (_, cs) => match unflat ty ((((cs.drop off).take ty.size)).map (asRow σ)) with
      | some (x, []) => if i < m then match takeOut m r (((cs.drop off).take ty.size).foldl freezeJ σ) with
        | some y => some (x, y)
        | none => none
        else none
      | _ => none
    | none => none
  | .ptr t i off :: r, σ => match σ.get t with
    | .one (.ptr (.box i' off')) => if i' = i ∧ off' = off ∧ i < m then match takeOut m r σ with
        | some y => some ((), y)
        | none => none
      else none
    | _ => none
  | .ownT t e ty :: r, σ => takeOwns (.ownT t e ty :: r) σ []
  | .ownB i off e ty :: r, σ => takeOwns (.ownB i off e ty :: r) σ []

def boxesFit (E : Env) : List TypeId → List (TypeId × List Cl) → Bool
  | [], _ => true
  | t :: r, (t', cs) :: r' => t == t' && cs.length == (match look E.ty t with | some ty => ty.size | none => 1) && boxesFit E r r'
  | _ :: _, [] => false

def extract (E : Env) (n : Nat) (s : Shape) (σ : St) : Option (tyOf s.items).den := if Nat.beq n σ.n && boxesFit E s.boxes σ.bx then takeOut s.boxes.length s.items σ else none

structure Mark (R : Type) where
  ins : Shape
  outs : Shape
  ex : Option Nat
  f : Nat → Nat → (tyOf ins.items).den → ((tyOf outs.items).den → Option R) → Option R

structure Ctx (R : Type) where
  E : Env
  n : Nat
  marks : List (Nat × Mark R)
  fin : St → Option R
  N : Nat

def Mark.go (C : Ctx R) (m : Mark R) (k : Nat) (σ : St) (K : Option Nat → St → Option R) : Option R := match extract C.E C.n m.ins σ with
  | some x => m.f C.N k x fun y => K m.ex (inject C.E C.n m.outs y)
  | none => none

def locC : Cl → List Nat
  | .own j => [3 * j + 1]
  | .sub j _ _ => [3 * j + 1]
  | .fn _ ps => ps.flatMap fun | .box i _ => [3 * i] | .el j _ _ => [3 * j + 1] | .ro _ _ _ => []
  | .ptr (.box i _) => [3 * i]
  | .ptr (.el j _ _) => [3 * j + 1]
  | _ => []

def locP : PV → List Nat
  | .one c => locC c
  | .agg cs => cs.flatMap locC
  | .tup vs => vs.flatMap fun x => x.2.flatMap locC
  | .skip => []

def opTmps (o : Oper) : List Tmp := o.op.operands.toList.filterMap fun | .tmp t => some t | _ => none

inductive Kd where
  | q | al | st | ap | no
  deriving DecidableEq

def noOwn (cs : List Cl) : Bool := cs.all fun | .own _ => false | .sub _ _ _ => false | _ => true

def kind (E : Env) (o : Oper) (σ : St) : Kd := match o.op with
  | .alloc _ => .al
  | .store t p x => match opv E σ o.type p with
    | .one (.ptr (.box _ _)) => .st
    | _ => if noOwn (opv E σ t x).cells then .st else .no
  | .call c => match c.callee with
    | .builtin .append => .ap
    | .builtin _ => .q
    | .value g => match opv E σ o.type g with
      | .one (.clo f t y) => match look E.fn f with
        | some k => if !(k.rs.any hasRow) || noOwn ((((c.args.toList.zip c.argTypes.toList).map fun (x, t) => opv E σ t x) ++ (flat t y).map PV.one).map PV.cells).flatten then .q else .no
        | none => .no
      | _ => .no
    | _ => .no
  | .buildSlice t _ parts => match look E.ty t with
    | some (.sl e _) => if noOwn (parts.toList.map fun x => (opv E σ e x.2).cells).flatten then .q else .no
    | _ => .no
  | .slice _ x _ _ _ => if noOwn (opv E σ o.type x).cells then .q else .no
  | .box _ _ | .makeSlice _ _ _ => .no
  | _ => .q

def pureOp (o : Oper) : Bool := match o.op with
  | .move _ | .assign _ | .fieldAddr _ _ _ | .nilCheck _ => true
  | _ => false

def rdOf (o : Oper) (k : Kd) (σ : St) : List Nat :=
  ((opTmps o).flatMap fun t => locP (σ.get t)) ++ (cond (pureOp o) [] (((opTmps o).flatMap fun t => locP (σ.get t)).flatMap fun l => if l % 3 = 0 then (match σ.bx[l / 3]? with | some (_, cs) => cs.flatMap locC | none => []) else [])) ++ (match k with | .ap => [2] | _ => [])

def wrOf (o : Oper) (k : Kd) (s : Nat) (σ : St) : List Nat := match k with
  | .al => [3 * s]
  | .st => match o.op with
    | .store _ (.tmp t) _ => locP (σ.get t)
    | _ => []
  | .ap => (match o.op with
    | .call c => (match c.args.toList with
      | .tmp t :: _ => locP (σ.get t)
      | _ => [])
    | _ => []) ++ [3 * σ.ar.length + 1, 2]
  | _ => []

def preds (o : Oper) : List Nat := (o.after.toList.filter (Region.binds .any)).map (·.on)

def preds2 (ops : Array Oper) (o : Oper) : List Nat := preds o ++ (preds o).flatMap fun i => match ops[i]? with | some x => preds x | none => []

def disj (x y : List Nat) : Bool := x.all fun i => !y.contains i

structure Rec where
  i : Nat
  rd : List Nat
  wr : List Nat
  pu : Bool := false
  ap : Bool := false

def Rec.fits (p q : Rec) : Bool := (disj p.wr q.rd || (q.pu && !p.ap)) && (disj q.wr p.rd || (p.pu && !q.ap)) && disj p.wr q.wr

def evVal (E : Env) (o : Oper) (σ : St) (put : PV → Option R) : Option R :=
  let v (x : Operand) : PV := opv E σ o.type x
  match o.op with
  | .move x | .assign x => put (v x)
  | .pick c a b => match v c with
    | .one (.bool c) => put (merge c (v a) (v b))
    | _ => none
  | .fieldAddr s x f => match v x, look E.ty s with
    | .one (.ptr p), some t => match t.fld f with
      | some (off, _) => put (.one (.ptr (ptrAdd p off)))
      | none => none
    | _, _ => none
  | .load t x => match v x, look E.ty t with
    | .one (.ptr p), some t => match readAt σ p t.size with
      | some cs => put (ofCells t cs)
      | none => none
    | _, _ => none
  | .indexAddr t x ix => match look E.ty t with
    | some (.sl e ty) => match v x, v ix with
      | .one (.sl e' t' xs _), .one (.int _ i) => if e' = e ∧ t' = ty then (if 0 ≤ i then if i < (xs.length : Int) then put (.one (.ptr (.ro t' (rdAt xs i) 0))) else none else none) else none
      | .one (.own j), .one (.int _ i) => match σ.ar[j]? with
        | some a => if a.e = e ∧ a.t = ty then (if 0 ≤ i then if i < (a.xs.length : Int) then put (.one (.ptr (.el j i 0))) else none else none) else none
        | none => none
      | .one (.sub j lo hi), .one (.int _ i) => match σ.ar[j]? with
        | some a => if a.e = e ∧ a.t = ty then (if 0 ≤ i then if i < hi - lo then put (.one (.ptr (.el j (lo + i) 0))) else none else none) else none
        | none => none
      | _, _ => none
    | _ => none
  | .index t x ix => match look E.ty t, v x, v ix with
    | some .str, .one (.str s), .one (.int _ i) => if 0 ≤ i then if i < (s.size : Int) then put (.one (.int .u8 (bt s i))) else none else none
    | _, _, _ => none
  | .binOp op t x y _ => binOpV (look E.ty t) (E.eqs.contains t) op (opv E σ t x) (opv E σ t y) put
  | .unOp op _ x => match op, v x with
    | .not, .one (.bool b) => put (.one (.bool (!b)))
    | .neg, .one (.int k n) => put (.one (.int k (k.wrap (0 - n))))
    | _, _ => none
  | .convert s d x => match look E.ty s, look E.ty d, v x with
    | some (.int _), some (.int k), .one (.int _ n) => put (.one (.int k (k.wrap n)))
    | some .str, some .str, .one (.str z) => put (.one (.str z))
    | _, _, _ => none
  | .extract x i => match v x with
    | .tup vs => match vs[i]? with
      | some (a, cs) => put (if a then .agg cs else .one (cs.headD .junk))
      | none => none
    | _ => none
  | .field t x f => match v x, look E.ty t with
    | .agg cs, some t => match t.fld f with
      | some (off, t') => if off + t'.size ≤ cs.length then put (ofCells t' ((cs.drop off).take t'.size)) else none
      | none => none
    | _, _ => none
  | .nilCheck x => match v x with
    | .one (.ptr p) => put (.one (.ptr p))
    | _ => none
  | .build t parts => match look E.ty t with
    | some ty => if ty.agg = true then match overlay ty.fld (zeros ty) (parts.toList.map fun (i, x) => (i, v x)) with
        | some cs => put (.agg cs)
        | none => none
      else none
    | none => none
  | .buildSlice t n parts => match look E.ty t with
    | some (.sl e ty) => if parts.toList.map (·.1) = List.range n ∧ n * ty.size ≤ 16777216 ∧ (parts.toList.all fun x => (opv E σ e x.2).ok) = true then
        match unflats ty (parts.toList.map fun x => (opv E σ e x.2).cells.map (asRow σ)) with
        | some xs => put (.one (.sl e ty xs true))
        | none => none
      else none
    | _ => none
  | .slice t x lo hi mx => match look E.ty t, v x with
    | some .str, .one (.str s) => match bnd E σ o.type 0 lo, bnd E σ o.type (s.size : Int) hi, mx with
      | some l, some h, none => if 0 ≤ l then if l ≤ h then if h ≤ (s.size : Int) then put (.one (.str (s.extract l.toNat h.toNat))) else none else none else none
      | _, _, _ => none
    | some (.sl e ty), .one c => match asTy ty (rowIn σ c) e with
      | some xs => match bnd E σ o.type 0 lo, bnd E σ o.type (xs.length : Int) hi with
        | some l, some h => if 0 ≤ l then if l ≤ h then if h ≤ (xs.length : Int) then
            match mx with
            | none => put (.one (.sl e ty ((xs.take h.toNat).drop l.toNat) false))
            | some m => match hi, bnd E σ o.type 0 (some m) with
              | some _, some m => if m = h then put (.one (.sl e ty ((xs.take h.toNat).drop l.toNat) true)) else none
              | _, _ => none
          else none else none else none
        | _, _ => none
      | none => none
    | _, _ => none
  | .makeFunc fn bd fr => match fn, bd.toList with
    | .func f, [] => match look E.inl f with
      | some _ => match ptrsOf (fr.toList.map v) with
        | some ps => put (.one (.fn f ps))
        | none => none
      | none => none
    | _, _ => none
  | .call c => match c.callee with
    | .builtin .len => match c.args.toList, c.argTypes.toList with
      | [x], [t] => match look E.ty t, v x with
        | some .str, .one (.str s) => put (.one (.int .i64 (s.size : Int)))
        | some (.sl _ _), .one c => match rowIn σ c with
          | some (_, xs) => put (.one (.int .i64 (xs.2.length : Int)))
          | none => none
        | _, _ => none
      | _, _ => none
    | .builtin .min => match c.args.toList with
      | [x, y] => match v x, v y with
        | .one (.int k n), .one (.int _ m) => put (.one (.int k (if m < n then m else n)))
        | _, _ => none
      | _ => none
    | .builtin .max => match c.args.toList with
      | [x, y] => match v x, v y with
        | .one (.int k n), .one (.int _ m) => put (.one (.int k (if m > n then m else n)))
        | _, _ => none
      | _ => none
    | .value g => match v g with
      | .one (.clo f t y) => if c.args.size = c.argTypes.size then match look E.fn f with
        | none => none
        | some k => if argsFit (((c.args.toList.zip c.argTypes.toList).map fun (x, t) => opv E σ t x) ++ (flat t y).map PV.one) k.ps then match unflat (Ty.prods k.ps) ((((((c.args.toList.zip c.argTypes.toList).map fun (x, t) => opv E σ t x) ++ (flat t y).map PV.one).map PV.cells).flatten).map (asRow σ)) with
            | some (x, []) => match k.f x with
              | some r => put (encRes k.rs r)
              | none => none
            | _ => none
          else none
        else none
      | _ => none
    | _ => none
  | _ => none

inductive Eff where
  | no
  | box (i : Nat) (b : TypeId × List Cl)
  | row (j : Nat) (A : Arr)
  | new (A : Arr)
  | app (j : Nat) (A : Arr)

def Eff.on (f : Eff) (σ : St) : St := match f with
  | .no => σ
  | .box i b => { tm := σ.tm, bx := σ.bx.set i b, ar := σ.ar, n := σ.n }
  | .row j A => { tm := σ.tm, bx := σ.bx, ar := σ.ar.set j A, n := σ.n }
  | .new A => { tm := σ.tm, bx := σ.bx, ar := σ.ar ++ [A], n := σ.n }
  | .app j A => { tm := σ.tm.map (dropV j), bx := σ.bx.map fun b => (b.1, b.2.map (dropC j)), ar := σ.ar.set j A, n := σ.n }

def Eff.isApp : Eff → Bool
  | .app _ _ => true
  | _ => false

def stE (E : Env) (o : Oper) (σ : St) (K : Eff → Option R) : Option R := match o.op with
  | .store t p x => match opv E σ o.type p, look E.ty t with
    | .one (.ptr p), some ty =>
      let cs := (opv E σ t x).cells
      if (opv E σ t x).ok = true ∧ cs.length = ty.size then match p with
        | .box i off => match σ.bx[i]? with
          | some (t', old) => if off + cs.length ≤ old.length then K (.box i (t', setRange old off cs)) else none
          | none => none
        | .el j i off => match σ.ar[j]? with
          | some a => if a.live = true ∧ off + (cs.map (asRow σ)).length ≤ a.t.size then match unflat a.t (setRange (flat a.t (rdAt a.xs i)) off (cs.map (asRow σ))) with
              | some (y, []) => K (.row j { a with xs := a.xs.set i.toNat y })
              | _ => none
            else none
          | none => none
        | .ro _ _ _ => none
      else none
    | _, _ => none
  | _ => none

def apC (E : Env) (e : TypeId) (ty : Ty) (σ : St) (ys : List ty.den) (s : Cl) (K : Eff → PV → Option R) : Option R := match s with
  | .sl _ _ _ true => match asTy ty (rowIn σ s) e with
    | some xs => if ys.length = 0 then K .no (.one s) else if xs.length + ys.length ≤ lim E e then
        K (.new { e, t := ty, xs := xs ++ ys, live := true }) (.one (.own σ.ar.length)) else none
    | none => none
  | .own j => match σ.ar[j]? with
    | some a => if a.live = true then match asTy ty (rowIn σ s) e with
        | some xs => if xs.length + ys.length ≤ lim E e then
            K (.app j { e, t := ty, xs := xs ++ ys, live := true }) (.one (.own j)) else none
        | none => none
      else none
    | none => none
  | _ => none

def apE (E : Env) (o : Oper) (σ : St) (K : Eff → PV → Option R) : Option R := match o.op with
  | .call c => match c.args.toList, c.argTypes.toList with
    | [s, x], [t, t'] => if t' = t then match look E.ty t with
        | some (.sl e ty) => match opv E σ t s, opv E σ t x with
          | .one s, .one x => match asTy ty (rowIn σ x) e with
            | some ys => apC E e ty σ ys (unnil s) K
            | none => none
          | _, _ => none
        | _ => none
      else none
    | _, _ => none
  | _ => none

def stepD (E : Env) (k : Kd) (s : Nat) (o : Oper) (σ : St) (K : Eff → PV → Option R) : Option R := match k with
  | .al => match o.op with
    | .alloc e => match look E.ty e, σ.bx[s]? with
      | some t, some (0, []) => K (.box s (e, zeros t)) (.one (.ptr (.box s 0)))
      | _, _ => none
    | _ => none
  | .q => evVal E o σ fun v => K .no v
  | .st => stE E o σ fun f => K f .junk
  | .ap => apE E o σ K
  | .no => none

def isAlloc (o : Oper) : Bool := match o.op with
  | .alloc _ => true
  | _ => false

def recOf (i s : Nat) (o : Oper) (k : Kd) (σ : St) (v : PV) : Rec := { i, rd := rdOf o k σ ++ (match k with | .q => locP v | _ => []), wr := wrOf o k s σ, pu := pureOp o, ap := match k with | .ap => true | _ => false }

def evD (E : Env) (ops : Array Oper) : List (Nat × Nat × Oper) → List Rec → St → (St → Option R) → Option R
  | [], _, σ, K => K σ
  | (i, s, o) :: rest, recs, σ, K =>
    let go (σ : St) : Option R :=
      stepD E (kind E o σ) s o σ fun f v =>
        if (recs.all fun q => (preds o).contains q.i || (preds2 ops o).contains q.i || q.fits (recOf i s o (kind E o σ) σ v)) && (!f.isApp || rest.all fun y => (preds y.2.2).contains i) then
          evD E ops rest (recOf i s o (kind E o σ) σ v :: recs) ((f.on σ).put o.dst v) K else none
    let skip (σ : St) : Option R := evD E ops rest ({ i, rd := [], wr := [] } :: recs) (σ.put o.dst .skip) K
    match o.guard with
    | none => go σ
    | some (j, want) => match (ops[j]?).bind (·.dst) with
      | none => none
      | some t => match σ.get t with
        | .one (.bool b) => match want with
          | true => cond b (go (setLit σ t true)) (skip (setLit σ t false))
          | false => cond b (skip (setLit σ t true)) (go (setLit σ t false))
        | .skip => skip σ
        | _ => none

def slots (b : Nat) : Nat → List Oper → List (Nat × Nat × Oper)
  | _, [] => []
  | i, o :: r => (i, b, o) :: slots (if isAlloc o then b + 1 else b) (i + 1) r

def drawB (ops : Array Oper) : Bool := (List.range ops.size).all fun j => match ops[j]? with
  | none => true
  | some y => (preds y).all (fun i => Nat.blt i j) && (List.range j).all fun i => (preds y).contains i || (match ops[i]? with | some x => x.apart ops y | none => true)

def evDraw (E : Env) (ops : Array Oper) (σ : St) (K : St → Option R) : Option R :=
  evD E ops (slots σ.bx.length 0 ops.toList) [] { tm := σ.tm, bx := σ.bx ++ List.replicate (ops.toList.filter isAlloc).length (0, []), ar := σ.ar, n := σ.n } K

def gather (E : Env) (σ : St) : List ResultVar → Option (List PV)
  | [] => some []
  | .tmp t :: r => match gather E σ r with
    | some cs => some (σ.get t :: cs)
    | none => none
  | .cell a t :: r => match σ.get a, look E.ty t with
    | .one (.ptr p), some ty => match readAt σ p ty.size with
      | some c => match gather E σ r with
        | some cs => some (ofCells ty c :: cs)
        | none => none
      | none => none
    | _, _ => none

def evC (E : Env) : Code → St → (Option Nat → St → Option R) → (St → Option R) → Option R
  | .skip, σ, K, _ => K none σ
  | .label _, σ, K, _ => K none σ
  | .region _ ops draw, σ, K, _ => match draw with
    | false => evOps E ops ops.toList σ (K none)
    | true => if drawB ops then evDraw E ops σ (K none) else none
  | .seq a b, σ, K, F => evC E a σ (fun e σ' => match e with
    | none => evC E b σ' K F
    | some i => K (some i) σ') F
  | .cond c x y, σ, K, F => match opv E σ 0 c with
    | .one (.bool b) => cond b (evC E x σ K F) (evC E y σ K F)
    | _ => none
  | .block id body, σ, K, F => evC E body σ (fun e σ' => match e with
    | some i => if i = id then K none σ' else K (some i) σ'
    | none => K none σ') F
  | .exit id, σ, K, _ => K (some id) σ
  | .ret, σ, _, F => F σ
  | _, _, _, _ => none

def St.pop (σ : St) (n : Nat) : St := { tm := σ.tm.drop σ.n, bx := σ.bx, ar := σ.ar, n }

def evInl (E : Env) (fn : Func) (args : List PV) (d : Option Tmp) (σ : St) (K : St → Option R) : Option R := match fn.body with
  | some c =>
    let F (σ' : St) : Option R := match gather E σ' fn.results.toList with
      | some [] => K ((σ'.pop σ.n).put d .junk)
      | some [p] => K ((σ'.pop σ.n).put d p)
      | _ => none
    evC E c { tm := args ++ List.replicate (fn.ntmps - args.length) .junk ++ σ.tm, bx := σ.bx, ar := σ.ar, n := args.length + (fn.ntmps - args.length) } (fun e σ' => match e with
      | none => F σ'
      | some _ => none) F
  | none => none

def turnP (i : Nat) (t : Ty) (x : t.den) (p : Ptr) : Ptr := match p with
  | .box k off => cond (Nat.beq k i) (.ro t x off) p
  | p => p

def turnC (i : Nat) (t : Ty) (x : t.den) (c : Cl) : Cl := match c with
  | .ptr (.box k off) => cond (Nat.beq k i) (.ptr (.ro t x off)) c
  | .fn f ps => .fn f (ps.map (turnP i t x))
  | c => c

def turnV (i : Nat) (t : Ty) (x : t.den) (v : PV) : PV := match v with
  | .one c => .one (turnC i t x c)
  | .agg cs => .agg (cs.map (turnC i t x))
  | .tup vs => .tup (vs.map fun y => (y.1, y.2.map (turnC i t x)))
  | .skip => .skip

def lendSt (i : Nat) (t : Ty) (x : t.den) (σ : St) : St := { tm := σ.tm.map (turnV i t x), bx := (σ.bx.set i (0, [])).map fun b => (b.1, b.2.map (turnC i t x)), ar := σ.ar, n := σ.n }

def lend (E : Env) (i : Nat) (σ : St) (K : St → Option R) : Option R := match σ.bx[i]? with
  | some (te, cs) => match look E.ty te with
    | some ty => match unflat ty (cs.map (asRow σ)) with
      | some (x, []) => K (lendSt i ty x (cs.foldl freezeJ σ))
      | _ => none
    | none => none
  | none => none

def lendAll (E : Env) (o : Oper) : List Operand → St → (St → Option R) → Option R
  | [], σ, K => K σ
  | x :: r, σ, K => match opv E σ o.type x with
    | .one (.ptr (.box i _)) => lend E i σ fun σ' => lendAll E o r σ' K
    | .one (.ptr (.ro _ _ _)) => lendAll E o r σ K
    | _ => none

def capsOf : List PV → Option ((t : Ty) × t.den)
  | [] => some ⟨.unit, ()⟩
  | .one (.ptr (.ro t x 0)) :: r => match capsOf r with
    | some ⟨c, y⟩ => some ⟨.pair (.ref t) c, (x, y)⟩
    | none => none
  | _ => none

def evMk (E : Env) (o : Oper) (f : FuncId) (fr : List Operand) (σ : St) (K : St → Option R) : Option R :=
  lendAll E o fr σ fun σ' => match capsOf (fr.map fun x => opv E σ' o.type x) with
    | some ⟨t, y⟩ => K (σ'.put o.dst (.one (.clo f t y)))
    | none => none

inductive Sp where
  | no
  | inl (fn : Func) (args : List PV)
  | mk (f : FuncId) (fr : List Operand)

def spOf (E : Env) (o : Oper) (σ : St) : Sp := match o.op with
  | .call c => match E.inl with
    | [] => .no
    | _ => match c.callee with
      | .value g => match opv E σ o.type g with
        | .one (.clo f t y) => match look E.inl f with
          | some fn => if c.args.size = c.argTypes.size then .inl fn (((c.args.toList.zip c.argTypes.toList).map fun (x, t) => opv E σ t x) ++ (flat t y).map PV.one) else .no
          | none => .no
        | _ => .no
      | _ => .no
  | .makeFunc fn bd fr => match fn, bd.toList with
    | .func f, [] => .mk f fr.toList
    | _, _ => .no
  | _ => .no

def evOpsI (E : Env) (ops : Array Oper) : List Oper → St → (St → Option R) → Option R
  | [], σ, K => K σ
  | o :: rest, σ, K => match o.guard with
    | none => match spOf E o σ with
      | .no => evOp E o σ fun σ' => evOpsI E ops rest σ' K
      | .inl fn args => evInl E fn args o.dst σ fun σ' => evOpsI E ops rest σ' K
      | .mk f fr => evMk E o f fr σ fun σ' => evOpsI E ops rest σ' K
    | some (j, want) => match (ops[j]?).bind (·.dst) with
      | none => none
      | some t => match σ.get t with
        | .one (.bool b) =>
          match want with
          | true => cond b (evOp E o (setLit σ t true) fun σ' => evOpsI E ops rest σ' K) (evOpsI E ops rest ((setLit σ t false).put o.dst .skip) K)
          | false => cond b (evOpsI E ops rest ((setLit σ t true).put o.dst .skip) K) (evOp E o (setLit σ t false) fun σ' => evOpsI E ops rest σ' K)
        | .skip => evOpsI E ops rest (σ.put o.dst .skip) K
        | _ => none

def evK (C : Ctx R) (p : Nat) : Code → St → (Option Nat → St → Option R) → Option R
  | .skip, σ, K => K none σ
  | .label _, σ, K => K none σ
  | .region _ ops draw, σ, K => match draw with
    | false => evOpsI C.E ops ops.toList σ (K none)
    | true => if drawB ops then evDraw C.E ops σ (K none) else none
  | .seq a b, σ, K => evK C (2 * p) a σ fun e σ' => match e with
    | none => match look C.marks (2 * p + 1) with
      | some m => m.go C 0 σ' K
      | none => evK C (2 * p + 1) b σ' K
    | some i => K (some i) σ'
  | .cond c x y, σ, K => match opv C.E σ 0 c with
    | .one (.bool b) => cond b (evK C (2 * p) x σ K) (evK C (2 * p + 1) y σ K)
    | _ => none
  | .block id body, σ, K => evK C (2 * p) body σ fun e σ' => match e with
    | some i => if i = id then K none σ' else K (some i) σ'
    | none => K none σ'
  | .loop _, σ, K => match look C.marks (2 * p) with
    | some m => m.go C C.N σ K
    | none => none
  | .exit id, σ, K => K (some id) σ
  | .ret, σ, _ => C.fin σ
  | _, _, _ => none

def finish (E : Env) (fn : Func) (rs : List Ty) (σ : St) : Option (Ty.prods rs).den := match gather E σ fn.results.toList with
  | some pvs => if argsFit pvs rs then match unflat (Ty.prods rs) (((pvs.map PV.cells).flatten).map (asRow σ)) with
    | some (x, []) => some x
    | _ => none
    else none
  | none => none

def pvsOf : (ps : List Ty) → (Ty.prods ps).den → List PV
  | [], _ => []
  | t :: r, x => pvOf t x.1 :: pvsOf r x.2

def start (fn : Func) (ps : List Ty) (x : (Ty.prods ps).den) : St := { tm := pvsOf ps x ++ List.replicate (fn.ntmps - ps.length) .junk, bx := [], ar := [], n := ps.length + (fn.ntmps - ps.length) }

def evBody (E : Env) (fn : Func) (rs : List Ty) (mk : List (Nat × Mark (Ty.prods rs).den)) (N : Nat) (σ : St) : Option (Ty.prods rs).den := match fn.body with
  | some c => evK { E, n := fn.ntmps, marks := mk, fin := finish E fn rs, N } 1 c σ fun e σ' => match e with
    | none => finish E fn rs σ'
    | some _ => none
  | none => none

end Go.V
