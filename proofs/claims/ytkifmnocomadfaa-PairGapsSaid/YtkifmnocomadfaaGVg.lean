/- The deep reading: functions with loops are read where they are called. Definitions only. -/
import Derived.Test.YtkifmnocomadfaaGVe
noncomputable section
namespace Go.V

inductive Cst where
  | ptr (i off : Nat)
  | fn (f : FuncId) (ps : List (Nat × Nat))

def Cst.cl : Cst → Cl
  | .ptr i off => .ptr (.box i off)
  | .fn f ps => .fn f (ps.map fun p => .box p.1 p.2)

def ptrsB : List Ptr → List (Nat × Nat) → Bool
  | [], [] => true
  | .box i off :: r, (j, o) :: s => Nat.beq i j && (Nat.beq off o && ptrsB r s)
  | _, _ => false

def Cst.is : Cst → Cl → Bool
  | .ptr i off, .ptr (.box j o) => Nat.beq j i && Nat.beq o off
  | .fn f ps, .fn k qs => Nat.beq k f && ptrsB qs ps
  | _, _ => false

def Cst.boxes : Cst → List Nat
  | .ptr i _ => [i]
  | .fn _ ps => ps.map (·.1)

inductive XItem where
  | tm (t : Nat) (ty : Ty)
  | bx (i off : Nat) (ty : Ty)
  | cst (t : Nat) (c : Cst)
  | bxc (i off : Nat) (c : Cst)
  | ownT (t : Nat) (e : TypeId) (ty : Ty)
  | ownB (i off : Nat) (e : TypeId) (ty : Ty)
  | same (t k : Nat)
  | sameB (i off k : Nat)
  | subT (t k : Nat)

def XItem.ty : XItem → Ty
  | .tm _ ty => ty
  | .bx _ _ ty => ty
  | .ownT _ e ty => .sl e ty
  | .ownB _ _ e ty => .sl e ty
  | .subT _ _ => .pair (.int .i64) (.int .i64)
  | _ => .unit

def tyX : List XItem → Ty
  | [] => .unit
  | x :: r => .pair x.ty (tyX r)

structure XShape where
  items : List XItem
  boxes : List (Option TypeId)
  n : Nat
  all : Nat

abbrev XShape.D (s : XShape) : Type := (tyX s.items).den

def setTm (σ : St) (t : Nat) (p : PV) : St := { tm := σ.tm.set t p, bx := σ.bx, ar := σ.ar, n := σ.n }

def bareX (E : Env) (s : XShape) : St :=
  { tm := List.replicate s.all .junk, bx := s.boxes.map fun | some t => (t, List.replicate (match look E.ty t with | some ty => ty.size | none => 1) .junk) | none => (0, []), ar := [], n := s.n }

def fillX : (l : List XItem) → (tyX l).den → St → St
  | [], _, σ => σ
  | .tm t ty :: r, x, σ => fillX r x.2 (setTm σ t (pvOf ty x.1))
  | .bx i off ty :: r, x, σ => fillX r x.2 (setBox σ i off (flat ty x.1))
  | .cst t c :: r, x, σ => fillX r x.2 (setTm σ t (.one c.cl))
  | .bxc i off c :: r, x, σ => fillX r x.2 (setBox σ i off [c.cl])
  | .ownT t e ty :: r, x, σ => fillX r x.2 (setTm { tm := σ.tm, bx := σ.bx, ar := σ.ar ++ [{ e, t := ty, xs := x.1, live := true }], n := σ.n } t (.one (.own σ.ar.length)))
  | .ownB i off e ty :: r, x, σ => fillX r x.2 (setBox { tm := σ.tm, bx := σ.bx, ar := σ.ar ++ [{ e, t := ty, xs := x.1, live := true }], n := σ.n } i off [.own σ.ar.length])
  | .same t k :: r, x, σ => fillX r x.2 (setTm σ t (.one (.own k)))
  | .sameB i off k :: r, x, σ => fillX r x.2 (setBox σ i off [.own k])
  | .subT t k :: r, x, σ => fillX r x.2 (setTm σ t (.one (.sub k x.1.1 x.1.2)))

def injectX (E : Env) (s : XShape) (x : s.D) : St := fillX s.items x (bareX E s)

def nameOf : Cl → Option Nat
  | .own j => some j
  | _ => none

def sameRow (S : List (Option Nat)) (k : Nat) (c : Cl) : Bool := match S[k]?, c with
  | some (some j), .own j' => Nat.beq j' j
  | some none, .nil _ _ => true
  | _, _ => false

def takeXO : (l : List XItem) → St → List Nat → List (Option Nat) → Option (tyX l).den
  | [], _, _, _ => some ()
  | .ownT t e ty :: r, σ, T, S => match σ.raw t with
    | .one c => match takeOwn σ T c e ty with
      | some (xs, T') => match takeXO r σ T' (S ++ [nameOf c]) with
        | some y => some (xs, y)
        | none => none
      | none => none
    | _ => none
  | .ownB i off e ty :: r, σ, T, S => match σ.bx[i]? with
    | some (_, cs) => match takeOwn σ T (cs.getD off .junk) e ty with
      | some (xs, T') => match takeXO r σ T' (S ++ [nameOf (cs.getD off .junk)]) with
        | some y => some (xs, y)
        | none => none
      | none => none
    | none => none
  | .same t k :: r, σ, T, S => match σ.raw t with
    | .one c => if sameRow S k c then match takeXO r σ T S with
        | some y => some ((), y)
        | none => none
      else none
    | _ => none
  | .sameB i off k :: r, σ, T, S => match σ.bx[i]? with
    | some (_, cs) => if sameRow S k (cs.getD off .junk) then match takeXO r σ T S with
        | some y => some ((), y)
        | none => none
      else none
    | none => none
  | .subT t k :: r, σ, T, S => match σ.raw t, S[k]? with
    | .one (.sub j lo hi), some (some j') => if Nat.beq j j' then match takeXO r σ T S with
        | some y => some ((lo, hi), y)
        | none => none
      else none
    | _, _ => none
  | _ :: _, _, _, _ => none

def keptB (bs : List (Option TypeId)) (i : Nat) : Bool := match bs[i]? with
  | some (some _) => true
  | _ => false

def takeX (bs : List (Option TypeId)) : (l : List XItem) → St → Option (tyX l).den
  | [], _ => some ()
  | .tm t ty :: r, σ => match unflat ty ((σ.raw t).cells.map (asRow σ)) with
    | some (x, []) => if (σ.raw t).ok && ((σ.raw t).isAgg == ty.agg) then match takeX bs r ((σ.raw t).cells.foldl freezeJ σ) with
      | some y => some (x, y)
      | none => none
      else none
    | _ => none
  | .bx i off ty :: r, σ => match σ.bx[i]? with
    | some (_, cs) => match unflat ty ((((cs.drop off).take ty.size)).map (asRow σ)) with
      | some (x, []) => match takeX bs r (((cs.drop off).take ty.size).foldl freezeJ σ) with
        | some y => some (x, y)
        | none => none
      | _ => none
    | none => none
  | .cst t c :: r, σ => match σ.raw t with
    | .one d => if c.is d && c.boxes.all (keptB bs) then match takeX bs r σ with
        | some y => some ((), y)
        | none => none
      else none
    | _ => none
  | .bxc i off c :: r, σ => match σ.bx[i]? with
    | some (_, cs) => if c.is (cs.getD off .junk) && c.boxes.all (keptB bs) then match takeX bs r σ with
        | some y => some ((), y)
        | none => none
      else none
    | none => none
  | l, σ => takeXO l σ [] []

def boxesFitX (E : Env) : List (Option TypeId) → List (TypeId × List Cl) → Bool
  | [], _ => true
  | some t :: r, (t', cs) :: r' => t == t' && (cs.length == (match look E.ty t with | some ty => ty.size | none => 1) && boxesFitX E r r')
  | none :: r, _ :: r' => boxesFitX E r r'
  | _ :: _, [] => false

def extractX (E : Env) (s : XShape) (σ : St) : Option s.D := if Nat.beq s.n σ.n && boxesFitX E s.boxes σ.bx then takeX s.boxes s.items σ else none

structure Fr where
  f : Nat
  i : Nat
  p : Nat

def frB (a b : Fr) : Bool := Nat.beq a.f b.f && (Nat.beq a.i b.i && Nat.beq a.p b.p)

def frsB : List Fr → List Fr → Bool
  | [], [] => true
  | a :: r, b :: s => frB a b && frsB r s
  | _, _ => false

abbrev Pos := Nat × List Fr

def posB (a b : Pos) : Bool := Nat.beq a.1 b.1 && frsB a.2 b.2

def lookP {α : Type} (l : List (Pos × α)) (k : Pos) : Option α := match l with
  | [] => none
  | (j, a) :: r => cond (posB j k) (some a) (lookP r k)

variable {R : Type}

structure XMark (R : Type) where
  ins : XShape
  outs : XShape
  rets : XShape
  ex : Option Nat
  top : Bool
  rt : Bool
  f : Nat → Nat → ins.D → (outs.D → Option R) → (rets.D → Option R) → Option R

def XMark.back (m : XMark R) (E : Env) (F : St → Option R) : m.rets.D → Option R := match m.rt with
  | true => fun y => F (injectX E m.rets y)
  | false => fun _ => none

structure Flt where
  y : Nat
  d : Nat
  a : Nat
  i : Nat
  k : Nat
  o : Nat
  t : Nat

structure Seg where
  pre : List Nat
  x : Nat
  fl : Option Flt

structure XCtx (R : Type) where
  E : Env
  cut : List TypeId
  grow : List (FuncId × TypeId)
  marks : List (Pos × XMark R)
  bars : List (Pos × List Seg × List Nat)
  fin : St → Option R
  N : Nat
  D : Nat
  root : Code

abbrev Caller (R : Type) := FuncId → Func → List PV → Option Tmp → St → (St → Option R) → Option R

def growX (C : XCtx R) (o : Oper) (t : TypeId) (args : List PV) (σ : St) (K : St → Option R) : Option R := match look C.E.ty t, args with
  | some (.sl e ty), [.one (.nil e' ty'), .one (.int .i64 n)] => if e' = e ∧ ty' = ty then if 0 < n then if n.toNat ≤ lim C.E e then
      K (({ tm := σ.tm, bx := σ.bx, ar := σ.ar ++ [{ e, t := ty, xs := [], live := true }], n := σ.n } : St).put o.dst (.one (.own σ.ar.length))) else none
      else if n = 0 then K (σ.put o.dst (.one (.nil e ty))) else none else none
  | _, _ => none

def subX (C : XCtx R) (o : Oper) (t : TypeId) (x : Operand) (lo hi mx : Option Operand) (σ : St) (K : St → Option R) : Option R := match opv C.E σ o.type x, lo, hi, mx with
  | .one (.own j), some l, none, none => match σ.ar[j]?, look C.E.ty t, opv C.E σ o.type l with
    | some a, some (.sl e ty), .one (.int _ l) => if a.e = e ∧ a.t = ty then if 0 ≤ l then if l < (a.xs.length : Int) then K (σ.put o.dst (.one (.sub j l a.xs.length))) else none else none else none
    | _, _, _ => none
  | _, _, _, _ => evOp C.E o σ K

def clearX (C : XCtx R) (o : Oper) (t : TypeId) (x : PV) (σ : St) (K : St → Option R) : Option R := match x with
  | .one (.sub j lo hi) => match σ.ar[j]?, look C.E.ty t with
    | some a, some (.sl e ty) => if a.live = true ∧ a.e = e ∧ a.t = ty then
        K (({ tm := σ.tm, bx := σ.bx, ar := σ.ar.set j { a with xs := a.xs.take lo.toNat ++ List.replicate (hi.toNat - lo.toNat) a.t.zero ++ a.xs.drop hi.toNat }, n := σ.n } : St).put o.dst (.tup [])) else none
    | _, _ => none
  | _ => none

def evX (C : XCtx R) (call : Caller R) (o : Oper) (σ : St) (K : St → Option R) : Option R := match o.op with
  | .call c => match c.callee with
    | .value g => match opv C.E σ o.type g with
      | .one (.clo f t y) => match look C.E.inl f with
        | some fn => if c.args.size = c.argTypes.size then call f fn (((c.args.toList.zip c.argTypes.toList).map fun (x, t) => opv C.E σ t x) ++ (flat t y).map PV.one) o.dst σ K else none
        | none => match look C.grow f with
          | some t' => if c.args.size = c.argTypes.size ∧ t = .unit then growX C o t' ((c.args.toList.zip c.argTypes.toList).map fun (x, t) => opv C.E σ t x) σ K else none
          | none => evOp C.E o σ K
      | .one (.fn f ps) => match look C.E.inl f with
        | some fn => if c.args.size = c.argTypes.size then call f fn (((c.args.toList.zip c.argTypes.toList).map fun (x, t) => opv C.E σ t x) ++ ps.map fun p => .one (.ptr p)) o.dst σ K else none
        | none => none
      | _ => none
    | .builtin .len => match c.args.toList with
      | [x] => match opv C.E σ o.type x with
        | .one (.sub _ lo hi) => match c.argTypes.toList with
          | [t] => match look C.E.ty t with
            | some (.sl _ _) => K (σ.put o.dst (.one (.int .i64 (hi - lo))))
            | _ => none
          | _ => none
        | _ => evOp C.E o σ K
      | _ => evOp C.E o σ K
    | .builtin .clear => match c.args.toList, c.argTypes.toList with
      | [x], [t] => clearX C o t (opv C.E σ o.type x) σ K
      | _, _ => none
    | _ => evOp C.E o σ K
  | .makeFunc fn bd fr => match fn, bd.toList with
    | .func f, [] => match look C.E.inl f with
      | some _ => evOp C.E o σ K
      | none => evMk C.E o f fr.toList σ K
    | _, _ => none
  | .slice t x lo hi mx => cond (C.cut.contains t) (subX C o t x lo hi mx σ K) (evOp C.E o σ K)
  | _ => evOp C.E o σ K

def evXs (C : XCtx R) (call : Nat → Caller R) (ops : Array Oper) : Nat → List Oper → St → (St → Option R) → Option R
  | _, [], σ, K => K σ
  | i, o :: rest, σ, K => match o.guard with
    | none => evX C (call i) o σ fun σ' => evXs C call ops (i + 1) rest σ' K
    | some (j, want) => match (ops[j]?).bind (·.dst) with
      | none => none
      | some t => match σ.get t with
        | .one (.bool b) =>
          match want with
          | true => cond b (evX C (call i) o (setLit σ t true) fun σ' => evXs C call ops (i + 1) rest σ' K) (evXs C call ops (i + 1) rest ((setLit σ t false).put o.dst .skip) K)
          | false => cond b (evXs C call ops (i + 1) rest ((setLit σ t true).put o.dst .skip) K) (evX C (call i) o (setLit σ t false) fun σ' => evXs C call ops (i + 1) rest σ' K)
        | .skip => evXs C call ops (i + 1) rest (σ.put o.dst .skip) K
        | _ => none

def fltB (f : Flt) (σ : St) : Bool := match σ.get f.a, σ.bx[f.i]?, σ.get f.t, σ.raw f.d with
  | .one (.ptr (.box i 0)), some (_, [.ptr (.box k o)]), .one (.ptr (.box k' o')), .one .junk => Nat.beq i f.i && (Nat.beq k f.k && (Nat.beq o f.o && (Nat.beq k' f.k && (Nat.beq o' f.o && (Nat.blt f.d σ.n && Nat.blt f.d σ.tm.length)))))
  | _, _, _, _ => false

def fltO (f : Option Flt) (σ : St) : Bool := match f with
  | some f => fltB f σ
  | none => true

def quietOp (o : Oper) : Bool := match o.op with
  | .call _ | .alloc _ | .store _ _ _ => false
  | _ => true

def dstNot (o : Oper) (l : List Nat) : Bool := match o.dst with
  | some d => l.all fun x => !Nat.beq d x
  | none => true

def fltOp (E : Env) (ops : Array Oper) (pre : List Nat) (x : Nat) (f : Flt) : Bool := (match ops[f.y]? with
  | some o => (match o.op with
    | .load t (.tmp a) => Nat.beq a f.a && (match look E.ty t with | some ty => Nat.beq ty.size 1 && !ty.agg | none => false)
    | _ => false) && (match o.dst with | some d => Nat.beq d f.d | none => false) && o.guard.isNone
  | none => false) && (!Nat.beq f.d f.t && !Nat.beq f.d f.a) && (pre.all fun i => match ops[i]? with
  | some o => quietOp o && dstNot o [f.d, f.a, f.t]
  | none => false) && (match ops[x]? with
  | some o => dstNot o [f.d, f.a, f.t]
  | none => false)

def hasPred (ops : Array Oper) (j i : Nat) : Bool := match ops[j]? with
  | some o => (preds2 ops o).contains i
  | none => false

def segsNext (ss : List Seg) (last : List Nat) : List Nat := match ss with
  | s :: _ => s.pre
  | [] => last

def segsAll : List Seg → List Nat → List Nat
  | [], last => last
  | s :: ss, last => s.pre ++ s.x :: segsAll ss last

def sortedB : List Nat → Bool
  | [] => true
  | i :: r => (r.all fun j => Nat.blt i j) && sortedB r

def plainOps (ops : Array Oper) (l : List Nat) : Bool := l.all fun i => match ops[i]? with
  | some o => !isAlloc o
  | none => false

def segsB (E : Env) (ops : Array Oper) : List Seg → List Nat → Bool
  | [], last => sortedB last && plainOps ops last
  | s :: ss, last => sortedB s.pre && plainOps ops s.pre && (s.pre.all fun i => hasPred ops s.x i) && ((segsAll ss last).all fun j => hasPred ops j s.x || (match s.fl with | some f => Nat.beq f.y j | none => false)) &&
    (match s.fl with | some f => fltOp E ops s.pre s.x f && (segsNext ss last).contains f.y | none => true) && segsB E ops ss last

def nodupB : List Nat → Bool
  | [] => true
  | i :: r => (r.all fun j => !Nat.beq i j) && nodupB r

def barB (E : Env) (ops : Array Oper) (ss : List Seg) (last : List Nat) : Bool :=
  drawB ops && (segsB E ops ss last && (nodupB (segsAll ss last) && ((segsAll ss last).all (fun i => Nat.blt i ops.size) && Nat.beq (segsAll ss last).length ops.size)))

def entry (ops : Array Oper) (i : Nat) : List (Nat × Nat × Oper) := match ops[i]? with
  | some o => [(i, 0, o)]
  | none => []

def evSegs (C : XCtx R) (call : Nat → Caller R) (ops : Array Oper) : List Seg → List Nat → St → (St → Option R) → Option R
  | [], last, σ, K => evD C.E ops (last.flatMap (entry ops)) [] σ K
  | s :: ss, last, σ, K => cond (fltO s.fl σ) (evD C.E ops (s.pre.flatMap (entry ops)) [] σ fun σ1 => match ops[s.x]? with
    | some o => match o.guard with
      | none => evX C (call s.x) o σ1 fun σ2 => cond (fltO s.fl σ2) (evSegs C call ops ss last σ2 K) none
      | some _ => none
    | none => none) none

def evS (C : XCtx R) (call : List Fr → Caller R) (ctx : List Fr) (p : Nat) : Code → St → (Option Nat → St → Option R) → (St → Option R) → Option R
  | .skip, σ, K, _ => K none σ
  | .label _, σ, K, _ => K none σ
  | .region _ ops draw, σ, K, _ => match draw with
    | false => evXs C (fun i f => call ({ f, i, p } :: ctx) f) ops 0 ops.toList σ (K none)
    | true => match lookP C.bars (p, ctx) with
      | some b => cond (barB C.E ops b.1 b.2) (evSegs C (fun i f => call ({ f, i, p } :: ctx) f) ops b.1 b.2 σ (K none)) none
      | none => if drawB ops then evDraw C.E ops σ (K none) else none
  | .seq a b, σ, K, F => evS C call ctx (2 * p) a σ (fun e σ' => match e with
    | none => match lookP C.marks (2 * p + 1, ctx) with
      | some m => match extractX C.E m.ins σ' with
        | some x => m.f C.N 0 x (fun y => K m.ex (injectX C.E m.outs y)) (m.back C.E F)
        | none => none
      | none => evS C call ctx (2 * p + 1) b σ' K F
    | some i => K (some i) σ') F
  | .cond c x y, σ, K, F => match opv C.E σ 0 c with
    | .one (.bool b) => cond b (evS C call ctx (2 * p) x σ K F) (evS C call ctx (2 * p + 1) y σ K F)
    | _ => none
  | .block id body, σ, K, F => evS C call ctx (2 * p) body σ (fun e σ' => match e with
    | some i => if i = id then K none σ' else K (some i) σ'
    | none => K none σ') F
  | .loop _, σ, K, F => match lookP C.marks (2 * p, ctx) with
    | some m => match extractX C.E m.ins σ with
      | some x => m.f C.N C.N x (fun y => K m.ex (injectX C.E m.outs y)) (m.back C.E F)
      | none => none
    | none => none
  | .exit id, σ, K, _ => K (some id) σ
  | .ret, σ, _, F => F σ
  | _, _, _, _ => none

def packPV (pvs : List PV) : Option PV := match pvs with
  | [] => some .junk
  | [p] => some p
  | pvs => if pvs.all PV.ok then some (.tup (pvs.map fun p => (p.isAgg, p.cells))) else none

def evIn (E : Env) (ev : Code → St → (Option Nat → St → Option R) → (St → Option R) → Option R) (fn : Func) (args : List PV) (d : Option Tmp) (σ : St) (K : St → Option R) : Option R := match fn.body with
  | some c =>
    let F (σ' : St) : Option R := match gather E σ' fn.results.toList with
      | some pvs => match packPV pvs with
        | some p => K ((σ'.pop σ.n).put d p)
        | none => none
      | none => none
    ev c { tm := args ++ List.replicate (fn.ntmps - args.length) .junk ++ σ.tm, bx := σ.bx, ar := σ.ar, n := args.length + (fn.ntmps - args.length) } (fun e σ' => match e with
      | none => F σ'
      | some _ => none) F
  | none => none

def evCall (C : XCtx R) : Nat → List Fr → Caller R
  | 0, _ => fun _ _ _ _ _ _ => none
  | d + 1, ctx => fun _ fn args dst σ K => evIn C.E (fun c => evS C (evCall C d) ctx 1 c) fn args dst σ K

def evRoot (C : XCtx R) (fn : Func) (σ : St) : Option R := match fn.body with
  | some c => evS C (evCall C C.D) [] 1 c σ (fun e σ' => match e with
    | none => C.fin σ'
    | some _ => none) C.fin
  | none => none

end Go.V

/- What is carried from round to round, with rows under several names and variables that are told by the text. -/
namespace Go.V
open Go.RowKit

variable {P : Program} {E : Env} {w0 : Org} {g g' : Gh} {σ τ : St} {a : Act} {w : World}

theorem Rel.knowRaw (h : Rel w0 g σ a w) {t : Nat} {p : PV} (hp : RelPV g w p ((a.tmps.toList ++ w0.out).getD t undef)) : Rel w0 g (setTm σ t p) a w := by
  refine ⟨h.base, h.below, h.lt, fun k => ?_, h.tmn, h.dfr, h.bxn, h.bx, h.nodup, h.arn, h.ar, h.apart, h.oth⟩
  by_cases hk : t = k
  · subst hk
    by_cases hl : t < σ.tm.length
    · have : (setTm σ t p).raw t = p := by simp [setTm, St.raw, hl]
      rw [this]; exact hp
    · have : (setTm σ t p).raw t = σ.raw t := by simp [setTm, St.raw, hl]
      rw [this]; exact h.tm t
  · have : (setTm σ t p).raw k = σ.raw k := by simp [setTm, St.raw, List.getElem?_set_ne hk]
    rw [this]; exact h.tm k

theorem fillBoxX {h : Gh} (hσ : Rel w0 g σ a w) (hτ : Rel w0 h τ a w) (hβ : ∀ i b : Nat, h.β[i]? = some (some b) → g.β[i]? = some (some b)) {i off : Nat} {t : TypeId} {cs c : List Cl} (hi : σ.bx[i]? = some (t, cs))
    (hc : ∀ b vs, g.β[i]? = some (some b) → w.heap[b]? = some (.cells vs t (0, 0)) → RelCls g w cs vs.toList → ∃ us, RelCls h w c us ∧ us = (vs.toList.drop off).take us.length) : Rel w0 h (setBox τ i off c) a w := by
  unfold setBox
  split
  · rename_i t' old ho
    refine hτ.knowBox ho fun b vs h1 h2 h3 => ?_
    have hg := hβ i b h1
    obtain ⟨b', vs', h4, h5, h6, _⟩ := hσ.bx i t cs hi (by rw [hg]; simp)
    rw [hg] at h4
    cases h4
    rw [h2] at h5
    cases h5
    obtain ⟨us, h7, h8⟩ := hc b vs hg h2 h6
    exact h3.over h7 h8
  · exact hτ

theorem fillCell {h : Gh} (hσ : Rel w0 g σ a w) (hτ : Rel w0 h τ a w) (hβ : ∀ i b : Nat, h.β[i]? = some (some b) → g.β[i]? = some (some b)) {i off : Nat} {t : TypeId} {cs : List Cl} {c : Cl} (hi : σ.bx[i]? = some (t, cs)) (hj : cs.getD off .junk ≠ .junk)
    (hc : ∀ v, RelCl g w (cs.getD off .junk) v → RelCl h w c v) : Rel w0 h (setBox τ i off [c]) a w := by
  refine fillBoxX hσ hτ hβ hi fun b vs h1 h2 h3 => ?_
  have hlt : off < cs.length := by
    rcases Nat.lt_or_ge off cs.length with h' | h'
    · exact h'
    · exact absurd (by simp [List.getElem?_eq_none h']) hj
  obtain ⟨v, h4, h5⟩ := h3.get off (cs.getD off .junk) (by simp [hlt])
  refine ⟨[v], ⟨v, [], rfl, hc v h5, rfl⟩, ?_⟩
  obtain ⟨hl, h6⟩ := List.getElem?_eq_some_iff.1 h4
  rw [List.drop_eq_getElem_cons hl, h6]
  rfl

theorem ptrsB_eq : ∀ {qs : List Ptr} {ps : List (Nat × Nat)}, ptrsB qs ps = true → qs = ps.map fun p => .box p.1 p.2
  | [], [], _ => rfl
  | .box i off :: r, (j, o) :: s, h => by
    simp only [ptrsB, Bool.and_eq_true, Nat.beq_eq] at h
    obtain ⟨rfl, rfl, h⟩ := h
    rw [ptrsB_eq h]
    rfl
  | [], _ :: _, h => by simp [ptrsB] at h
  | .box _ _ :: _, [], h => by simp [ptrsB] at h
  | .el _ _ _ :: _, _, h => by simp [ptrsB] at h
  | .ro _ _ _ :: _, _, h => by simp [ptrsB] at h

theorem Cst.is_eq {c : Cst} {d : Cl} (h : c.is d = true) : d = c.cl := by
  unfold Cst.is at h
  split at h
  · simp only [Bool.and_eq_true, Nat.beq_eq] at h
    obtain ⟨rfl, rfl⟩ := h
    rfl
  · simp only [Bool.and_eq_true, Nat.beq_eq] at h
    obtain ⟨rfl, h⟩ := h
    simp only [Cst.cl, ptrsB_eq h]
  · cases h

theorem Cst.rel {h : Gh} {c : Cst} {v : Value} (hk : ∀ i ∈ c.boxes, ∀ b, g.β[i]? = some (some b) → h.β[i]? = some (some b)) (hc : RelCl g w c.cl v) : RelCl h w c.cl v := by
  cases c with
  | ptr i off =>
    obtain ⟨b, h1, h2⟩ := hc
    exact ⟨b, hk i (by simp [Cst.boxes]) b h1, h2⟩
  | fn f ps =>
    obtain ⟨us, h1, h2⟩ := hc
    refine ⟨us, h1, RelPtrs.imp (fun p hp u hu => ?_) h2⟩
    obtain ⟨q, hq, rfl⟩ := List.mem_map.1 hp
    obtain ⟨b, h3, h4⟩ := hu
    exact ⟨b, hk q.1 (by simp only [Cst.boxes]; exact List.mem_map.2 ⟨q, hq, rfl⟩) b h3, h4⟩

theorem Cst.ne_junk (c : Cst) : c.cl ≠ .junk := by cases c <;> simp [Cst.cl]

theorem keptB_some {bs : List (Option TypeId)} {i : Nat} (h : keptB bs i = true) : ∃ t, bs[i]? = some (some t) := by
  unfold keptB at h
  split at h
  · rename_i t ht; exact ⟨t, ht⟩
  · cases h

theorem boxesFitX_get : ∀ (ts : List (Option TypeId)) (bx : List (TypeId × List Cl)), boxesFitX E ts bx = true → ts.length ≤ bx.length ∧ ∀ (i : Nat) (t : TypeId), ts[i]? = some (some t) → ∃ cs, bx[i]? = some (t, cs) ∧ cs.length = (match look E.ty t with | some ty => ty.size | none => 1)
  | [], bx, _ => ⟨Nat.zero_le _, fun i t h => by simp at h⟩
  | some _ :: _, [], h => by simp [boxesFitX] at h
  | none :: _, [], h => by simp [boxesFitX] at h
  | some t :: ts, (t', cs) :: bx, h => by
    simp only [boxesFitX, Bool.and_eq_true, beq_iff_eq] at h
    obtain ⟨rfl, h2, h3⟩ := h
    obtain ⟨i1, i2⟩ := boxesFitX_get ts bx h3
    refine ⟨by simpa using i1, fun i u hu => ?_⟩
    cases i with
    | zero =>
      simp only [List.getElem?_cons_zero, Option.some.injEq] at hu
      subst hu
      exact ⟨cs, rfl, h2⟩
    | succ i => simpa using i2 i u (by simpa using hu)
  | none :: ts, (t', cs) :: bx, h => by
    simp only [boxesFitX] at h
    obtain ⟨i1, i2⟩ := boxesFitX_get ts bx h
    refine ⟨by simpa using i1, fun i u hu => ?_⟩
    cases i with
    | zero => simp at hu
    | succ i => simpa using i2 i u (by simpa using hu)

def keepβ (bs : List (Option TypeId)) (β : List (Option Nat)) : List (Option Nat) := (β.take bs.length).mapIdx fun i b => if keptB bs i = true then b else none

theorem keepβ_get {bs : List (Option TypeId)} {β : List (Option Nat)} {i b : Nat} : (keepβ bs β)[i]? = some (some b) ↔ keptB bs i = true ∧ β[i]? = some (some b) := by
  have e : (keepβ bs β)[i]? = ((β.take bs.length)[i]?).map fun b => if keptB bs i = true then b else none := by
    unfold keepβ
    rw [List.getElem?_mapIdx]
  rw [e, List.getElem?_take]
  constructor
  · intro h
    obtain ⟨x, h1, h2⟩ := Option.map_eq_some_iff.1 h
    split at h1
    · split at h2
      · rename_i hk
        subst h2
        exact ⟨hk, h1⟩
      · cases h2
    · cases h1
  · rintro ⟨hk, hb⟩
    obtain ⟨t, ht⟩ := keptB_some hk
    rw [if_pos (List.getElem?_eq_some_iff.1 ht).1, hb]
    simp [hk]

theorem bareX_rel (h : Rel w0 g σ a w) {s : XShape} (hn : s.n = σ.n) (hb : boxesFitX E s.boxes σ.bx = true) : Rel w0 { base := g.base, β := keepβ s.boxes g.β, α := [], Fr := g.Fr } (bareX E s) a w := by
  obtain ⟨b1, b2⟩ := boxesFitX_get s.boxes σ.bx hb
  refine ⟨h.base, h.below, h.lt, fun t => ?_, hn.trans h.tmn, h.dfr, ?_, ?_, ?_, rfl, ?_, ?_, h.oth⟩
  · have : (bareX E s).raw t = .junk := by
      simp only [bareX, St.raw]
      by_cases ht : t < s.all
      · simp [ht]
      · simp [ht]
    rw [this]
    exact .inl rfl
  · simp only [bareX, keepβ, List.length_map, List.length_mapIdx, List.length_take]
    rw [← h.bxn]
    omega
  · intro i t cs hi hh
    simp only [bareX, List.getElem?_map, Option.map_eq_some_iff] at hi
    obtain ⟨t', ht, he⟩ := hi
    have hlt : i < s.boxes.length := (List.getElem?_eq_some_iff.1 ht).1
    cases t' with
    | none =>
      exfalso
      apply hh
      have : keptB s.boxes i = false := by simp [keptB, ht]
      simp only [keepβ, List.getElem?_mapIdx, List.getElem?_take, if_pos hlt]
      have hi2 : i < g.β.length := by rw [← h.bxn]; omega
      simp [hi2, this]
    | some t' =>
      simp only [Prod.mk.injEq] at he
      obtain ⟨rfl, rfl⟩ := he
      obtain ⟨cs', h1, h2⟩ := b2 i t' ht
      have hk : keptB s.boxes i = true := by simp [keptB, ht]
      by_cases hg : g.β[i]? = some none
      · exfalso
        apply hh
        simp [keepβ, List.getElem?_mapIdx, hlt, hg]
      · obtain ⟨b, vs, h3, h4, h5, h6, h7⟩ := h.bx i t' cs' h1 hg
        refine ⟨b, vs, keepβ_get.2 ⟨hk, h3⟩, h4, ?_, h6, h7⟩
        have hl := h5.length
        have := RelCls.junks (g := { base := g.base, β := keepβ s.boxes g.β, α := [], Fr := g.Fr }) (w := w) h5.oneCell
        rw [hl, h2] at this
        exact this
  · intro i k b hi hk
    exact h.nodup i k b (keepβ_get.1 hi).2 (keepβ_get.1 hk).2
  · intro j A hA
    simp [bareX] at hA
  · intro j k A B v u s s' b _ hA
    simp [bareX] at hA

theorem takeOwn_name {T T' : List Nat} {c : Cl} {e : TypeId} {ty : Ty} {xs : List ty.den} (ht : takeOwn σ T c e ty = some (xs, T')) : (∃ j A, c = .own j ∧ σ.ar[j]? = some A ∧ A.t = ty) ∨ ∃ e t, c = .nil e t := by
  unfold takeOwn at ht
  split at ht
  · exact .inr ⟨_, _, rfl⟩
  · rename_i j
    split at ht
    · rename_i A hA
      split at ht
      · rename_i hh; exact .inl ⟨j, A, rfl, hA, hh.2.2.1⟩
      · cases ht
    · cases ht
  · cases ht

def Names (g h : Gh) (S : List (Option Nat)) : Prop := ∀ (k : Nat) (o : Option Nat), S[k]? = some o → ∃ v s, h.α[k]? = some (v, s) ∧ v.oneCell' = true ∧ match o with | some j => g.α[j]? = some (v, s) | none => v = .slice none 0 0

theorem Names.more {h h' : Gh} {S : List (Option Nat)} (hσ : Rel w0 g σ a w) (hS : Names g h S) (hl : S.length = h.α.length) {T T' : List Nat} {c : Cl} {e : TypeId} {ty : Ty} {xs : List ty.den} {v : Value} (hc : RelCl g w c v) (ht : takeOwn σ T c e ty = some (xs, T')) (he : h'.α = h.α ++ [(v, ty.size)]) : Names g h' (S ++ [nameOf c]) := by
  intro k o hk
  rw [he]
  rw [List.getElem?_append] at hk
  split at hk
  · rename_i hlt
    obtain ⟨u, s, h1, h2⟩ := hS k o hk
    exact ⟨u, s, by rw [List.getElem?_append_left (by rw [← hl]; exact hlt)]; exact h1, h2⟩
  · rename_i hge
    have hk0 : k = S.length := by
      rcases Nat.eq_zero_or_pos (k - S.length) with h' | h'
      · omega
      · rw [List.getElem?_eq_none (by simp; omega)] at hk; cases hk
    subst hk0
    simp at hk
    subst hk
    refine ⟨v, ty.size, by rw [hl]; simp, hc.oneCell, ?_⟩
    rcases takeOwn_name ht with ⟨j, A, rfl, hA, rfl⟩ | ⟨e', t', rfl⟩
    · obtain ⟨s, h1, h2⟩ := hc
      obtain ⟨v', h3, h4⟩ := hσ.ar j A hA
      rw [h1] at h3
      cases h3
      exact h1
    · exact hc

theorem sameRow_rel {h : Gh} {S : List (Option Nat)} (hS : Names g h S) {k : Nat} {c : Cl} (hs : sameRow S k c = true) : c ≠ .junk ∧ ∀ v, RelCl g w c v → RelCl h w (.own k) v := by
  unfold sameRow at hs
  split at hs
  · rename_i j j' hk
    simp only [Nat.beq_eq] at hs
    subst hs
    obtain ⟨u, s, h1, h2, h3⟩ := hS k _ hk
    refine ⟨by simp, fun v hv => ?_⟩
    obtain ⟨s', h4, h5⟩ := hv
    rw [h3] at h4
    cases h4
    exact ⟨s, h1, h2⟩
  · rename_i e t hk
    obtain ⟨u, s, h1, h2, h3⟩ := hS k _ hk
    refine ⟨by simp, fun v hv => ?_⟩
    have hv : v = .slice none 0 0 := hv
    rw [hv, ← h3]
    exact ⟨s, h1, h2⟩
  · cases hs

theorem takeXO_rel (hσ : Rel w0 g σ a w) : ∀ (l : List XItem) {h : Gh} {τ : St} (T : List Nat) (S : List (Option Nat)) (x : (tyX l).den), Rel w0 h τ a w → h.base = g.base → h.Fr = g.Fr → (∀ i b : Nat, h.β[i]? = some (some b) → g.β[i]? = some (some b)) → Taken g h σ τ T → Names g h S → S.length = τ.ar.length →
    takeXO l σ T S = some x → ∃ h' : Gh, Rel w0 h' (fillX l x τ) a w ∧ h'.base = g.base
  | [], h, τ, T, S, x, hτ, hb, _, _, _, _, _, _ => ⟨h, hτ, hb⟩
  | .tm t ty :: r, h, τ, T, S, x, hτ, hb, hF, hβ, hT, hS, hSl, ht => by simp [takeXO] at ht
  | .bx i off ty :: r, h, τ, T, S, x, hτ, hb, hF, hβ, hT, hS, hSl, ht => by simp [takeXO] at ht
  | .cst t c :: r, h, τ, T, S, x, hτ, hb, hF, hβ, hT, hS, hSl, ht => by simp [takeXO] at ht
  | .bxc i off c :: r, h, τ, T, S, x, hτ, hb, hF, hβ, hT, hS, hSl, ht => by simp [takeXO] at ht
  | .same t k :: r, h, τ, T, S, x, hτ, hb, hF, hβ, hT, hS, hSl, ht => by
    simp only [takeXO] at ht
    split at ht
    · rename_i c hc
      split at ht
      · rename_i hs
        split at ht
        · rename_i y hy
          cases ht
          obtain ⟨k1, k2⟩ := sameRow_rel (w := w) hS hs
          have hv := hσ.tm t
          rw [hc] at hv
          have hv := k2 _ (hv.elim (fun e => absurd e k1) id)
          exact takeXO_rel hσ r T S y (hτ.knowRaw (.inr hv)) hb hF hβ hT hS hSl hy
        · cases ht
      · cases ht
    · cases ht
  | .sameB i off k :: r, h, τ, T, S, x, hτ, hb, hF, hβ, hT, hS, hSl, ht => by
    simp only [takeXO] at ht
    split at ht
    · rename_i t cs hi
      split at ht
      · rename_i hs
        split at ht
        · rename_i y hy
          cases ht
          obtain ⟨k1, k2⟩ := sameRow_rel (w := w) hS hs
          refine takeXO_rel hσ r T S y (fillCell hσ hτ hβ hi k1 k2) hb hF hβ ?_ hS ?_ hy
          · intro k A u s b hA
            refine hT k A u s b ?_
            rw [← hA]
            unfold setBox
            split <;> rfl
          · rw [hSl]
            unfold setBox
            split <;> rfl
        · cases ht
      · cases ht
    · cases ht
  | .subT t k :: r, h, τ, T, S, x, hτ, hb, hF, hβ, hT, hS, hSl, ht => by
    simp only [takeXO] at ht
    split at ht
    · rename_i j lo hi j' hc hk
      split at ht
      · rename_i he
        simp only [Nat.beq_eq] at he
        subst he
        split at ht
        · rename_i y hy
          cases ht
          obtain ⟨u, s, h1, h2, h3⟩ := hS k _ hk
          have hv := hσ.tm t
          rw [hc] at hv
          have hv : RelCl g w (.sub j lo hi) _ := hv.elim (fun e => by cases e) id
          have hv2 : RelCl h w (.sub k lo hi) ((a.tmps.toList ++ w0.out).getD t undef) := by
            obtain ⟨b, n, c, s', k1, k2⟩ := hv
            rw [h3] at k1
            cases k1
            exact ⟨b, n, c, s, h1, k2⟩
          exact takeXO_rel hσ r T S y (hτ.knowRaw (.inr hv2)) hb hF hβ hT hS hSl hy
        · cases ht
      · cases ht
    · cases ht
  | .ownT t e ty :: r, h, τ, T, S, x, hτ, hb, hF, hβ, hT, hS, hSl, ht => by
    simp only [takeXO] at ht
    have hm : ∀ b, some b ∈ h.β → some b ∈ g.β := fun b hb => by
      obtain ⟨i, hi⟩ := List.mem_iff_getElem?.1 hb
      exact List.mem_of_getElem? (hβ i b hi)
    split at ht
    · rename_i c hc
      split at ht
      · rename_i xs T' ho
        split at ht
        · rename_i y hy
          cases ht
          have hv := hσ.tm t
          rw [hc] at hv
          have hv := hv.elim (fun e => by subst e; simp [takeOwn] at ho) id
          obtain ⟨h', r1, r2, r3, r4, r5, r6, r7⟩ := takeOwn_rel hσ hτ hb hF hm hT hv ho
          exact takeXO_rel hσ r T' _ y (r1.knowRaw (.inr r2)) r3 r4 (by rw [r5]; exact hβ) r6 (hS.more hσ (by rw [hSl, hτ.arn]) hv ho r7) (by simp [setTm, hSl]) hy
        · cases ht
      · cases ht
    · cases ht
  | .ownB i off e ty :: r, h, τ, T, S, x, hτ, hb, hF, hβ, hT, hS, hSl, ht => by
    simp only [takeXO] at ht
    have hm : ∀ b, some b ∈ h.β → some b ∈ g.β := fun b hb => by
      obtain ⟨i, hi⟩ := List.mem_iff_getElem?.1 hb
      exact List.mem_of_getElem? (hβ i b hi)
    split at ht
    · rename_i t cs hi
      split at ht
      · rename_i xs T' ho
        split at ht
        · rename_i y hy
          cases ht
          obtain ⟨hcj, v0, hv0⟩ := takeOwn_some hσ ho
          have hv : ∃ v, RelCl g w (cs.getD off .junk) v ∧ ∀ b vs, g.β[i]? = some (some b) → w.heap[b]? = some (.cells vs t (0, 0)) → RelCls g w cs vs.toList → [v] = (vs.toList.drop off).take 1 := by
            by_cases hg : ∃ b, g.β[i]? = some (some b)
            · obtain ⟨b, hg⟩ := hg
              obtain ⟨b', vs, h4, h5, h6, _⟩ := hσ.bx i t cs hi (by rw [hg]; simp)
              rw [hg] at h4
              cases h4
              have hlt : off < cs.length := by
                rcases Nat.lt_or_ge off cs.length with h' | h'
                · exact h'
                · exact absurd (by simp [List.getElem?_eq_none h']) hcj
              obtain ⟨v, h7, h8⟩ := h6.get off (cs.getD off .junk) (by simp [hlt])
              refine ⟨v, h8, fun b2 vs2 h9 h10 _ => ?_⟩
              rw [hg] at h9
              cases h9
              rw [h5] at h10
              cases h10
              obtain ⟨hl, h11⟩ := List.getElem?_eq_some_iff.1 h7
              rw [List.drop_eq_getElem_cons hl, h11]
              rfl
            · exact ⟨v0, hv0, fun b vs h1 => absurd ⟨b, h1⟩ hg⟩
          obtain ⟨v, hv, hv2⟩ := hv
          obtain ⟨h', r1, r2, r3, r4, r5, r6, r7⟩ := takeOwn_rel hσ hτ hb hF hm hT hv ho
          have hβ' : ∀ i b : Nat, h'.β[i]? = some (some b) → g.β[i]? = some (some b) := by rw [r5]; exact hβ
          refine takeXO_rel hσ r T' _ y (fillBoxX hσ r1 hβ' hi fun b vs h1 h2 h3 => ⟨[v], ⟨v, [], rfl, r2, rfl⟩, hv2 b vs h1 h2 h3⟩) r3 r4 hβ' ?_ (hS.more hσ (by rw [hSl, hτ.arn]) hv ho r7) ?_ hy
          · intro k A u s b hA
            refine r6 k A u s b ?_
            rw [← hA]
            unfold setBox
            split <;> rfl
          · unfold setBox
            split <;> simp [hSl]
        · cases ht
      · cases ht
    · cases ht

theorem refrX {h : Gh} {Fr' : Nat → Prop} (hσ : Rel w0 { g with Fr := Fr' } σ a w) (hτ : Rel w0 h τ a w) (ha : τ.ar = []) (hF : ∀ b, h.Fr b → Fr' b) (hβ : ∀ i b : Nat, h.β[i]? = some (some b) → g.β[i]? = some (some b)) : Rel w0 { h with Fr := Fr' } τ a w := by
  refine hτ.refr ha Fr' hF hσ.lt (fun b hb => hσ.notFr ?_) fun b hb => by rw [hτ.base]; exact hσ.base ▸ hσ.dfr.2 b hb
  obtain ⟨i, hi⟩ := List.mem_iff_getElem?.1 hb
  exact List.mem_of_getElem? (hβ i b hi)

theorem takeX_rel (bs : List (Option TypeId)) : ∀ (l : List XItem) {g h : Gh} {σ τ : St} (x : (tyX l).den), Rel w0 g σ a w → Rel w0 h τ a w → h.base = g.base → h.Fr = g.Fr → h.β = keepβ bs g.β → τ.ar = [] → takeX bs l σ = some x →
    ∃ h' : Gh, Rel w0 h' (fillX l x τ) a w ∧ h'.base = g.base := by
  have own : ∀ (l : List XItem) {g h : Gh} {σ τ : St} (x : (tyX l).den), Rel w0 g σ a w → Rel w0 h τ a w → h.base = g.base → h.Fr = g.Fr → h.β = keepβ bs g.β → τ.ar = [] → takeXO l σ [] [] = some x → ∃ h' : Gh, Rel w0 h' (fillX l x τ) a w ∧ h'.base = g.base :=
    fun l g h σ τ x hσ hτ hb hF hβ ha ht => takeXO_rel hσ l [] [] x hτ hb hF (fun i b hi => by rw [hβ] at hi; exact (keepβ_get.1 hi).2) (fun k A u s b hA => by rw [ha] at hA; simp at hA) (fun k o hk => by simp at hk) (by rw [ha]; rfl) ht
  intro l
  induction l with
  | nil => intro g h σ τ x hσ hτ hb hF hβ ha ht; exact ⟨h, hτ, hb⟩
  | cons it r ih =>
    intro g h σ τ x hσ hτ hb hF hβ ha ht
    have hpt : ∀ i b : Nat, h.β[i]? = some (some b) → g.β[i]? = some (some b) := fun i b hi => by rw [hβ] at hi; exact (keepβ_get.1 hi).2
    cases it with
    | tm t ty =>
      simp only [takeX] at ht
      split at ht
      · rename_i x0 hx0
        split at ht
        · rename_i hok
          simp only [Bool.and_eq_true, beq_iff_eq] at hok
          split at ht
          · rename_i y hy
            cases ht
            obtain ⟨F1, f1, hle, h1, d1, _⟩ := hσ.settle (σ.raw t).cells
            have hv := hσ.tm t
            have hrep := unflat_all hx0 (d1 _ (hv.cells hok.1))
            have hτ' := refrX h1 hτ ha (fun b hb' => f1 b (hF ▸ hb')) hpt
            have hpv : RelPV { h with Fr := F1 } w (pvOf ty x0) ((a.tmps.toList ++ w0.out).getD t undef) := pvOf_cells (g := g) hok.1 hv hok.2 hrep
            exact ih (g := { g with Fr := F1 }) (h := { h with Fr := F1 }) y h1 (hτ'.knowRaw hpv) hb rfl hβ ha hy
          · cases ht
        · cases ht
      · cases ht
    | bx i off ty =>
      simp only [takeX] at ht
      split at ht
      · rename_i t cs hi
        split at ht
        · rename_i x0 hx0
          split at ht
          · rename_i y hy
            cases ht
            obtain ⟨F1, f1, hle, h1, d1, _⟩ := hσ.settle ((cs.drop off).take ty.size)
            have hτ' := refrX h1 hτ ha (fun b hb' => f1 b (hF ▸ hb')) hpt
            have hfill : Rel w0 { h with Fr := F1 } (setBox τ i off (flat ty x0)) a w := fillBoxX (h := { h with Fr := F1 }) hσ hτ' hpt hi fun b vs h3 h4 h5 => by
              have hrep := unflat_all hx0 (d1 _ (h5.cut off ty.size))
              have hl := RepV.length _ _ _ hrep
              exact ⟨(vs.toList.drop off).take ty.size, RepV.flat (g := { h with Fr := F1 }) _ _ _ hrep, by rw [hl]⟩
            refine ih (g := { g with Fr := F1 }) (h := { h with Fr := F1 }) y h1 hfill hb rfl hβ ?_ hy
            unfold setBox
            split <;> exact ha
          · cases ht
        · cases ht
      · cases ht
    | cst t c =>
      simp only [takeX] at ht
      split at ht
      · rename_i d hd
        split at ht
        · rename_i hc
          simp only [Bool.and_eq_true] at hc
          split at ht
          · rename_i y hy
            cases ht
            have hv := hσ.tm t
            rw [hd, Cst.is_eq hc.1] at hv
            have hv : RelCl g w c.cl _ := hv.elim (fun e => absurd e c.ne_junk) id
            have hv2 : RelCl h w c.cl _ := Cst.rel (fun i hi b hg => by rw [hβ]; exact keepβ_get.2 ⟨List.all_eq_true.1 hc.2 i hi, hg⟩) hv
            exact ih y hσ (hτ.knowRaw (.inr hv2)) hb hF hβ ha hy
          · cases ht
        · cases ht
      · cases ht
    | bxc i off c =>
      simp only [takeX] at ht
      split at ht
      · rename_i t cs hi
        split at ht
        · rename_i hc
          simp only [Bool.and_eq_true] at hc
          split at ht
          · rename_i y hy
            cases ht
            have hd := Cst.is_eq hc.1
            refine ih y hσ (fillCell hσ hτ hpt hi (by rw [hd]; exact c.ne_junk) fun v hv => ?_) hb hF hβ ?_ hy
            · rw [hd] at hv
              exact Cst.rel (fun i hi b hg => by rw [hβ]; exact keepβ_get.2 ⟨List.all_eq_true.1 hc.2 i hi, hg⟩) hv
            · unfold setBox
              split <;> exact ha
          · cases ht
        · cases ht
      · cases ht
    | _ => exact own _ x hσ hτ hb hF hβ ha (by simpa only [takeX] using ht)

theorem extractX_sound {s : XShape} {x : s.D} (h : Rel w0 g σ a w) (hx : extractX E s σ = some x) : ∃ g', Rel w0 g' (injectX E s x) a w ∧ g'.base = g.base := by
  unfold extractX at hx
  split at hx
  · rename_i hc
    simp only [Bool.and_eq_true, Nat.beq_eq] at hc
    exact takeX_rel s.boxes s.items x h (bareX_rel h hc.1 hc.2) rfl rfl rfl rfl hx
  · cases hx

end Go.V

/- Operations of the deep reading, one by one. -/
namespace Go.V
open Go.RowKit

variable {P : Program} {E : Env} {w0 : Org} {g g' : Gh} {σ τ : St} {a : Act} {w : World} {o : Oper} {R : Type} {K : St → Option R} {r : R} {next : Act → World → Prop} {Q : Exit → Act → World → Prop}

theorem RepRow.take {Fr : Nat → Prop} {t : Ty} {xs : List t.den} {cells : List Value} (h : RepRow Fr w t xs cells) (n : Nat) : RepRow Fr w t (xs.take n) (cells.take (n * t.size)) := by
  intro i x hx
  rw [List.getElem?_take] at hx
  split at hx
  · rename_i hlt
    obtain ⟨ds, h1, h2⟩ := h i x hx
    refine ⟨ds, h1, fun m v hm => ?_⟩
    have hl := RepV.length _ _ _ h1
    have hm' : m < t.size := by rw [← hl]; exact (List.getElem?_eq_some_iff.1 hm).1
    have := Nat.mul_le_mul_right t.size (show i + 1 ≤ n from hlt)
    rw [Nat.add_mul] at this
    rw [List.getElem?_take, if_pos (by omega)]
    exact h2 m v hm
  · cases hx

theorem RepRow.drop {Fr : Nat → Prop} {t : Ty} {xs : List t.den} {cells : List Value} (h : RepRow Fr w t xs cells) (n : Nat) : RepRow Fr w t (xs.drop n) (cells.drop (n * t.size)) := by
  intro i x hx
  rw [List.getElem?_drop] at hx
  obtain ⟨ds, h1, h2⟩ := h (n + i) x hx
  refine ⟨ds, h1, fun m v hm => ?_⟩
  rw [List.getElem?_drop]
  have := h2 m v hm
  rw [Nat.add_mul] at this
  rw [← this]
  congr 1
  omega

theorem Rel.turnRow (h : Rel w0 g σ a w) {j : Nat} {A : Arr} {xs' : List A.t.den} {v : Value} {s : Nat} {w' : World} {cells : List Value} (hA : σ.ar[j]? = some A) (hl : A.live = true) (hv : g.α[j]? = some (v, s))
    (hg : w.grownBy w' v.ownBlock) (ho : w'.ownsRow g.base A.e A.t.size v xs'.length cells) (hr : RepRow g.Fr w' A.t xs' cells) :
    Rel w0 g { tm := σ.tm, bx := σ.bx, ar := σ.ar.set j { e := A.e, t := A.t, xs := xs', live := A.live }, n := σ.n } a w' := by
  obtain ⟨v1, e1, okA⟩ := h.ar j A hA
  have e2 := hv.symm.trans e1
  simp only [Option.some.injEq, Prod.mk.injEq] at e2
  obtain ⟨rfl, rfl⟩ := e2
  obtain ⟨cells0, o0, _, d0⟩ := okA.own hl
  have hs : ∀ b, g.Fr b → w'.heap[b]? = w.heap[b]? := fun b hb => hg.block b (h.lt b hb) fun e => (d0 b e.symm).1 hb
  have hle : g.le g w w' := ⟨rfl, fun _ _ h => h, fun _ _ h => h, fun _ h => h, hs⟩
  obtain ⟨sw, _⟩ := h.swap (A' := { e := A.e, t := A.t, xs := xs', live := A.live }) hA hl hv hg okA.one hl ho hr (fun b hb => .inl hb)
  have hα : g.α.set j (v, A.t.size) = g.α := by
    apply List.ext_getElem?
    intro k
    by_cases hk : j = k
    · subst hk
      rw [List.getElem?_set_self (List.getElem?_eq_some_iff.1 hv).1, hv]
    · rw [List.getElem?_set_ne hk]
  have sw' := sw
  rw [show ({ base := g.base, β := g.β, α := g.α.set j (v, A.t.size), Fr := g.Fr } : Gh) = g by rw [hα]] at sw'
  refine ⟨h.base, sw'.below, sw'.lt, fun t => (h.tm t).mono hle, h.tmn, h.dfr, h.bxn, ?_, h.nodup, sw'.arn, sw'.ar, sw'.apart, sw'.oth⟩
  intro i t cs hi hh
  obtain ⟨b, vs, h3, h4, h5, h6, h7⟩ := h.bx i t cs hi hh
  exact ⟨b, vs, h3, (hg.block b (heap_lt h4) fun e => (d0 b e.symm).2 (List.mem_of_getElem? h3)).trans h4, h5.mono hle, h6, h7⟩

theorem clear_run {t e : TypeId} {i : TypeInfo} {z : Value} (hu : P.underlying t = some (.slice e)) (hi : P.info? e = some i) (hz : i.zero = some z) {ty : Ty} (hzc : z.cells = (zeroV ty).toArray) {b of n c : Nat} (hn : 0 < n) {cur : Array Value} (hg : w.heap[b]? = some (.cells cur e (0, 0)))
    (hf : of + n * ty.size ≤ cur.size) (ty' : TypeId) :
    (Builtin.clear_ #[t] ty' #[.slice (some ⟨b, of, none⟩) n c]).run P w = .ok (.tuple #[]) (w.setRow b (cur.toList.take of ++ (madeCells z.cells (n * ty.size)).toList ++ cur.toList.drop (of + n * ty.size)).toArray) := by
  have hzs : z.cells.size = ty.size := by rw [hzc]; simp [zeroV_length]
  have hz1 : Builtin.zeroCells z.cells n = madeCells z.cells (n * ty.size) := by simp [Builtin.zeroCells, madeCells, hzs]
  have hlen : (madeCells z.cells (n * ty.size)).toList.length = n * ty.size := by simp [size_madeCells]
  have hone : ∀ v ∈ (madeCells z.cells (n * ty.size)).toList, v.oneCell' = true := by
    intro v hv
    simp only [madeCells, Array.toList_map, List.mem_map] at hv
    obtain ⟨k, hk, rfl⟩ := hv
    have h0 : 0 < ty.size := by
      rcases Nat.eq_zero_or_pos ty.size with h' | h'
      · rw [h'] at hk; simp at hk
      · exact h'
    have hlt : k % z.cells.size < z.cells.size := Nat.mod_lt _ (by omega)
    rw [getElem!_pos z.cells (k % z.cells.size) hlt]
    have : z.cells[k % z.cells.size] ∈ zeroV ty := by
      have h1 : z.cells[k % z.cells.size] ∈ z.cells := Array.getElem_mem hlt
      have h2 : ∀ u ∈ z.cells, u ∈ zeroV ty := by rw [hzc]; simp
      exact h2 _ h1
    exact RelCls.oneCell (zeros_rel { base := 0, β := [], α := [], Fr := fun _ => False } w ty) _ this
  have := run_storeCells_at (P := P) b of e (madeCells z.cells (n * ty.size)).toList 0 cur w hg (by rw [hlen]; simpa using hf) hone
  simp only [Nat.add_zero, hlen] at this
  cases n with
  | zero => omega
  | succ n => simp [Builtin.clear_, run_underlying hu, zeroValue, typeInfo, hi, hz, hz1, this]

theorem clearX_sound {C : XCtx R} {c : Call} {x : Operand} {t : TypeId} (hE : EnvOk P C.E) (ho : o.op = .call c) (hc : c.callee = .builtin .clear) (ha : c.args.toList = [x]) (ht : c.argTypes.toList = [t]) (h : Rel w0 g σ a w)
    (hk : clearX C o t (opv C.E σ o.type x) σ K = some r) (hn : Then' w0 g.base K r next) : o.wp P a w next Q := by
  unfold clearX at hk
  split at hk
  · rename_i j lo hi hx
    have hxr := opv_rel h C.E o.type x
    rw [hx] at hxr
    have hsub : RelCl g w (.sub j lo hi) (a.eval x) := hxr.elim (fun e => by cases e) id
    split at hk
    · rename_i A e ty hA htt
      split at hk
      · rename_i hcnd
        obtain ⟨hl, rfl, rfl⟩ := hcnd
        obtain ⟨hu, hte, hsz⟩ := slice_und hE htt
        obtain ⟨b, n, cp, s, h1, h2, h3, h4, h5, h6⟩ := hsub
        obtain ⟨v', e1, okA⟩ := h.ar j A hA
        rw [h1] at e1
        cases e1
        obtain ⟨i, z, hi', hisz, hz, hzc⟩ := (hE.ty A.e A.t hte).info
        obtain ⟨cells0, o0, r0, d0⟩ := okA.own hl
        rcases o0.2 with ⟨e2, _⟩ | ⟨b', cp', cur, e2, hbase, hg, hncap, hcapm, hcs, htake⟩
        · cases e2
        cases e2
        have hlo : (lo.toNat : Int) = lo := Int.toNat_of_nonneg h2
        have hhi : (hi.toNat : Int) = hi := Int.toNat_of_nonneg (by omega)
        have hhn : hi.toNat ≤ A.xs.length := by omega
        have hm1 := Nat.mul_le_mul_right A.t.size hhn
        have hm2 := Nat.mul_le_mul_right A.t.size (show lo.toNat ≤ hi.toNat by omega)
        have hm3 : lo.toNat * A.t.size + (hi.toNat - lo.toNat) * A.t.size = hi.toNat * A.t.size := by rw [← Nat.add_mul]; congr 1; omega
        have hm4 := Nat.mul_le_mul_right A.t.size hncap
        have hfit : lo.toNat * A.t.size + (hi.toNat - lo.toNat) * A.t.size ≤ cur.size := by rw [hcs]; omega
        have hrun := clear_run (P := P) hu hi' hz hzc (b := b) (of := lo.toNat * A.t.size) (n := hi.toNat - lo.toNat) (c := A.xs.length - 0 + (cp - A.xs.length) - lo.toNat) (by omega) hg hfit o.type
        have hmade : (madeCells z.cells ((hi.toNat - lo.toNat) * A.t.size)).toList.length = (hi.toNat - lo.toNat) * A.t.size := by simp [size_madeCells]
        have hcl0 : cells0.length = A.xs.length * A.t.size := o0.1
        have hrel := h.turnRow (w' := w.setRow b (cur.toList.take (lo.toNat * A.t.size) ++ (madeCells z.cells ((hi.toNat - lo.toNat) * A.t.size)).toList ++ cur.toList.drop (lo.toNat * A.t.size + (hi.toNat - lo.toNat) * A.t.size)).toArray)
          (xs' := A.xs.take lo.toNat ++ List.replicate (hi.toNat - lo.toNat) A.t.zero ++ A.xs.drop hi.toNat) (cells := cells0.take (lo.toNat * A.t.size) ++ (madeCells z.cells ((hi.toNat - lo.toNat) * A.t.size)).toList ++ cells0.drop (hi.toNat * A.t.size)) hA hl h1
          ⟨rfl, rfl, rfl, by rw [setRow_size]; exact Nat.le_refl _, fun k _ hk => setRow_other w b k _ (fun e => hk (by rw [e]; rfl))⟩ ?_ ?_
        · refine wp_val (v := .tuple #[]) ?_ (hn _ _ _ _ (hrel.put _ (p := .tup []) ⟨[], rfl, rfl, fun i a cs u hi => by simp at hi⟩) hk rfl)
          have hargs : c.args = #[x] := by apply Array.ext'; simpa using ha
          have htys : c.argTypes = #[t] := by apply Array.ext'; simpa using ht
          have e3 : A.xs.length - 0 + (cp - A.xs.length) - lo.toNat = cp - lo.toNat := by omega
          rw [e3] at hrun
          generalize w.setRow b _ = W at hrun ⊢
          simp [execOp, ho, resolve, hc, hargs, htys, h6, invoke_builtin, builtin, hrun]
        · refine ⟨?_, .inr ⟨b, cp, _, ?_, hbase, setRow_heap w b cur _ A.e (0, 0) hg, ?_, hcapm, ?_, ?_⟩⟩
          · simp only [List.length_append, List.length_take, List.length_drop, List.length_replicate, hmade, hcl0, Nat.add_mul]
            rw [Nat.min_eq_left (by omega), Nat.min_eq_left (by omega)]
            simp only [Nat.sub_mul]
          · simp; omega
          · simp; omega
          · simp only [List.size_toArray, List.length_append, List.length_take, List.length_drop, hmade, Array.length_toList]
            omega
          · have e4 : (A.xs.take lo.toNat ++ List.replicate (hi.toNat - lo.toNat) A.t.zero ++ A.xs.drop hi.toNat).length = A.xs.length := by simp; omega
            rw [e4, ← htake, hm3]
            have hX : (cur.toList.take (lo.toNat * A.t.size) ++ (madeCells z.cells ((hi.toNat - lo.toNat) * A.t.size)).toList).length = hi.toNat * A.t.size := by
              rw [List.length_append, List.length_take, hmade, Array.length_toList, Nat.min_eq_left (by omega), hm3]
            rw [List.take_append, hX, List.take_of_length_le (by rw [hX]; omega), List.take_take, Nat.min_eq_left (by omega), List.drop_take]
        · have hgr := setRowLe (w := w) (cur.toList.take (lo.toNat * A.t.size) ++ (madeCells z.cells ((hi.toNat - lo.toNat) * A.t.size)).toList ++ cur.toList.drop (lo.toNat * A.t.size + (hi.toNat - lo.toNat) * A.t.size)).toArray (d0 b rfl).1
          have r1 : RepRow g.Fr w A.t (List.replicate (hi.toNat - lo.toNat) A.t.zero) (madeCells z.cells ((hi.toNat - lo.toNat) * A.t.size)).toList := made_rep (slice_plain hE htt) hzc _
          refine RepRow.mono hgr.Fr hgr.same (RepRow.append (RepRow.append (r0.take lo.toNat) ?_ r1) ?_ (r0.drop hi.toNat))
          · simp [hcl0]
          · simp only [List.length_append, List.length_take, List.length_replicate, hmade, hcl0, Nat.add_mul]
            rw [Nat.min_eq_left (by omega), Nat.min_eq_left (by omega)]
      · cases hk
    · cases hk
  · cases hk

end Go.V

/- Parts of own rows, rows made to grow, calls; lists of operations. -/
namespace Go.V
open Go.RowKit

variable {P : Program} {E : Env} {w0 : Org} {g g' : Gh} {σ τ : St} {a : Act} {w : World} {o : Oper} {R : Type} {K : St → Option R} {r : R} {next : Act → World → Prop} {Q : Exit → Act → World → Prop} {C : XCtx R}

def GrowOk (P : Program) (E : Env) (f : FuncId) (t : TypeId) : Prop := (∃ fn, P.funcs[f]? = some fn ∧ (fn.name == "runtime.NumGoroutine") = false ∧ fn.body.isNone = false) ∧ ∀ e ty, look E.ty t = some (.sl e ty) → ∀ (w : World) (n : Int), 0 ≤ n → n.toNat ≤ lim E e →
  Calls P f #[.slice none 0 0, .int .i64 n] w fun r w' => ∃ v, r = .returned v ∧ Below w.heap.size w w' ∧ w'.ownsRow w.heap.size e ty.size v 0 [] ∧ (n = 0 → v = .slice none 0 0)

structure XOk (P : Program) (C : XCtx R) : Prop where
  env : EnvOk P C.E
  grow : ∀ f t, look C.grow f = some t → GrowOk P C.E f t
  mixed : P.follows .mixedOrders = true

def CallOk (P : Program) (C : XCtx R) (call : Caller R) : Prop := ∀ {w0 : Org} {g : Gh} {σ : St} {a : Act} {w : World} {K : St → Option R} {r : R} {next : Act → World → Prop} {f : FuncId} {fn : Func} {args : List PV} {vs : List Value} {d : Option Tmp}, Rel w0 g σ a w → vs.length = args.length →
  (∀ (i : Nat) p v, args[i]? = some p → vs[i]? = some v → RelPV g w p v) → look C.E.inl f = some fn → call f fn args d σ K = some r → Then' w0 g.base K r next → Calls P f vs.toArray w fun e w' => ∃ v, e = .returned v ∧ next (a.put d v) w'

theorem args_rel (h : Rel w0 g σ a w) (E : Env) {c : Call} (har : c.args.size = c.argTypes.size) {cps : List PV} {caps : List Value} (hl : caps.length = cps.length) (hr : ∀ (i : Nat) p v, cps[i]? = some p → caps[i]? = some v → RelPV g w p v) :
    (c.args.toList.map a.eval ++ caps).length = (((c.args.toList.zip c.argTypes.toList).map fun (x, t) => opv E σ t x) ++ cps).length ∧
    ∀ (i : Nat) p v, (((c.args.toList.zip c.argTypes.toList).map fun (x, t) => opv E σ t x) ++ cps)[i]? = some p → (c.args.toList.map a.eval ++ caps)[i]? = some v → RelPV g w p v := by
  have hzl : (List.map (fun x => opv E σ x.2 x.1) (c.args.toList.zip c.argTypes.toList)).length = (c.args.toList.map a.eval).length := by simp [har]
  refine ⟨by simp [har, hl], fun i p v hi hv => ?_⟩
  rw [List.getElem?_append] at hi hv
  rw [hzl] at hi
  split at hi
  · rename_i hlt
    rw [if_pos hlt] at hv
    simp only [List.getElem?_map, Option.map_eq_some_iff] at hi hv
    obtain ⟨⟨z, t⟩, hz, rfl⟩ := hi
    obtain ⟨z', hz', rfl⟩ := hv
    have := (List.getElem?_zip_eq_some.1 hz).1
    rw [this] at hz'
    cases hz'
    exact opv_rel h E t z
  · rename_i hlt
    rw [if_neg hlt] at hv
    exact hr _ p v hi hv

theorem wp_calls {c : Call} {gx : Operand} {f : FuncId} {caps : List Value} {fn : Func} (ho : o.op = .call c) (hc : c.callee = .value gx) (hcap : a.eval gx = .func (.func f) #[] caps.toArray) (e1 : P.funcs[f]? = some fn) (e2 : (fn.name == "runtime.NumGoroutine") = false) (e3 : fn.body.isNone = false)
    (hcall : Calls P f (c.args.toList.map a.eval ++ caps).toArray w fun e w' => ∃ v, e = .returned v ∧ next (a.put o.dst v) w') : o.wp P a w next Q := by
  have e4 : fn.name ≠ "runtime.NumGoroutine" := by simpa using e2
  have e5 : fn.body ≠ none := fun e => by rw [e] at e3; cases e3
  have hrun : (execOp a.eval o).run P w = .ok (.enter f (c.args.map a.eval ++ caps.toArray)) w := by
    simp [execOp, ho, resolve, hc, hcap, Deferred.ofValue, invoke, callFunc, e1, e4, e5]
  unfold Oper.wp
  rw [hrun, Oper.upon_enter]
  have hlist : (c.args.toList.map a.eval ++ caps).toArray = c.args.map a.eval ++ caps.toArray := by apply Array.ext'; simp
  rw [hlist] at hcall
  refine hcall.mono ?_
  rintro e w' ⟨v, rfl, hres⟩
  exact hres

theorem callX_sound (hX : XOk P C) {call : Caller R} (hcall : CallOk P C call) {c : Call} {gx : Operand} {f : FuncId} {fn : Func} {cps : List PV} {caps : List Value} (ho : o.op = .call c) (hc : c.callee = .value gx) (hcap : a.eval gx = .func (.func f) #[] caps.toArray) (hl : caps.length = cps.length)
    (hr : ∀ (i : Nat) p v, cps[i]? = some p → caps[i]? = some v → RelPV g w p v) (hi : look C.E.inl f = some fn) (har : c.args.size = c.argTypes.size) (h : Rel w0 g σ a w)
    (hk : call f fn (((c.args.toList.zip c.argTypes.toList).map fun (x, t) => opv C.E σ t x) ++ cps) o.dst σ K = some r) (hn : Then' w0 g.base K r next) : o.wp P a w next Q := by
  obtain ⟨e1, e2, e3⟩ := hX.env.inl f fn hi
  obtain ⟨k1, k2⟩ := args_rel h C.E har hl hr
  exact wp_calls ho hc hcap e1 e2 e3 (hcall h k1 k2 hi hk hn)

theorem RelPtrs.length : ∀ {ps : List Ptr} {us : List Value}, RelPtrs g w ps us → us.length = ps.length
  | [], _, h => by rw [show _ = [] from h]; rfl
  | _ :: _, _, ⟨_, _, h, _, hr⟩ => by rw [h, List.length_cons, List.length_cons, RelPtrs.length hr]

theorem RelPtrs.each : ∀ {ps : List Ptr} {us : List Value}, RelPtrs g w ps us → ∀ (i : Nat) p v, (ps.map fun p => PV.one (.ptr p))[i]? = some p → us[i]? = some v → RelPV g w p v
  | [], _, _, i, p, v, hp, _ => by simp at hp
  | q :: ps, _, ⟨u, r, h, hu, hr⟩, i, p, v, hp, hv => by
    subst h
    cases i with
    | zero =>
      simp only [List.map_cons, List.getElem?_cons_zero, Option.some.injEq] at hp hv
      subst hp; subst hv
      exact .inr hu
    | succ i => exact RelPtrs.each hr i p v (by simpa using hp) (by simpa using hv)

theorem ownsRow_base {b b' : Nat} {e : TypeId} {s n : Nat} {v : Value} {xs : List Value} (h : w.ownsRow b e s v n xs) (hb : b' ≤ b) : w.ownsRow b' e s v n xs := by
  refine ⟨h.1, ?_⟩
  rcases h.2 with h2 | ⟨g, cap, cur, h2, h3, h4⟩
  · exact .inl h2
  · exact .inr ⟨g, cap, cur, h2, Nat.le_trans hb h3, h4⟩

theorem growX_sound (hX : XOk P C) {c : Call} {gx : Operand} {f : FuncId} {ct : Ty} {cy : ct.den} {t : TypeId} (ho : o.op = .call c) (hc : c.callee = .value gx) (hgx : opv C.E σ o.type gx = .one (.clo f ct cy)) (hct : ct = .unit) (hg : look C.grow f = some t) (har : c.args.size = c.argTypes.size)
    (h : Rel w0 g σ a w) (hk : growX C o t ((c.args.toList.zip c.argTypes.toList).map fun (x, t) => opv C.E σ t x) σ K = some r) (hn : Then' w0 g.base K r next) : o.wp P a w next Q := by
  subst hct
  have hcl : RelCl g w (.clo f .unit cy) (a.eval gx) := by
    have := opv_rel h C.E o.type gx
    rw [hgx] at this
    exact this.elim (fun e => by cases e) id
  obtain ⟨caps, hcap, hcr⟩ := hcl
  have hcap : a.eval gx = .func (.func f) #[] caps.toArray := by simpa using hcap
  have hcr : caps = [] := hcr
  subst hcr
  obtain ⟨⟨fn, e1, e2, e3⟩, hgrow⟩ := hX.grow f t hg
  obtain ⟨k1, k2⟩ := args_rel h C.E har (cps := []) (caps := []) rfl (fun i p v hp => by simp at hp)
  simp only [List.append_nil] at k1 k2
  unfold growX at hk
  split at hk
  · rename_i e ty e' ty' n ht hargs
    rw [hargs] at k1 k2
    match hv : c.args.toList.map a.eval, k1 with
    | [v1, v2], _ =>
      rw [hv] at k2
      have r1 : v1 = .slice none 0 0 := (k2 0 _ v1 rfl rfl).elim (fun e => by cases e) id
      have r2 : v2 = .int .i64 n := (k2 1 _ v2 rfl rfl).elim (fun e => by cases e) id
      subst r1; subst r2
      have enter : 0 ≤ n → n.toNat ≤ lim C.E e → (∀ v w', Below w.heap.size w w' → w'.ownsRow w.heap.size e ty.size v 0 [] → (n = 0 → v = .slice none 0 0) → next (a.put o.dst v) w') → o.wp P a w next Q := fun h0 hlim hnx => by
        refine wp_calls ho hc hcap e1 e2 e3 ?_
        rw [List.append_nil, hv]
        refine (hgrow e ty ht w n h0 hlim).mono ?_
        rintro r' w' ⟨v, rfl, m1, m2, m3⟩
        exact ⟨v, rfl, hnx v w' m1 m2 m3⟩
      split at hk
      · rename_i he
        obtain ⟨rfl, rfl⟩ := he
        split at hk
        · rename_i h0
          split at hk
          · rename_i hlim
            refine enter (by omega) hlim fun v w' m1 m2 _ => ?_
            obtain ⟨h4, hle⟩ := h.grow m1 g.Fr (fun _ h => h) (fun _ h => .inl h) (fun b hb' => Nat.lt_of_lt_of_le (h.lt b hb') m1.size)
            have hbs : g.base ≤ w.heap.size := by rw [h.base]; exact h.below.size
            obtain ⟨h5, h6⟩ := h4.newArr (A := { e := e', t := ty', xs := [], live := true }) (v := v) (cells := []) (ownsRow_one m2) rfl (ownsRow_base m2 hbs) (fun i x hx => by simp at hx) (fun b hb' => by
              have hge := (m2.lt b hb').1
              refine ⟨fun hf => absurd (h.lt _ hf) (by omega), fun hm => absurd (h.boxLt hm) (by omega), fun j B u s hB hBl hu' hub => ?_⟩
              obtain ⟨u', q1, okB⟩ := h.ar j B hB
              rw [show g.α[j]? = some (u, s) from hu'] at q1
              cases q1
              obtain ⟨_, ow, _⟩ := okB.own hBl
              exact absurd (ow.lt _ hub).2 (by omega))
            exact hn _ _ _ _ (h5.put _ (RelPV.cl h6)) hk rfl
          · cases hk
        · split at hk
          · rename_i h0
            subst h0
            refine enter (Int.le_refl _) (Nat.zero_le _) fun v w' m1 m2 m3 => ?_
            have := m3 rfl
            subst this
            obtain ⟨h4, hle⟩ := h.grow m1 g.Fr (fun _ h => h) (fun _ h => .inl h) (fun b hb' => Nat.lt_of_lt_of_le (h.lt b hb') m1.size)
            exact hn _ _ _ _ (h4.put _ (p := .one (.nil e' ty')) (.inr rfl)) hk rfl
          · cases hk
      · cases hk
  · cases hk

theorem subX_sound (hX : XOk P C) {t : TypeId} {x : Operand} {lo hi mx : Option Operand} (ho : o.op = .slice t x lo hi mx) (h : Rel w0 g σ a w) (hk : subX C o t x lo hi mx σ K = some r) (hn : Then' w0 g.base K r next) : o.wp P a w next Q := by
  have hE := hX.env
  unfold subX at hk
  split at hk
  · rename_i j l hx
    have hxr := opv_rel h C.E o.type x
    rw [hx] at hxr
    obtain ⟨s, h1, h1o⟩ := hxr.own
    split at hk
    · rename_i A e ty k l' hA ht hl
      have hlr := opv_rel h C.E o.type l
      rw [hl] at hlr
      have hlr := hlr.int
      split at hk
      · rename_i he
        obtain ⟨rfl, rfl⟩ := he
        split at hk
        · rename_i h0
          split at hk
          · rename_i h2
            obtain ⟨hu, hte, hsz⟩ := slice_und hE ht
            obtain ⟨v', e1, okA⟩ := h.ar j A hA
            rw [h1] at e1
            cases e1
            rcases okA.head with ⟨_, h3⟩ | ⟨b, c, h3⟩
            · rw [h3] at h2; simp at h2; omega
            have hcap : A.xs.length ≤ c := by
              cases hlv : A.live with
              | true =>
                obtain ⟨cells, o1, _⟩ := okA.own hlv
                rcases o1.2 with ⟨e2, _⟩ | ⟨b', cp, cur, e2, _, _, hn', _⟩
                · rw [h3] at e2; cases e2
                · rw [h3] at e2; cases e2; exact hn'
              | false =>
                obtain ⟨A', c', e2, hl', _⟩ := okA.set hlv
                rw [h3] at e2
                simp only [List.cons.injEq, Value.slice.injEq, and_true] at e2
                omega
            have b1 : (some (a.eval l) = none ∧ l' = 0) ∨ ∃ k, some (a.eval l) = some (.int k l') := .inr ⟨k, by rw [hlr]⟩
            have hb := sliceBounds_run (P := P) (w := w) (b := true) (n := A.xs.length) (c := c) (hi := none) (h := (A.xs.length : Int)) b1 (.inl ⟨rfl, rfl⟩) h0 (by omega) (Int.le_refl _) hcap
            refine wp_val (v := .slice (some ⟨b, l'.toNat * A.t.size, none⟩) (A.xs.length - l'.toNat) (c - l'.toNat)) ?_ (hn _ _ _ _ (h.put _ (p := .one (.sub j l' A.xs.length)) (.inr ⟨b, A.xs.length, c, A.t.size, by rw [← h3]; exact h1, h0, h2, Int.le_refl _, hcap, by simp⟩)) hk rfl)
            have hne : l'.toNat ≠ c := by omega
            simp [execOp, ho, h3, Instr.sliceAt, run_underlying hu, Instr.slice, hb, sizeOf_run hE hte, addr_add]
            intro e
            exact absurd e.symm hne
          · cases hk
        · cases hk
      · cases hk
    · cases hk
  · exact evOp_sound hE h hk fun g' σ' a' w' h1 h2 h3 => hn g' σ' a' w' h1 h2 h3.1

theorem lenSub_sound (hX : XOk P C) {c : Call} {x : Operand} {j : Nat} {lo hi : Int} (ho : o.op = .call c) (hc : c.callee = .builtin .len) (ha : c.args.toList = [x]) (hx : opv C.E σ o.type x = .one (.sub j lo hi)) (h : Rel w0 g σ a w)
    (hk : K (σ.put o.dst (.one (.int .i64 (hi - lo)))) = some r) (hn : Then' w0 g.base K r next) : ∀ t, c.argTypes.toList = [t] → (∃ e ty, look C.E.ty t = some (.sl e ty)) → o.wp P a w next Q := by
  rintro t ht ⟨e, ty, hty⟩
  obtain ⟨hu, _⟩ := slice_und hX.env hty
  have hxr := opv_rel h C.E o.type x
  rw [hx] at hxr
  have hsub : RelCl g w (.sub j lo hi) (a.eval x) := hxr.elim (fun e => by cases e) id
  obtain ⟨b, n, cp, s, h1, h2, h3, h4, h5, h6⟩ := hsub
  have hargs : c.args = #[x] := by apply Array.ext'; simpa using ha
  have htys : c.argTypes = #[t] := by apply Array.ext'; simpa using ht
  refine wp_val (v := .int .i64 (hi - lo)) ?_ (hn _ _ _ _ (h.put _ (p := .one (.int .i64 (hi - lo))) (.inr rfl)) hk rfl)
  have e1 : ((hi.toNat - lo.toNat : Nat) : Int) = hi - lo := by omega
  simp [execOp, ho, resolve, hc, hargs, htys, h6, invoke_builtin, builtin, Builtin.len_, run_underlying hu, goInt, e1]

theorem evX_sound (hX : XOk P C) {call : Caller R} (hcall : CallOk P C call) (h : Rel w0 g σ a w) (hk : evX C call o σ K = some r) (hn : Then' w0 g.base K r next) : o.wp P a w next Q := by
  have plain : evOp C.E o σ K = some r → o.wp P a w next Q := fun hk => evOp_sound hX.env h hk fun g' σ' a' w' h1 h2 h3 => hn g' σ' a' w' h1 h2 h3.1
  unfold evX at hk
  split at hk
  · rename_i c ho
    split at hk
    · rename_i gx hc
      split at hk
      · rename_i f ct cy hgx
        split at hk
        · rename_i fn hi
          split at hk
          · rename_i har
            have hcl : RelCl g w (.clo f ct cy) (a.eval gx) := by
              have := opv_rel h C.E o.type gx
              rw [hgx] at this
              exact this.elim (fun e => by cases e) id
            obtain ⟨caps, hcap, hcr⟩ := hcl
            have hcls := hcr.flat
            exact callX_sound hX hcall ho hc (by simpa using hcap) (by rw [List.length_map]; exact hcls.length) (fun i p v => hcls.eachOne i) hi har h hk hn
          · cases hk
        · split at hk
          · rename_i t hg
            split at hk
            · rename_i har
              exact growX_sound hX ho hc hgx har.2 hg har.1 h hk hn
            · cases hk
          · exact plain hk
      · rename_i f ps hgx
        split at hk
        · rename_i fn hi
          split at hk
          · rename_i har
            have hcl : RelCl g w (.fn f ps) (a.eval gx) := by
              have := opv_rel h C.E o.type gx
              rw [hgx] at this
              exact this.elim (fun e => by cases e) id
            obtain ⟨caps, hcap, hcr⟩ := hcl
            exact callX_sound hX hcall ho hc hcap (by rw [List.length_map]; exact RelPtrs.length hcr) (RelPtrs.each hcr) hi har h hk hn
          · cases hk
        · cases hk
      · cases hk
    · rename_i hc
      split at hk
      · rename_i x ha
        split at hk
        · rename_i j lo hi hx
          split at hk
          · rename_i t ht
            split at hk
            · rename_i e ty hty
              exact lenSub_sound hX ho hc ha hx h hk hn t ht ⟨e, ty, hty⟩
            · cases hk
          · cases hk
        · exact plain hk
      · exact plain hk
    · rename_i hc
      split at hk
      · rename_i x t ha ht
        exact clearX_sound hX.env ho hc ha ht h hk hn
      · cases hk
    · exact plain hk
  · rename_i fn bd fr ho
    split at hk
    · rename_i f hbd
      have : bd = #[] := by apply Array.ext'; simpa using hbd
      subst this
      split at hk
      · exact plain hk
      · exact mk_sound hX.env ho h hk hn
    · cases hk
  · rename_i t x lo hi mx ho
    cases hb : C.cut.contains t with
    | true => rw [hb] at hk; exact subX_sound hX ho h hk hn
    | false => rw [hb] at hk; exact plain hk
  · exact plain hk

theorem evXs_sound (hX : XOk P C) {call : Nat → Caller R} (hcall : ∀ i, CallOk P C (call i)) {ops : Array Oper} : ∀ (rest : List Oper) (k : Nat) (idxs : List Nat) {g : Gh} {σ : St} {a : Act} {w : World}, idxs.map (fun i => ops[i]?) = rest.map some → Rel w0 g σ a w → evXs C call ops k rest σ K = some r → Then' w0 g.base K r (Q .normal) → wpOps P ops Q idxs a w
  | [], k, idxs, g, σ, a, w, hl, h, hk, hn => by
    have : idxs = [] := by simpa using hl
    subst this
    exact hn _ _ _ _ h hk rfl
  | o :: rest, k, [], g, σ, a, w, hl, h, hk, hn => by simp at hl
  | o :: rest, k, i :: idxs, g, σ, a, w, hl, h, hk, hn => by
    simp only [List.map_cons, List.cons.injEq] at hl
    obtain ⟨hi, hl⟩ := hl
    have goOn : evX C (call k) o σ (fun σ' => evXs C call ops (k + 1) rest σ' K) = some r → o.wp P a w (wpOps P ops Q idxs) Q := fun hk' =>
      evX_sound hX (hcall k) h hk' fun g' σ' a' w' h1 h2 h3 => evXs_sound hX hcall rest (k + 1) idxs hl h1 h2 (by rw [h3]; exact hn)
    have skip : evXs C call ops (k + 1) rest (σ.put o.dst .skip) K = some r → wpOps P ops Q idxs (a.put o.dst undef) w := fun hk' =>
      evXs_sound hX hcall rest (k + 1) idxs hl (h.put _ (p := .skip) rfl) hk' hn
    simp only [wpOps, hi]
    simp only [evXs] at hk
    split at hk
    · rename_i hg
      rw [if_pos (by simp [Region.wanted, hg])]
      exact .inl (goOn hk)
    · rename_i j want hg
      split at hk
      · cases hk
      · rename_i t ht
        split at hk
        · rename_i b hb
          have hy := yielded_of h ht hb
          cases want <;> cases b <;> simp only [cond_true, cond_false] at hk <;> rw [setLit_same hb] at hk
          · rw [if_pos (by simp [Region.wanted, hg, hy])]; exact .inl (goOn hk)
          · rw [if_neg (by simp [Region.wanted, hg, hy])]; exact skip hk
          · rw [if_neg (by simp [Region.wanted, hg, hy])]; exact skip hk
          · rw [if_pos (by simp [Region.wanted, hg, hy])]; exact .inl (goOn hk)
        · rename_i hb
          have hy := yielded_skip h ht hb
          rw [if_neg (by simp [Region.wanted, hg, hy])]
          exact skip hk
        · cases hk

end Go.V
