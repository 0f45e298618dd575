/-
  THE LAYER Dw, PART 1: symbolic data, abstract states, and what each operation does to them. No program is named here.
-/
import Derived.WalkKit
import Derived.Deep.LoopGhost
namespace Go.Dw

/-- Symbolic data: what a slot or a cell holds. -/
inductive D where
  | top
  | int (k : IntKind) (n : Int)
  | bool (b : Bool)
  | str (s : List UInt8)
  | agg (cs : List D)
  | sl (es : List D)
  | nils
  | osl (g v i n : Nat)
  | optr (g v i off : Nat)
  | fptr (e : D) (off : Nat)
  | clo (f : Nat) (caps : List D)
  | nilf
  | tup (ds : List D)
  | when (p : Bool) (d : D)
  | row (s ty : Nat) (es : List D)
  | hole (v n : Nat)

instance : Inhabited D := ⟨.top⟩

def cells : D → List D
  | .agg cs => cs
  | d => [d]

mutual
def nrm : D → D
  | .nils => .sl []
  | .agg cs => .agg (nrms cs)
  | .sl es => .sl (nrms es)
  | d => d
def nrms : List D → List D
  | [] => []
  | d :: r => nrm d :: nrms r
end

/-- names of objects that may hold slices that they alone hold ('.row'), and that may lie in memory of the caller's -/
def rich (g : Nat) : Bool := Nat.ble 4096 g
def plain : D → Bool
  | .row .. | .hole .. => false
  | _ => true
def plainE (e : D) : Bool := (cells e).all plain

/-- An owned object: 'fz' it is frozen by now, 'var' it is one variable (its cells may hold references), 's' the cells of an element, 'ty' the elements' type. -/
structure Own where
  fz : Bool
  var : Bool
  s : Nat
  ty : Nat
  es : List D

abbrev Obj? := Option (Nat × Own)

def look {α : Type} : List (Nat × α) → Nat → Option α
  | [], _ => none
  | (k, x) :: r, t => if t = k then some x else look r t

structure S where
  e : List (Nat × D)
  o : List (Nat × Obj?)
  n : Nat

def S.ge (σ : S) (t : Nat) : D := (look σ.e t).getD .top
def S.go (σ : S) (g : Nat) : Obj? := (look σ.o g).getD none

inductive Key where
  | e (t : Nat)
  | o (g : Nat)
  deriving DecidableEq

/-- A reader of states that can be asked what it read. -/
inductive R (α : Type) where
  | ret (a : α)
  | ge (t : Nat) (k : D → R α)
  | go (g : Nat) (k : Obj? → R α)

def R.bind {α β : Type} : R α → (α → R β) → R β
  | .ret a, f => f a
  | .ge t k, f => .ge t fun d => (k d).bind f
  | .go g k, f => .go g fun d => (k d).bind f

instance : Monad R where
  pure := R.ret
  bind := R.bind

def R.run {α : Type} : R α → S → α
  | .ret a, _ => a
  | .ge t k, σ => (k (σ.ge t)).run σ
  | .go g k, σ => (k (σ.go g)).run σ

def R.rd {α : Type} : R α → S → List Key
  | .ret _, _ => []
  | .ge t k, σ => .e t :: (k (σ.ge t)).rd σ
  | .go g k, σ => .o g :: (k (σ.go g)).rd σ

@[simp] theorem R.run_pure {α : Type} (a : α) (σ : S) : (Pure.pure a : R α).run σ = a := rfl
@[simp] theorem R.run_ret {α : Type} (a : α) (σ : S) : (R.ret a).run σ = a := rfl
@[simp] theorem R.run_ge {α : Type} (t : Nat) (k : D → R α) (σ : S) : (R.ge t k).run σ = (k (σ.ge t)).run σ := rfl
@[simp] theorem R.run_go {α : Type} (t : Nat) (k : Obj? → R α) (σ : S) : (R.go t k).run σ = (k (σ.go t)).run σ := rfl
theorem R.run_bind' {α β : Type} (m : R α) (f : α → R β) (σ : S) : (m.bind f).run σ = (f (m.run σ)).run σ := by
  induction m with
  | ret a => rfl
  | ge t k ih => exact ih _
  | go g k ih => exact ih _
@[simp] theorem R.run_bind {α β : Type} (m : R α) (f : α → R β) (σ : S) : (m >>= f).run σ = (f (m.run σ)).run σ := R.run_bind' m f σ
theorem R.rd_bind' {α β : Type} (m : R α) (f : α → R β) (σ : S) : (m.bind f).rd σ = m.rd σ ++ (f (m.run σ)).rd σ := by
  induction m with
  | ret a => rfl
  | ge t k ih => simp [R.bind, R.rd, R.run, ih]
  | go g k ih => simp [R.bind, R.rd, R.run, ih]
@[simp] theorem R.rd_bind {α β : Type} (m : R α) (f : α → R β) (σ : S) : (m >>= f).rd σ = m.rd σ ++ (f (m.run σ)).rd σ := R.rd_bind' m f σ
@[simp] theorem R.rd_pure {α : Type} (a : α) (σ : S) : (Pure.pure a : R α).rd σ = [] := rfl
@[simp] theorem R.rd_ret {α : Type} (a : α) (σ : S) : (R.ret a).rd σ = [] := rfl
@[simp] theorem R.rd_ge {α : Type} (t : Nat) (k : D → R α) (σ : S) : (R.ge t k).rd σ = .e t :: (k (σ.ge t)).rd σ := rfl
@[simp] theorem R.rd_go {α : Type} (t : Nat) (k : Obj? → R α) (σ : S) : (R.go t k).rd σ = .o t :: (k (σ.go t)).rd σ := rfl

/-- two states agree on a key -/
def S.same (σ τ : S) : Key → Prop
  | .e t => σ.ge t = τ.ge t
  | .o g => σ.go g = τ.go g

theorem R.local {α : Type} (m : R α) (σ τ : S) (h : ∀ k ∈ m.rd σ, σ.same τ k) : m.run τ = m.run σ ∧ m.rd τ = m.rd σ := by
  induction m with
  | ret a => exact ⟨rfl, rfl⟩
  | ge t k ih =>
    have h0 : σ.ge t = τ.ge t := h (.e t) (by simp [R.rd])
    have := ih (σ.ge t) (fun k' hk => h k' (by simp [R.rd, hk]))
    simp only [R.run, R.rd, ← h0]
    exact ⟨this.1, by rw [this.2]⟩
  | go g k ih =>
    have h0 : σ.go g = τ.go g := h (.o g) (by simp [R.rd])
    have := ih (σ.go g) (fun k' hk => h k' (by simp [R.rd, hk]))
    simp only [R.run, R.rd, ← h0]
    exact ⟨this.1, by rw [this.2]⟩

/-- What an operation asks, and what it writes. -/
structure Out where
  c : Prop
  we : List (Nat × D)
  wo : List (Nat × Obj?)

def S.app (σ : S) (u : Out) : S := ⟨u.we ++ σ.e, u.wo ++ σ.o, σ.n⟩

inductive Arg where
  | t (n : Nat)
  | c (d : D)

instance : Inhabited Arg := ⟨.c .top⟩

/-- data that tell how many cells they take -/
def known : D → Bool
  | .top | .when .. | .tup .. | .row .. | .hole .. => false
  | _ => true

/-- what a closure may hold -/
def refOnly : D → Bool
  | .agg .. | .clo .. | .when .. | .tup .. | .row .. | .hole .. => false
  | _ => true
/-- a cell that refers to nothing that may change -/
def isFro : D → Bool
  | .agg .. | .clo .. | .when .. | .tup .. | .row .. | .hole .. | .osl .. | .optr .. => false
  | _ => true

def strip : D → Bool × D
  | .when p d => (p, d)
  | d => (true, d)

def raw : Arg → R D
  | .t n => .ge n .ret
  | .c d => .ret d
def rdA (x : Arg) : R (Bool × D) := do pure (strip (← raw x))

/-- Calls: what a function does, on data. 'ptr': the places of the parameters that are pointers to objects of the caller's own, which are handed over by their contents. -/
inductive Kind where
  | val              -- the result is a plain datum
  | ground           -- the result is a plain datum that holds no slice
  | row (s ty : Nat)   -- the result is a slice of new memory: '.sl es' stands for it
  | mat (s ty : Nat)   -- the result is a slice of new memory whose cells may hold slices of their own
  | ptr (s ty : Nat)   -- the result is a pointer to a new variable, whose contents stand for it
  | tupPtr (i s ty : Nat)   -- several results, of which number i is such a pointer
  | inpl (r : Bool) (fl : List Int → List Int) (fk : List Int → Nat)   -- one argument, an own slice of ints, is written in place; r: the result is the slice, cut
def inplOf : Kind → Option (Bool × (List Int → List Int) × (List Int → Nat))
  | .inpl r fl fk => some (r, fl, fk)
  | _ => none
structure Spec where
  ptr : List (Nat × (Nat × Nat))   -- places, each with the cells and the type of the variable behind it
  kind : Kind
  pre : List D → Prop
  res : List D → D
  eff : List D → List D

abbrev Specs := Nat → Option Spec

inductive DOp where
  | mv (x : Arg)
  | asg (x : Arg) (sl : Option (Nat × Nat))
  | pick (c a b : Arg)
  | new (z : D) (s ty : Nat)
  | box (x : Arg) (s ty : Nat)
  | bld (z : List D) (parts : List (Nat × Nat × Arg))
  | bldS (s ty : Nat) (z : D) (len : Nat) (parts : List (Nat × Arg))
  | ld (n : Nat) (agg : Bool) (a : Arg)
  | st (n : Nat) (a x : Arg)
  | nilck (x : Arg)
  | bin (op : BinOp) (x y : Arg)
  | eqB (neg : Bool) (x y : Arg)
  | eqA (n : Nat) (neg : Bool) (x y : Arg)
  | un (op : UnOp) (x : Arg)
  | cvt (k : IntKind) (x : Arg)
  | mkS (s ty bytes : Nat) (z : D) (len cap : Arg)
  | slc (s : Nat) (x : Arg) (lo hi : Option Arg)
  | fldA (off : Nat) (x : Arg)
  | fld (off n : Nat) (agg : Bool) (x : Arg)
  | ixA (s : Nat) (x i : Arg)
  | ixP (s len : Nat) (x i : Arg)
  | ix (s len : Nat) (agg : Bool) (x i : Arg)
  | ixStr (x i : Arg)
  | ext (x : Arg) (i : Nat)
  | call (f : Arg) (args : List Arg)
  | len (str : Bool) (x : Arg)
  | app (s ty bytes : Nat) (x y : Arg)
  | max (args : List Arg)
  | min (args : List Arg)
  | mkf (f : Nat) (caps : List Arg)

structure DOper where
  dst : Option Nat
  op : DOp
  guard : Option (Nat × Bool)
  after : List Nat

def put1 (dst : Option Nat) (d : D) : List (Nat × D) := match dst with | some t => [(t, d)] | none => []
def putO (dst : Option Nat) (o : Obj?) : List (Nat × Obj?) := match dst with | some t => [(t, o)] | none => []
/-- the name of an object that takes the place of g (r: that is rich) -/
def nmR (r : Bool) (t : Nat) : Nat := bif r then 4096 + t else t
def putR (r : Bool) (dst : Option Nat) (o : Obj?) : List (Nat × Obj?) := match dst with | some t => [(nmR r t, o)] | none => []

/-- the cells of an aggregate, some of them replaced -/
def setAt (cs : List D) (off : Nat) (new : List D) : List D :=
  match new with
  | [] => cs
  | d :: r => setAt (cs.set off d) (off + 1) r

/-- a part of cells -/
def partD (cs : List D) (off n : Nat) (agg : Bool) : D := if agg then .agg ((cs.drop off).take n) else cs.getD off .top

/-- a new element, its cells replaced -/
def setE (e : D) (off : Nat) (new : List D) : D :=
  match e with
  | .agg cs => .agg (setAt cs off new)
  | _ => (match new with | [d] => d | _ => .agg new)

/-- integers, bools and strings: an operator's condition and value -/
def binD : BinOp → D → D → Prop × D
  | .shl, .int k x, .int _ y => (0 ≤ y, .int k (k.wrap (x * 2 ^ (Nat.min y.toNat k.bits))))
  | .shr, .int k x, .int _ y => (0 ≤ y, .int k (x.fdiv (2 ^ (Nat.min y.toNat k.bits))))
  | .add, .int k x, .int k' y => (k = k', .int k (k.wrap (x + y)))
  | .sub, .int k x, .int k' y => (k = k', .int k (k.wrap (x - y)))
  | .mul, .int k x, .int k' y => (k = k', .int k (k.wrap (x * y)))
  | .quo, .int k x, .int k' y => (k = k' ∧ y ≠ 0, .int k (k.wrap (x.tdiv y)))
  | .rem, .int k x, .int k' y => (k = k' ∧ y ≠ 0, .int k (x.tmod y))
  | .and, .int k x, .int k' y => (k = k', .int k (k.wrap ((BitVec.ofInt k.bits x &&& BitVec.ofInt k.bits y).toNat)))
  | .or, .int k x, .int k' y => (k = k', .int k (k.wrap ((BitVec.ofInt k.bits x ||| BitVec.ofInt k.bits y).toNat)))
  | .xor, .int k x, .int k' y => (k = k', .int k (k.wrap ((BitVec.ofInt k.bits x ^^^ BitVec.ofInt k.bits y).toNat)))
  | .andNot, .int k x, .int k' y => (k = k', .int k (k.wrap ((BitVec.ofInt k.bits x &&& ~~~ BitVec.ofInt k.bits y).toNat)))
  | .eql, .int k x, .int k' y => (k = k', .bool (x == y))
  | .neq, .int k x, .int k' y => (k = k', .bool (x != y))
  | .lss, .int k x, .int k' y => (k = k', .bool (decide (x < y)))
  | .leq, .int k x, .int k' y => (k = k', .bool (decide (x ≤ y)))
  | .gtr, .int k x, .int k' y => (k = k', .bool (decide (x > y)))
  | .geq, .int k x, .int k' y => (k = k', .bool (decide (x ≥ y)))
  | .add, .str x, .str y => (x.length + y.length ≤ 16777216, .str (x ++ y))
  | .eql, .str x, .str y => (True, .bool (x == y))
  | .neq, .str x, .str y => (True, .bool (!(x == y)))
  | _, _, _ => (False, .top)

def unD : UnOp → D → Prop × D
  | .not, .bool b => (True, .bool (!b))
  | .neg, .int k n => (True, .int k (k.wrap (0 - n)))
  | _, _ => (False, .top)

/-- equality of aggregates of integers, cell by cell: condition and value -/
def eqL : List D → List D → Prop × Bool
  | [], [] => (True, true)
  | .int k a :: r, .int k' b :: r' => (k = k' ∧ (eqL r r').1, (a == b) && (eqL r r').2)
  | _, _ => (False, false)

def int2 (f : Int → Int → Int) : D → D → Prop × D
  | .int k x, .int k' y => (k = k', .int k (f x y))
  | _, _ => (False, .top)
def maxI (x y : Int) : Int := if x < y then y else x
def minI (x y : Int) : Int := if y < x then y else x

/-- what a slice holds: condition, elements, what becomes frozen -/
def view : D → R (Prop × List D)
  | .sl es => .ret (True, es)
  | .nils => .ret (True, [])
  | .osl g v i n => .go g fun
    | some (v', o) => .ret (v = v' ∧ o.var = false ∧ i + n ≤ o.es.length, (o.es.drop i).take n)
    | none => .ret (False, [])
  | _ => .ret (False, [])

/-- a cell made free of references: condition, the cell, what is frozen by it -/
def resC : D → R (Prop × D × List (Nat × Obj?))
  | .osl g v i n => .go g fun
    | some (v', o) => .ret (v = v' ∧ o.var = false ∧ i + n ≤ o.es.length, .sl ((o.es.drop i).take n), [(g, some (v, { o with fz := true }))])
    | none => .ret (False, .top, [])
  | .nils => .ret (True, .sl [], [])
  | .clo f caps => .ret (caps.all isFro = true, .clo f caps, [])
  | .optr .. | .when .. | .tup .. | .agg .. => .ret (False, .top, [])
  | d => .ret (True, d, [])
def resCs : List D → R (Prop × List D × List (Nat × Obj?))
  | [] => .ret (True, [], [])
  | d :: r => do
    let (c, d', w) ← resC d
    let (c', r', w') ← resCs r
    pure (c ∧ c', d' :: r', w ++ w')
def res : D → R (Prop × D × List (Nat × Obj?))
  | .agg cs => do
    let (c, cs', w) ← resCs cs
    pure (c, .agg cs', w)
  | d => resC d

/-- a cell of a variable that is handed over by its contents (r: it may hold slices of its own) -/
def pasC (r : Bool) : D → R (Prop × D × List (Nat × Obj?))
  | .row s ty es => .ret (r = true, .row s ty es, [])
  | .hole .. => .ret (False, .top, [])
  | d => resC d
def pasCs (r : Bool) : List D → R (Prop × List D × List (Nat × Obj?))
  | [] => .ret (True, [], [])
  | d :: l => do
    let (c, d', w) ← pasC r d
    let (c', r', w') ← pasCs r l
    pure (c ∧ c', d' :: r', w ++ w')
def pas (r : Bool) : D → R (Prop × D × List (Nat × Obj?))
  | .agg cs => do
    let (c, cs', w) ← pasCs r cs
    pure (c, .agg cs', w)
  | d => pasC r d

/-- a cell that is stored into a rich object: own slices are held from now on by it alone -/
def cloC (var : Bool) : D → R (Prop × D × List (Nat × Obj?))
  | .osl g v 0 n => .go g fun
    | some (v', o) =>
      if o.fz then .ret (v = v' ∧ o.var = false ∧ n ≤ o.es.length, .sl (o.es.take n), [])
      else .ret (v = v' ∧ o.var = false ∧ n ≤ o.es.length ∧ (∀ e ∈ o.es, plainE e = true), .row o.s o.ty (o.es.take n), [(g, none)])
    | none => .ret (False, .top, [])
  | .osl .. | .row .. | .hole .. | .when .. | .tup .. | .agg .. | .top => .ret (False, .top, [])
  | .optr g v i off => .ret (var = true, .optr g v i off, [])
  | .clo f caps => .ret (var = true, .clo f caps, [])
  | d => .ret (True, d, [])
def cloCs (var : Bool) : List D → R (Prop × List D × List (Nat × Obj?))
  | [] => .ret (True, [], [])
  | d :: l => do
    let (c, d', w) ← cloC var d
    let (c', r', w') ← cloCs var l
    pure (c ∧ c' ∧ w'.all (fun x => w.all fun y => x.1 != y.1) = true, d' :: r', w ++ w')

def rdAs : List Arg → R (List D)
  | [] => .ret []
  | x :: r => do
    let d ← raw x
    let r' ← rdAs r
    pure (d :: r')

/-- the guards of some operands -/
def okAll (ds : List D) : Prop := ∀ d ∈ ds, (strip d).1 = true

def pure1 (dst : Option Nat) (p : Prop) (r : Prop × D) : Out := ⟨p ∧ r.1, put1 dst r.2, []⟩

/-- a part list of a struct: offsets, sizes, data -/
def fillD : List D → List (Nat × Nat × D) → List D
  | cs, [] => cs
  | cs, (off, _, d) :: r => fillD (setAt cs off (cells d)) r
def fillOk : Nat → List (Nat × Nat × D) → Prop
  | _, [] => True
  | n, (off, s, d) :: r => known d = true ∧ (cells d).length = s ∧ off + s ≤ n ∧ fillOk n r

def fillS : List D → List (Nat × D) → List D
  | es, [] => es
  | es, (i, d) :: r => fillS (es.set i d) r

def rdParts : List (Nat × Nat × Arg) → R (List (Nat × Nat × D))
  | [] => .ret []
  | (o, s, x) :: r => do
    let d ← raw x
    let r' ← rdParts r
    pure ((o, s, d) :: r')

/-- elements of a new slice: free of references -/
def rdElems : List (Nat × Arg) → R (Prop × List (Nat × D) × List (Nat × Obj?))
  | [] => .ret (True, [], [])
  | (i, x) :: r => do
    let d ← raw x
    let (c, d', w) ← res d
    let (c', r', w') ← rdElems r
    pure (c ∧ c', (i, d') :: r', w ++ w')

/-- one place of memory: the element and the offset in it -/
def atPtr : D → R (Prop × D × Nat)
  | .optr g v i off => .go g fun
    | some (v', o) => .ret (v = v' ∧ i < o.es.length, o.es.getD i .top, off)
    | none => .ret (False, .top, 0)
  | .fptr e off => .ret (True, e, off)
  | _ => .ret (False, .top, 0)

/-- the elements of new slices: nil slices as they are, everything else made free of them -/
def rawN : D → D
  | .nils => .nils
  | d => nrm d

def intOf : Prop × D → Prop × Int
  | (p, .int _ n) => (p, n)
  | _ => (False, 0)

/-- the bounds of a slice expression -/
def bound : Option D → Int → Prop × Int
  | none, n => (True, n)
  | some (.int _ k), _ => (True, k)
  | some _, _ => (False, 0)
def rdOpt : Option Arg → R (Option D)
  | none => .ret none
  | some x => do let d ← raw x; pure (some d)

def sliceD (d : D) (lo hi : Option D) : Prop × D :=
  match d with
  | .sl es => ((bound lo 0).1 ∧ (bound hi es.length).1 ∧ 0 ≤ (bound lo 0).2 ∧ (bound lo 0).2 ≤ (bound hi es.length).2 ∧ (bound hi es.length).2 ≤ es.length,
      .sl ((es.drop (bound lo 0).2.toNat).take ((bound hi es.length).2.toNat - (bound lo 0).2.toNat)))
  | .osl g v i n => ((bound lo 0).1 ∧ (bound hi n).1 ∧ 0 ≤ (bound lo 0).2 ∧ (bound lo 0).2 ≤ (bound hi n).2 ∧ (bound hi n).2 ≤ n,
      .osl g v (i + (bound lo 0).2.toNat) ((bound hi n).2.toNat - (bound lo 0).2.toNat))
  | .str s => ((bound lo 0).1 ∧ (bound hi s.length).1 ∧ 0 ≤ (bound lo 0).2 ∧ (bound lo 0).2 ≤ (bound hi s.length).2 ∧ (bound hi s.length).2 ≤ s.length,
      .str ((s.drop (bound lo 0).2.toNat).take ((bound hi s.length).2.toNat - (bound lo 0).2.toNat)))
  | .nils => ((bound lo 0).1 ∧ (bound hi 0).1 ∧ (bound lo 0).2 = 0 ∧ (bound hi 0).2 = 0, .nils)
  | _ => (False, .top)

/-- the elements of a slice have so many cells (0: it is a string) -/
def fits (s : Nat) : D → R Prop
  | .sl es => .ret (0 < s ∧ ∀ e ∈ es, (cells e).length = s)
  | .osl g v _ _ => .go g fun
    | some (v', o) => .ret (0 < s ∧ v = v' ∧ o.s = s)
    | none => .ret False
  | .nils => .ret (0 < s)
  | .str _ => .ret (s = 0)
  | _ => .ret False

def u8s (s : List UInt8) : List D := s.map fun b => .int .u8 b.toNat

/-- what is appended -/
def source (d : D) : R (Prop × List D) := view d

/-- onto what is appended: condition, what it holds, what is used up -/
def target (s ty : Nat) : D → R (Prop × List D × List (Nat × Obj?) × Bool)
  | .nils => .ret (True, [], [], false)
  | .osl g v i n => .go g fun
    | some (v', o) => .ret (v = v' ∧ i = 0 ∧ n ≤ o.es.length ∧ o.fz = false ∧ o.var = false ∧ o.s = s ∧ o.ty = ty, o.es.take n, [(g, none)], rich g)
    | none => .ret (False, [], [], false)
  | _ => .ret (False, [], [], false)

/-- an argument that is a pointer to an own variable is handed over by its contents -/
def ptrArg (s ty : Nat) : D → R (Prop × D × List (Nat × Obj?) × List (Nat × Nat × Own))
  | .optr g v i off => .go g fun
    | some (v', o) => do
      let (c, e', w) ← pas (rich g) (o.es.getD 0 .top)
      pure ((v = v' ∧ i = 0 ∧ off = 0 ∧ o.fz = false ∧ o.var = true ∧ o.es.length = 1 ∧ o.s = s ∧ o.ty = ty) ∧ c, e', w, [(g, v, o)])
    | none => .ret (False, .top, [], [])
  | _ => .ret (False, .top, [], [])
/-- an argument of a call. 'ptr' tells the places of pointers to own variables; what the closure at place j holds has the places from 64 * (j + 1) on -/
def plainArg (ptr : List (Nat × (Nat × Nat))) (j : Nat) (d : D) : R (Prop × D × List (Nat × Obj?) × List (Nat × Nat × Own)) :=
  match look ptr j with
  | some (s, ty) => ptrArg s ty d
  | none => do
    let (c, d', w) ← res d
    pure (c, d', w, [])
def callCaps (ptr : List (Nat × (Nat × Nat))) : Nat → List D → R (Prop × List D × List (Nat × Obj?) × List (Nat × Nat × Own))
  | _, [] => .ret (True, [], [], [])
  | j, d :: r => do
    let (c, d', w, ps) ← plainArg ptr j d
    let (c', r', w', ps') ← callCaps ptr (j + 1) r
    pure (c ∧ c' ∧ ps'.all (fun x => ps.all fun y => x.1 != y.1) = true, d' :: r', w ++ w', ps ++ ps')
def callArg (ptr : List (Nat × (Nat × Nat))) (j : Nat) (d : D) : R (Prop × D × List (Nat × Obj?) × List (Nat × Nat × Own)) :=
  match d with
  | .clo f caps =>
    match look ptr j with
    | some _ => .ret (False, .top, [], [])
    | none => do
      let (c, caps', w, ps) ← callCaps ptr (64 * (j + 1)) caps
      pure (c, .clo f caps', w, ps)
  | d => plainArg ptr j d
def callArgs (ptr : List (Nat × (Nat × Nat))) : Nat → List D → R (Prop × List D × List (Nat × Obj?) × List (Nat × Nat × Own))
  | _, [] => .ret (True, [], [], [])
  | j, d :: r => do
    let (c, d', w, ps) ← callArg ptr j d
    let (c', r', w', ps') ← callArgs ptr (j + 1) r
    pure (c ∧ c' ∧ ps'.all (fun x => ps.all fun y => x.1 != y.1) = true, d' :: r', w ++ w', ps ++ ps')

/-- the objects behind the pointers after the call -/
def handBack : List (Nat × Nat × Own) → List D → List (Nat × Obj?)
  | [], _ => []
  | (g, v, o) :: r, ds => (g, some (v, { o with es := [ds.headD .top] })) :: handBack r ds.tail

def isGround1 : D → Bool
  | .int .. | .bool .. | .str .. => true
  | _ => false
def isGround : D → Bool
  | .agg cs => cs.all isGround1
  | .tup ds => ds.all isGround1
  | d => isGround1 d

def callOut (dst : Option Nat) (nv : Nat) (sp : Spec) (p : Prop) (ds : List D) (w : List (Nat × Obj?)) (ps : List (Nat × Nat × Own)) : Out :=
  match sp.kind with
  | .val => ⟨p ∧ sp.pre ds, put1 dst (sp.res ds), handBack ps (sp.eff ds) ++ w⟩
  | .ground => ⟨p ∧ sp.pre ds ∧ isGround (sp.res ds) = true ∧ sp.ptr = [], put1 dst (sp.res ds), []⟩
  | .row s ty =>
    match sp.res ds with
    | .sl es => ⟨p ∧ sp.pre ds ∧ dst.isSome = true, put1 dst (.osl (dst.getD 0) nv 0 es.length), putO dst (some (nv, ⟨false, false, s, ty, es⟩)) ++ handBack ps (sp.eff ds) ++ w⟩
    | _ => ⟨False, [], []⟩
  | .mat s ty =>
    match sp.res ds with
    | .sl es => ⟨p ∧ sp.pre ds ∧ dst.isSome = true, put1 dst (.osl (nmR true (dst.getD 0)) nv 0 es.length), putR true dst (some (nv, ⟨false, false, s, ty, es⟩)) ++ handBack ps (sp.eff ds) ++ w⟩
    | _ => ⟨False, [], []⟩
  | .ptr s ty => ⟨p ∧ sp.pre ds ∧ dst.isSome = true, put1 dst (.optr (dst.getD 0) nv 0 0), putO dst (some (nv, ⟨false, true, s, ty, [sp.res ds]⟩)) ++ handBack ps (sp.eff ds) ++ w⟩
  | .tupPtr i s ty =>
    match sp.res ds with
    | .tup rs => ⟨p ∧ sp.pre ds ∧ dst.isSome = true, put1 dst (.tup (rs.set i (.optr (dst.getD 0) nv 0 0))), putO dst (some (nv, ⟨false, true, s, ty, [rs.getD i .top]⟩)) ++ handBack ps (sp.eff ds) ++ w⟩
    | _ => ⟨False, [], []⟩
  | .inpl .. => ⟨False, [], []⟩

def dInt : D → Int
  | .int _ n => n
  | _ => 0
/-- a call that writes an own slice of ints in place -/
def inplR (dst : Option Nat) (q : Bool × (List Int → List Int) × (List Int → Nat)) : List D → R Out
  | [.nils] => .ret ⟨True, put1 dst (if q.1 then .nils else .top), []⟩
  | [.osl g v i n] => .go g fun
    | some (v', o) => .ret ⟨v = v' ∧ o.fz = false ∧ o.var = false ∧ o.s = 1 ∧ i + n ≤ o.es.length ∧ n < 4611686018427387904 ∧ (rich g = true → ∀ e ∈ o.es, plainE e = true) ∧ (o.es.drop i).take n = (((o.es.drop i).take n).map dInt).map (.int .i64),
        put1 dst (if q.1 then .osl g v i (q.2.2 (((o.es.drop i).take n).map dInt)) else .top),
        [(g, some (v, { o with es := if q.1 then (o.es.take i ++ (q.2.1 (((o.es.drop i).take n).map dInt)).map (D.int .i64) ++ o.es.drop (i + n)).take (i + q.2.2 (((o.es.drop i).take n).map dInt)) else o.es.take i ++ (q.2.1 (((o.es.drop i).take n).map dInt)).map (D.int .i64) ++ o.es.drop (i + n) }))]⟩
    | none => .ret ⟨False, [], []⟩
  | _ => .ret ⟨False, [], []⟩

/-- which of a function's specs: by the closures among the arguments -/
def kcode : List D → Nat
  | [] => 0
  | .clo f _ :: r => kcode r * 4096 + (f + 1)
  | _ :: r => kcode r

def evalOp (Γ : Specs) (nv : Nat) (dst : Option Nat) : DOp → R Out
  | .mv x => do pure ⟨True, put1 dst (← raw x), []⟩
  | .asg x sl => do
    let d ← raw x
    match d, sl with
    | .nils, some (s, ty) => pure ⟨True, put1 dst (.osl (dst.getD 0) nv 0 0), putO dst (some (nv, ⟨false, false, s, ty, []⟩))⟩
    | .osl g v 0 n, some _ => .go g fun
      | some (v', o) =>
        if o.fz then .ret ⟨v = v' ∧ o.var = false ∧ n ≤ o.es.length, put1 dst (.sl (o.es.take n)), []⟩
        else .ret ⟨v = v' ∧ o.var = false ∧ n ≤ o.es.length ∧ (rich g = true → ∀ e ∈ o.es, plainE e = true), put1 dst (.osl (nmR (rich g) (dst.getD 0)) nv 0 n), putR (rich g) dst (some (nv, { o with es := o.es.take n })) ++ [(g, none)]⟩
      | none => .ret ⟨False, [], []⟩
    | d, _ => pure ⟨True, put1 dst d, []⟩
  | .pick c a b => do
    let (p, c) ← rdA c
    let (q, a) ← rdA a
    let (r, b) ← rdA b
    match c, a, b with
    | .bool c, .bool a, .bool b => pure ⟨p = true ∧ (c = true → q = true) ∧ (c = false → r = true), put1 dst (.bool (if c then a else b)), []⟩
    | _, _, _ => pure ⟨False, [], []⟩
  | .new z s ty => .ret ⟨True, put1 dst (.optr (dst.getD 0) nv 0 0), putO dst (some (nv, ⟨false, true, s, ty, [z]⟩))⟩
  | .box x s ty => do
    let (p, d) ← rdA x
    pure ⟨p = true ∧ known d = true ∧ (cells d).length = s, put1 dst (.optr (dst.getD 0) nv 0 0), putO dst (some (nv, ⟨false, true, s, ty, [d]⟩))⟩
  | .bld z parts => do
    let ps ← rdParts parts
    pure ⟨fillOk z.length ps, put1 dst (.agg (fillD z ps)), []⟩
  | .bldS s ty z len parts => do
    let (c, ps, w) ← rdElems parts
    pure ⟨c ∧ (∀ p ∈ ps, known p.2 = true ∧ (cells p.2).length = s ∧ p.1 < len), put1 dst (.osl (dst.getD 0) nv 0 len), putO dst (some (nv, ⟨false, false, s, ty, fillS (List.replicate len z) ps⟩)) ++ w⟩
  | .ld n agg a => do
    let (p, a) ← rdA a
    match a with
    | .optr g v i off => .go g fun
      | some (v', o) =>
        match rich g, partD (cells (o.es.getD i .top)) off n agg with
        | true, .row s ty es => .ret ⟨p = true ∧ (v = v' ∧ i < o.es.length) ∧ off + n ≤ (cells (o.es.getD i .top)).length ∧ o.fz = false ∧ dst.isSome = true ∧ n = 1 ∧ agg = false ∧ g ≠ 4096 + dst.getD 0,
            put1 dst (.osl (4096 + dst.getD 0) nv 0 es.length),
            [(4096 + dst.getD 0, some (nv, ⟨false, false, s, ty, es⟩)), (g, some (v, { o with es := o.es.set i (setE (o.es.getD i .top) off [.hole nv es.length]) }))]⟩
        | _, d => .ret ⟨p = true ∧ (v = v' ∧ i < o.es.length) ∧ off + n ≤ (cells (o.es.getD i .top)).length, put1 dst d, []⟩
      | none => .ret ⟨p = true ∧ False ∧ off + n ≤ (cells D.top).length, put1 dst (partD (cells .top) 0 n agg), []⟩
    | a => do
      let (c, e, off) ← atPtr a
      pure ⟨p = true ∧ c ∧ off + n ≤ (cells e).length, put1 dst (partD (cells e) off n agg), []⟩
  | .st n a x => do
    let (p, a) ← rdA a
    let (q, d) ← rdA x
    match a with
    | .optr g v i off => .go g fun
      | some (v', o) =>
        if rich g then do
          let (c, cs', w) ← cloCs o.var (cells d)
          .ret ⟨p = true ∧ q = true ∧ c ∧ v = v' ∧ o.fz = false ∧ i < o.es.length ∧ known d = true ∧ (cells d).length = n ∧ off + n ≤ (cells (o.es.getD i .top)).length ∧ w.all (fun x => x.1 != g) = true, [],
            (g, some (v, { o with es := o.es.set i (setE (o.es.getD i .top) off cs') })) :: w⟩
        else if o.var then
          .ret ⟨p = true ∧ q = true ∧ v = v' ∧ o.fz = false ∧ i < o.es.length ∧ known d = true ∧ (cells d).length = n ∧ off + n ≤ (cells (o.es.getD i .top)).length, [],
            [(g, some (v, { o with es := o.es.set i (setE (o.es.getD i .top) off (cells d)) }))]⟩
        else do
          let (c, d', w) ← res d
          pure ⟨p = true ∧ q = true ∧ c ∧ v = v' ∧ o.fz = false ∧ i < o.es.length ∧ known d' = true ∧ (cells d').length = n ∧ off + n ≤ (cells (o.es.getD i .top)).length ∧ w.all (fun x => x.1 != g) = true, [],
            (g, some (v, { o with es := o.es.set i (setE (o.es.getD i .top) off (cells d')) })) :: w⟩
      | none => .ret ⟨False, [], []⟩
    | _ => .ret ⟨False, [], []⟩
  | .nilck x => do
    let (p, d) ← rdA x
    match d with
    | .optr .. | .fptr .. => pure ⟨p = true, put1 dst d, []⟩
    | _ => pure ⟨False, [], []⟩
  | .bin op x y => do
    let (p, x) ← rdA x
    let (q, y) ← rdA y
    pure (pure1 dst (p = true ∧ q = true) (binD op x y))
  | .eqB neg x y => do
    let (p, x) ← rdA x
    let (q, y) ← rdA y
    match x, y with
    | .bool a, .bool b => pure ⟨p = true ∧ q = true, put1 dst (.bool (if neg then !(a == b) else (a == b))), []⟩
    | _, _ => pure ⟨False, [], []⟩
  | .eqA n neg x y => do
    let (p, x) ← rdA x
    let (q, y) ← rdA y
    match x, y with
    | .agg a, .agg b => pure ⟨p = true ∧ q = true ∧ (eqL a b).1 ∧ a.length = n, put1 dst (.bool (if neg then !(eqL a b).2 else (eqL a b).2)), []⟩
    | _, _ => pure ⟨False, [], []⟩
  | .un op x => do
    let (p, x) ← rdA x
    pure (pure1 dst (p = true) (unD op x))
  | .cvt k x => do
    let (p, x) ← rdA x
    match x with
    | .int _ n => pure ⟨p = true, put1 dst (.int k (k.wrap n)), []⟩
    | _ => pure ⟨False, [], []⟩
  | .mkS s ty bytes z len cap => do
    let (p, l) ← rdA len
    let (q, c) ← rdA cap
    match l, c with
    | .int _ l, .int _ c => pure ⟨p = true ∧ q = true ∧ 0 ≤ l ∧ l ≤ c ∧ c ≤ 16777216 ∧ bytes ≤ 65536, put1 dst (.osl (dst.getD 0) nv 0 l.toNat), putO dst (some (nv, ⟨false, false, s, ty, List.replicate l.toNat z⟩))⟩
    | _, _ => pure ⟨False, [], []⟩
  | .slc s x lo hi => do
    let (p, d) ← rdA x
    let lo ← rdOpt lo
    let hi ← rdOpt hi
    let c ← fits s d
    pure (pure1 dst (p = true ∧ c) (sliceD d lo hi))
  | .fldA off x => do
    let (p, d) ← rdA x
    match d with
    | .optr g v i o => pure ⟨p = true, put1 dst (.optr g v i (o + off)), []⟩
    | .fptr e o => pure ⟨p = true, put1 dst (.fptr e (o + off)), []⟩
    | _ => pure ⟨False, [], []⟩
  | .fld off n agg x => do
    let (p, d) ← rdA x
    match d with
    | .agg cs => pure ⟨p = true ∧ off + n ≤ cs.length, put1 dst (partD cs off n agg), []⟩
    | _ => pure ⟨False, [], []⟩
  | .ixA s x i => do
    let (p, d) ← rdA x
    let (q, j) ← rdA i
    match d, j with
    | .osl g v i n, .int _ j => .go g fun
      | some (v', o) => .ret ⟨p = true ∧ q = true ∧ v = v' ∧ o.var = false ∧ o.s = s ∧ 0 ≤ j ∧ j < n, put1 dst (.optr g v (i + j.toNat) 0), []⟩
      | none => .ret ⟨False, [], []⟩
    | .sl es, .int _ j => pure ⟨p = true ∧ q = true ∧ 0 ≤ j ∧ j < es.length ∧ (cells (es.getD j.toNat .top)).length = s, put1 dst (.fptr (es.getD j.toNat .top) 0), []⟩
    | _, _ => pure ⟨False, [], []⟩
  | .ixP s len x i => do
    let (p, d) ← rdA x
    let (q, j) ← rdA i
    match d, j with
    | .optr g v i o, .int _ j => pure ⟨p = true ∧ q = true ∧ 0 ≤ j ∧ j < len, put1 dst (.optr g v i (o + j.toNat * s)), []⟩
    | .fptr e o, .int _ j => pure ⟨p = true ∧ q = true ∧ 0 ≤ j ∧ j < len, put1 dst (.fptr e (o + j.toNat * s)), []⟩
    | _, _ => pure ⟨False, [], []⟩
  | .ix s len agg x i => do
    let (p, d) ← rdA x
    let (q, j) ← rdA i
    match d, j with
    | .agg cs, .int _ j => pure ⟨p = true ∧ q = true ∧ 0 ≤ j ∧ j < len ∧ len * s ≤ cs.length, put1 dst (partD cs (j.toNat * s) s agg), []⟩
    | _, _ => pure ⟨False, [], []⟩
  | .ixStr x i => do
    let (p, d) ← rdA x
    let (q, j) ← rdA i
    match d, j with
    | .str s, .int _ j => pure ⟨p = true ∧ q = true ∧ 0 ≤ j ∧ j < s.length, put1 dst (.int .u8 (s.getD j.toNat 0).toNat), []⟩
    | _, _ => pure ⟨False, [], []⟩
  | .ext x i => do
    let (p, d) ← rdA x
    match d with
    | .tup ds => pure ⟨p = true ∧ i < ds.length, put1 dst (ds.getD i .top), []⟩
    | _ => pure ⟨False, [], []⟩
  | .call f args => do
    let fd ← raw f
    match fd with
    | .clo k caps => do
      let ds ← rdAs args
      match Nat.blt k 4096, Γ (k + 4096 * kcode ds) with
      | true, some sp =>
        match inplOf sp.kind with
        | none => do
          let (c, ds', w, ps) ← callArgs sp.ptr 0 (ds ++ caps)
          pure (callOut dst nv sp c ds' w ps)
        | some q => inplR dst q (ds ++ caps)
      | _, _ => .ret ⟨False, [], []⟩
    | _ => .ret ⟨False, [], []⟩
  | .len str x => do
    let (p, d) ← rdA x
    match d with
    | .sl es => pure ⟨p = true ∧ str = false, put1 dst (.int .i64 es.length), []⟩
    | .osl _ _ _ n => pure ⟨p = true ∧ str = false, put1 dst (.int .i64 n), []⟩
    | .nils => pure ⟨p = true ∧ str = false, put1 dst (.int .i64 0), []⟩
    | .str s => pure ⟨p = true ∧ str = true, put1 dst (.int .i64 s.length), []⟩
    | _ => pure ⟨False, [], []⟩
  | .app s ty bytes x y => do
    let (p, x) ← rdA x
    let (q, y) ← rdA y
    let (c, new) ← source y
    let (c', old, w, r) ← target s ty x
    pure ⟨p = true ∧ q = true ∧ c ∧ c' ∧ old.length + new.length ≤ 16777216 ∧ bytes ≤ 65536 ∧ (∀ e ∈ new, (cells e).length = s) ∧ (r = true → ∀ e ∈ old ++ new, plainE e = true),
      put1 dst (.osl (nmR r (dst.getD 0)) nv 0 (old.length + new.length)), putR r dst (some (nv, ⟨false, false, s, ty, old ++ new⟩)) ++ w⟩
  | .max xs => do
    let ds ← rdAs xs
    match ds with
    | [x, y] => pure (pure1 dst ((strip x).1 = true ∧ (strip y).1 = true) (int2 maxI (strip x).2 (strip y).2))
    | _ => pure ⟨False, [], []⟩
  | .min xs => do
    let ds ← rdAs xs
    match ds with
    | [x, y] => pure (pure1 dst ((strip x).1 = true ∧ (strip y).1 = true) (int2 minI (strip x).2 (strip y).2))
    | _ => pure ⟨False, [], []⟩
  | .mkf f caps => do
    let ds ← rdAs caps
    pure ⟨∀ d ∈ ds, refOnly d = true, put1 dst (.clo f ds), []⟩

def guardOf : D → Bool → Prop × Bool
  | .bool b, want => (True, b == want)
  | .when p (.bool b), want => (True, p && (b == want))
  | _, _ => (False, false)

def evalOper (Γ : Specs) (nv : Nat) (o : DOper) : R Out :=
  match o.guard with
  | none => evalOp Γ nv o.dst o.op
  | some (t, want) => .ge t fun d =>
    if (guardOf d want).2 then do
      let u ← evalOp Γ nv o.dst o.op
      pure ⟨(guardOf d want).1 ∧ u.c, u.we, u.wo⟩
    else .ret ⟨(guardOf d want).1, put1 o.dst (.when false (.bool false)), []⟩

def wpOps (Γ : Specs) : List DOper → Nat → S → (S → Prop) → Prop
  | [], _, σ, K => K σ
  | o :: r, nv, σ, K => ((evalOper Γ nv o).run σ).c ∧ wpOps Γ r (nv + 1) (σ.app ((evalOper Γ nv o).run σ)) K

/-- where each operation looks and writes -/
def feet (Γ : Specs) : List DOper → Nat → S → List (List Key × List Key × List Nat)
  | [], _, _ => []
  | o :: r, nv, σ => ((evalOper Γ nv o).rd σ, ((evalOper Γ nv o).run σ).we.map (fun x => .e x.1) ++ ((evalOper Γ nv o).run σ).wo.map (fun x => .o x.1), o.after) :: feet Γ r (nv + 1) (σ.app ((evalOper Γ nv o).run σ))

def meet (a b : List Key) : Bool := a.any fun k => b.contains k
/-- operations that touch each other stand in an order that binds -/
def clash (x y : List Key × List Key × List Nat) : Bool := meet x.2.1 y.1 || meet x.2.1 y.2.1 || meet x.1 y.2.1
/-- for each operation the operations that are done before it, whatever the order -/
def ancs : List (List Nat) → List (List Nat) → List (List Nat)
  | acc, [] => acc
  | acc, a :: r => ancs (acc ++ [(a ++ a.flatMap fun e => acc.getD e []).eraseDups]) r
def drawOkA (A : List (List Nat)) (f : List (List Key × List Key × List Nat)) : Bool :=
  (List.range f.length).all fun j => (List.range j).all fun i =>
    !clash (f.getD i ([], [], [])) (f.getD j ([], [], [])) || (A.getD j []).contains i
def drawOk (f : List (List Key × List Key × List Nat)) : Bool := drawOkA (ancs [] (f.map fun x => x.2.2)) f

inductive DCode where
  | skip
  | reg (ops : List DOper) (draw : Bool)
  | seq (a b : DCode)
  | cond (c : Arg) (a b : DCode)
  | block (id : Nat) (b : DCode)
  | loop (b : DCode)
  | exit (id : Nat)
  | ret

def evalA (σ : S) : Arg → D
  | .t n => σ.ge n
  | .c d => d

theorem nrms_map : ∀ l : List D, nrms l = l.map nrm
  | [] => rfl
  | d :: r => by simp [nrms, nrms_map r]
theorem cells_nrm (e : D) : cells (nrm e) = nrms (cells e) := by
  cases e <;> simp [nrm, cells, nrms]

def FzList (σ : S) (ws : List (Nat × Obj?)) : Prop := ∀ p ∈ ws, ∃ v o, σ.go p.1 = some (v, o) ∧ o.var = false ∧ p.2 = some (v, { o with fz := true })
/-- a cell as it is, or made free of references (what it refers to is frozen: 'ws') -/
def ConvC (σ : S) (ws : List (Nat × Obj?)) (c c' : D) : Prop := c = c' ∨ (((resC c).run σ).1 ∧ ((resC c).run σ).2.1 = c' ∧ ∀ p ∈ ((resC c).run σ).2.2, p ∈ ws)
def ConvCs (σ : S) (ws : List (Nat × Obj?)) : List D → List D → Prop
  | [], [] => True
  | c :: r, c' :: r' => ConvC σ ws c c' ∧ ConvCs σ ws r r'
  | _, _ => False
def Conv (σ : S) (ws : List (Nat × Obj?)) (d d' : D) : Prop := ConvC σ ws d d' ∨ ∃ cs cs', d = .agg cs ∧ d' = .agg cs' ∧ ConvCs σ ws cs cs'
/-- the objects with some of them frozen -/
def S.gof (σ : S) (ws : List (Nat × Obj?)) (g : Nat) : Obj? := (S.mk σ.e (ws ++ σ.o) σ.n).go g
/-- fewer facts, some data made free of references -/
structure Weak (ws : List (Nat × Obj?)) (σ τ : S) : Prop where
  fz : FzList σ ws
  e : ∀ p ∈ τ.e, Conv σ ws (σ.ge p.1) p.2
  o : ∀ p ∈ τ.o, σ.gof ws p.1 = p.2 ∨ ∃ v o z z', σ.gof ws p.1 = some (v, o) ∧ o.var = true ∧ o.es = [z] ∧ p.2 = some (v, { o with es := [z'] }) ∧ Conv σ ws z z'
  n : σ.n ≤ τ.n

/-! ### Other steps that only change how a state is described -/
mutual
/-- references to object g name it g' -/
def ren (g g' : Nat) : D → D
  | .osl k v i n => .osl (bif Nat.beq k g then g' else k) v i n
  | .optr k v i off => .optr (bif Nat.beq k g then g' else k) v i off
  | .agg cs => .agg (rens g g' cs)
  | .clo f cs => .clo f (rens g g' cs)
  | .tup cs => .tup (rens g g' cs)
  | d => d
def rens (g g' : Nat) : List D → List D
  | [] => []
  | d :: r => ren g g' d :: rens g g' r
end
mutual
/-- pointers to variable g, which holds z from now on -/
def frp (g v : Nat) (z : D) : D → D
  | .optr k u i off => bif Nat.beq k g && Nat.beq u v && Nat.beq i 0 then .fptr z off else .optr k u i off
  | .agg cs => .agg (frps g v z cs)
  | .clo f cs => .clo f (frps g v z cs)
  | .tup cs => .tup (frps g v z cs)
  | d => d
def frps (g v : Nat) (z : D) : List D → List D
  | [] => []
  | d :: r => frp g v z d :: frps g v z r
end
def frO (g v : Nat) (z : D) : Obj? → Obj?
  | some (u, o) => some (u, { o with es := bif o.var then o.es.map (frp g v z) else o.es })
  | none => none

/-- cells as they are, but nil slices are slices of one's own -/
def Enr (r : Bool) (e e' : D) : Prop := (cells e').length = (cells e).length ∧ ∀ (j : Nat) c c', (cells e)[j]? = some c → (cells e')[j]? = some c' → (c' = c ∧ (r = true ∨ plain c = true)) ∨ (c = .nils ∧ ∃ s ty, 0 < s ∧ c' = .row s ty [])
/-- cells as they are, but own slices are frozen -/
def Frr (e e' : D) : Prop := (cells e').length = (cells e).length ∧ ∀ (j : Nat) c c', (cells e)[j]? = some c → (cells e')[j]? = some c' → c' = c ∨ ∃ s ty es, c = .row s ty es ∧ (∀ q ∈ es, plainE q = true) ∧ c' = .sl es
def Each (R : D → D → Prop) (l l' : List D) : Prop := l'.length = l.length ∧ ∀ (i : Nat) e e', l[i]? = some e → l'[i]? = some e' → R e e'

inductive Rw (σ : S) : S → Prop
  /-- a slice that was taken out of a cell is put back (or put into the cell that refers to it) -/
  | close (g v i off g' v' m : Nat) (og o' : Own) (c : D) (hg : σ.go g = some (v, og)) (hr : rich g = true) (hfz : og.fz = false) (hi : i < og.es.length) (hc : (cells (og.es.getD i .top))[off]? = some c)
      (hh : c = .hole v' m ∨ (c = .osl g' v' 0 m ∧ og.var = true)) (hg' : σ.go g' = some (v', o')) (hfz' : o'.fz = false) (hvar : o'.var = false) (hm : m ≤ o'.es.length) (hp : (rich g' = true ∧ ∀ e ∈ o'.es, ∀ c ∈ cells e, ∀ u n, c ≠ .hole u n) ∨ ∀ e ∈ o'.es, plainE e = true) (hne : g ≠ g') :
      Rw σ ⟨σ.e, (g, some (v, { og with es := og.es.set i (setE (og.es.getD i .top) off [.row o'.s o'.ty (o'.es.take m)]) })) :: (g', none) :: σ.o, σ.n⟩
  | enrich (g g2 v : Nat) (o : Own) (es' : List D) (hg : σ.go g = some (v, o)) (hfz : o.fz = false) (hn : (g2 = g ∧ rich g = true) ∨ (rich g = false ∧ g2 = 4096 + g)) (he : Each (Enr (rich g)) o.es es') :
      Rw σ ⟨σ.e.map (fun p => (p.1, ren g g2 p.2)), (g2, some (v, { o with es := es' })) :: (g, bif Nat.beq g g2 then some (v, { o with es := es' }) else none) :: σ.o, σ.n⟩
  | frows (g v : Nat) (o : Own) (es' : List D) (hg : σ.go g = some (v, o)) (hr : rich g = true) (hfz : o.fz = false) (he : Each Frr o.es es') :
      Rw σ ⟨σ.e, (g, some (v, { o with es := es' })) :: σ.o, σ.n⟩
  | nilsl (g v : Nat) (o : Own) (hg : σ.go g = some (v, o)) (hr : rich g = false) (hfz : o.fz = false) (hvar : o.var = false) :
      Rw σ ⟨σ.e, (g, some (v, { o with es := o.es.map nrm })) :: σ.o, σ.n⟩
  | fvar (g v : Nat) (o : Own) (z : D) (hg : σ.go g = some (v, o)) (hfz : o.fz = false) (hvar : o.var = true) (hz : o.es = [z]) (hc : (cells z).all isFro = true) :
      Rw σ ⟨σ.e.map (fun p => (p.1, frp g v z p.2)), (g, none) :: σ.o.map (fun p => (p.1, frO g v z p.2)), σ.n⟩
  /-- a variable's slice gets a name of its own -/
  | opn (g v i off t s ty : Nat) (es : List D) (o : Own) (hg : σ.go g = some (v, o)) (hr : rich g = true) (hfz : o.fz = false) (hvar : o.var = true) (hi : i < o.es.length) (hrow : (cells (o.es.getD i .top))[off]? = some (.row s ty es)) (hne : g ≠ 4096 + t) :
      Rw σ ⟨σ.e, (4096 + t, some (σ.n, ⟨false, false, s, ty, es⟩)) :: (g, some (v, { o with es := o.es.set i (setE (o.es.getD i .top) off [.osl (4096 + t) σ.n 0 es.length]) })) :: σ.o, σ.n + 1⟩

/-- changes of the description -/
inductive Chg : S → S → Prop
  | refl (σ : S) : Chg σ σ
  | weak {σ τ υ : S} (ws : List (Nat × Obj?)) (h : Weak ws σ τ) (k : Chg τ υ) : Chg σ υ
  | rw {σ τ υ : S} (h : Rw σ τ) (k : Chg τ υ) : Chg σ υ
theorem Chg.n {σ τ : S} (h : Chg σ τ) : σ.n ≤ τ.n := by
  induction h with
  | refl => exact Nat.le_refl _
  | weak ws h _ ih => exact Nat.le_trans h.n ih
  | rw h _ ih => cases h <;> first | exact ih | exact Nat.le_trans (Nat.le_succ _) ih
theorem Chg.trans {σ τ υ : S} (h : Chg σ τ) (k : Chg τ υ) : Chg σ υ := by
  induction h with
  | refl => exact k
  | weak ws h _ ih => exact .weak ws h (ih k)
  | rw h _ ih => exact .rw h (ih k)
def Wk (f : S → Prop) : S → Prop := fun σ => ∃ τ, Chg σ τ ∧ f τ

/-- fewer facts -/
def Weaken (σ τ : S) : Prop := (∀ p ∈ τ.e, σ.ge p.1 = p.2) ∧ (∀ p ∈ τ.o, σ.go p.1 = p.2) ∧ σ.n ≤ τ.n

inductive DExit where
  | normal
  | exit (id : Nat)
  | ret

def DExit.then (next : S → Prop) (Q : DExit → S → Prop) : DExit → S → Prop
  | .normal, σ => next σ
  | e, σ => Q e σ
def DExit.inBlock (id : Nat) (Q : DExit → S → Prop) : DExit → S → Prop
  | .exit id', σ => if id' = id then Wk (Q .normal) σ else Q (.exit id') σ
  | e, σ => Q e σ

def DWp (Γ : Specs) : DCode → (DExit → S → Prop) → S → Prop
  | .skip, Q, σ => Q .normal σ
  | .reg ops draw, Q, σ => wpOps Γ ops σ.n σ (fun τ => Q .normal { τ with n := σ.n + ops.length }) ∧ (draw = true → drawOk (feet Γ ops σ.n σ) = true)
  | .seq a b, Q, σ => DWp Γ a (DExit.then (Wk (DWp Γ b Q)) Q) σ
  | .cond c a b, Q, σ =>
    match evalA σ c with
    | .bool t => (t = true → DWp Γ a Q σ) ∧ (t = false → DWp Γ b Q σ)
    | _ => False
  | .block id b, Q, σ => DWp Γ b (DExit.inBlock id Q) σ
  | .loop b, Q, σ => ∃ (ι : Type) (St : ι → S) (μ : ι → Nat) (i₀ : ι), Chg σ (St i₀) ∧
      ∀ i, DWp Γ b (DExit.then (fun τ => ∃ i', μ i' < μ i ∧ Chg τ (St i')) Q) (St i)
  | .exit id, Q, σ => Q (.exit id) σ
  | .ret, Q, σ => Q .ret σ

end Go.Dw
