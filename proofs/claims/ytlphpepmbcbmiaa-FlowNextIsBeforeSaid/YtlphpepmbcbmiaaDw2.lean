/-
  THE LAYER Dw, PART 2: the compiler of code into 'DCode' (a closed function of the program), and how data, objects and states stand for values and worlds.
-/
import Derived.Test.YtlphpepmbcbmiaaDw1
import Derived.ChangeKeysEq
import Derived.Laws.StructEq
namespace Go.Dw

/-! ### The compiler -/

def valD1 : Value → D
  | .int k n => .int k n
  | .bool b => .bool b
  | .string s => .str s.data.toList
  | .slice none 0 0 => .nils
  | .nilFunc => .nilf
  | _ => .top
def valD : Value → D
  | .agg cs => .agg (cs.toList.map valD1)
  | v => valD1 v

def oneCells : Value → Bool
  | .agg cs => cs.toList.all Value.oneCell'
  | v => v.oneCell'

def cArg : Operand → Option Arg
  | .tmp t => some (.t t)
  | .const v => if oneCells v then some (.c (valD v)) else none
  | .func f => some (.c (.clo f []))
  | .global _ => none

def cArgs (l : List Operand) : Option (List Arg) := l.mapM cArg

section
variable (P : Program)

def aggT (t : TypeId) : Bool := match P.underlying t with | some (.struct _) | some (.array _ _) => true | _ => false
def zeroD (t : TypeId) : Option D := do
  let z ← (← P.info? t).zero
  if oneCells z && z.cells.size == P.cellsOf t then some (valD z) else none

def cParts (places : Nat → Option (Nat × Nat)) : List (Nat × Operand) → Option (List (Nat × Nat × Arg))
  | [] => some []
  | (i, x) :: r => do
    let (o, s) ← places i
    let a ← cArg x
    let r' ← cParts places r
    some ((o, s, a) :: r')
def cElems : List (Nat × Operand) → Option (List (Nat × Arg))
  | [] => some []
  | (i, x) :: r => do
    let a ← cArg x
    let r' ← cElems r
    some ((i, a) :: r')

def intT (t : TypeId) : Bool := P.cellsOf t == 1 && (match P.underlying t with | some (.int _) => true | _ => false)
/-- how many cells an aggregate of integers has -/
def flatInt (t : TypeId) : Option Nat :=
  match P.underlying t with
  | some (.array n e) => if (P.info? e).isSome && intT P e && !P.eqGuardType P.depth t then some n else none
  | some (.struct fs) => if !P.stoodInHeld t && !P.eqGuardType P.depth t && (List.range fs.size).all (fun i => match fs[i]? with | some f => f.name != "_" && f.offset == i && intT P f.type | none => false) then some fs.size else none
  | _ => none

def cOpt : Option Operand → Option (Option Arg)
  | none => some none
  | some x => do some (some (← cArg x))

def cCall (c : Call) : Option DOp :=
  match c.callee, c.args.toList, c.argTypes.toList with
  | .value f, as, _ => do some (.call (← cArg f) (← cArgs as))
  | .builtin .len, [x], [t] =>
    match P.underlying t with
    | some (.slice _) => do some (.len false (← cArg x))
    | some .string => do some (.len true (← cArg x))
    | _ => none
  | .builtin .append, [x, y], [t, u] =>
    match P.underlying t, P.underlying u with
    | some (.slice e), some (.slice e') => do
      let i ← P.info? e
      let _ ← i.zero
      let z ← zeroD P e
      if t = u ∧ 0 < P.cellsOf e ∧ (cells z).length = P.cellsOf e ∧ i.bytes ≤ 65536 ∧ e' = e then some (.app (P.cellsOf e) e i.bytes (← cArg x) (← cArg y)) else none
    | _, _ => none
  | .builtin .max, as, _ => do some (.max (← cArgs as))
  | .builtin .min, as, _ => do some (.min (← cArgs as))
  | _, _, _ => none

def cOp (type : TypeId) : Op → Option DOp
  | .move x => do some (.mv (← cArg x))
  | .assign x =>
    match P.underlying type with
    | some (.slice e) => do some (.asg (← cArg x) (if 0 < P.cellsOf e then some (P.cellsOf e, e) else none))
    | _ => do some (.asg (← cArg x) none)
  | .pick c a b => do some (.pick (← cArg c) (← cArg a) (← cArg b))
  | .alloc e => do
    let z ← zeroD P e
    if 0 < P.cellsOf e then some (.new z (P.cellsOf e) e) else none
  | .box e x => do if 0 < P.cellsOf e then some (.box (← cArg x) (P.cellsOf e) e) else none
  | .build t parts => do
    let z ← zeroD P t
    match z, P.underlying t with
    | .agg cs, some (.struct fs) => do
      let ps ← cParts (fun i => (fs[i]?).map fun f => (f.offset, P.cellsOf f.type)) parts.toList
      if fs.toList.all (fun f => (P.info? f.type).isSome) then some (.bld cs ps) else none
    | .agg cs, some (.array _ e) => do
      let ps ← cParts (fun i => some (i * P.cellsOf e, P.cellsOf e)) parts.toList
      if (P.info? e).isSome then some (.bld cs ps) else none
    | _, _ => none
  | .buildSlice t len parts =>
    match P.underlying t with
    | some (.slice e) => do
      let z ← zeroD P e
      let ps ← cElems parts.toList
      if 0 < P.cellsOf e ∧ (cells z).length = P.cellsOf e ∧ len * P.cellsOf e ≤ 16777216 then some (.bldS (P.cellsOf e) e (nrm z) len ps) else none
    | _ => none
  | .load t a => do
    if aggT P t then some (.ld (P.cellsOf t) true (← cArg a)) else if (P.underlying t).isSome then some (.ld 1 false (← cArg a)) else none
  | .store t a x => do if 0 < P.cellsOf t then some (.st (P.cellsOf t) (← cArg a) (← cArg x)) else none
  | .nilCheck x => do some (.nilck (← cArg x))
  | .binOp op t x y _ =>
    match op, P.underlying t with
    | .eql, some .bool => do some (.eqB false (← cArg x) (← cArg y))
    | .neq, some .bool => do some (.eqB true (← cArg x) (← cArg y))
    | .eql, _ =>
      match flatInt P t with
      | some n => do some (.eqA n false (← cArg x) (← cArg y))
      | none => do some (.bin op (← cArg x) (← cArg y))
    | .neq, _ =>
      match flatInt P t with
      | some n => do some (.eqA n true (← cArg x) (← cArg y))
      | none => do some (.bin op (← cArg x) (← cArg y))
    | _, _ => do some (.bin op (← cArg x) (← cArg y))
  | .unOp op _ x => do some (.un op (← cArg x))
  | .convert src dst x =>
    match P.underlying dst with
    | some (.int k) => do if (P.underlying src).isSome then some (.cvt k (← cArg x)) else none
    | _ => none
  | .makeSlice t l c =>
    match P.underlying t with
    | some (.slice e) => do
      let z ← zeroD P e
      if 0 < P.cellsOf e ∧ (cells z).length = P.cellsOf e then some (.mkS (P.cellsOf e) e (P.bytesOf e) (rawN z) (← cArg l) (← cArg c)) else none
    | _ => none
  | .slice t x lo hi none =>
    match P.underlying t with
    | some (.slice e) => do if (P.info? e).isSome ∧ 0 < P.cellsOf e then some (.slc (P.cellsOf e) (← cArg x) (← cOpt lo) (← cOpt hi)) else none
    | some .string => do some (.slc 0 (← cArg x) (← cOpt lo) (← cOpt hi))
    | _ => none
  | .fieldAddr s x f =>
    match P.underlying s with
    | some (.struct fs) => do
      let f ← fs[f]?
      if 0 < P.cellsOf f.type then some (.fldA f.offset (← cArg x)) else none
    | _ => none
  | .field s x f =>
    match P.underlying s with
    | some (.struct fs) => do
      let f ← fs[f]?
      if aggT P f.type then some (.fld f.offset (P.cellsOf f.type) true (← cArg x)) else if (P.underlying f.type).isSome then some (.fld f.offset 1 false (← cArg x)) else none
    | _ => none
  | .indexAddr t x i =>
    match P.underlying t with
    | some (.slice e) => do if (P.info? e).isSome then some (.ixA (P.cellsOf e) (← cArg x) (← cArg i)) else none
    | some (.array n e) => do if (P.info? e).isSome then some (.ixP (P.cellsOf e) n (← cArg x) (← cArg i)) else none
    | _ => none
  | .index t x i =>
    match P.underlying t with
    | some .string => do some (.ixStr (← cArg x) (← cArg i))
    | some (.array n e) => do if (P.info? e).isSome ∧ (P.underlying e).isSome then (if aggT P e then do some (.ix (P.cellsOf e) n true (← cArg x) (← cArg i)) else if P.cellsOf e = 1 then do some (.ix 1 n false (← cArg x) (← cArg i)) else none) else none
    | _ => none
  | .extract x i => do some (.ext (← cArg x) i)
  | .call c => cCall P c
  | .makeFunc fn first caps =>
    match fn with
    | .func f => if first.size = 0 then do some (.mkf f (← cArgs caps.toList)) else none
    | _ => none
  | _ => none

/-- what is to be written, and where it may be -/
def dstOk (N : Nat) (dst : Option Nat) (op : DOp) : Bool :=
  match dst with
  | some d => (match op with | .st .. => false | _ => decide (d < N) && Nat.blt d 4096)
  | none => (match op with | .st .. | .call .. => true | _ => false)

def cGuard (ops : Array Oper) : Option (Nat × Bool) → Option (Option (Nat × Bool))
  | none => some none
  | some (j, want) => (ops[j]?).bind fun o => o.dst.bind fun t => some (some (t, want))

def cAfter (draw : Bool) (o : Oper) : List Nat := if draw then (o.after.toList.filter (Region.binds .any)).map (·.on) else []

def cOper (N : Nat) (ops : Array Oper) (draw : Bool) (i : Nat) (o : Oper) : Option DOper :=
  (cOp P o.type o.op).bind fun op => (cGuard ops o.guard).bind fun g =>
    if dstOk N o.dst op && (cAfter draw o).all (· < i) then some ⟨o.dst, op, g, cAfter draw o⟩ else none

def cOpers (N : Nat) (ops : Array Oper) (draw : Bool) : Nat → List Oper → Option (List DOper)
  | _, [] => some []
  | i, o :: r => do
    let o' ← cOper P N ops draw i o
    let r' ← cOpers N ops draw (i + 1) r
    some (o' :: r')

def cCode (N : Nat) : Code → Option DCode
  | .skip => some .skip
  | .region _ ops draw => do
    if draw && !P.follows .mixedOrders then none else some (.reg (← cOpers P N ops draw 0 ops.toList) draw)
  | .seq a b => do some (.seq (← cCode N a) (← cCode N b))
  | .cond c a b => do some (.cond (← cArg c) (← cCode N a) (← cCode N b))
  | .block id b => do some (.block id (← cCode N b))
  | .loop b => do some (.loop (← cCode N b))
  | .exit id => some (.exit id)
  | .ret => some .ret
  | _ => none

end
end Go.Dw
