/-
  The types of the data; written by a program (dx.py).
-/
import Derived.Test.YtcelninhkmhjkaaDoorProg
import Derived.Test.YtcelninhkmhjkaaDoorDc
import Derived.KernelRfl
namespace Go.Proofs.YtcelninhkmhjkaaDoor
open Go Go.Dw Go.Proofs
set_option maxRecDepth 100000
abbrev eI8 (n : Int) : D := .int .i8 n
abbrev AeV (n : Int) : D := .int .i16 n
abbrev AeW (n : Int) : D := .int .i32 n
abbrev Lu (n : Int) : D := .int .i64 n
abbrev eU8 (n : Int) : D := .int .u8 n
abbrev AeX (n : Int) : D := .int .u16 n
abbrev AeY (n : Int) : D := .int .u32 n
abbrev UB (n : Int) : D := .int .u64 n
structure LK where
  Out : (List (List Int))
deriving DecidableEq, Inhabited
def OZ (x : LK) : D := .agg [.sl (x.Out.map (eL Lu))]
def AeU (x : LK) : Prop := (qL (qL (NR .i64))) x.Out
def Wv (d : D) : LK := ⟨(uL (uL uI)) (cel d 0)⟩
@[simp] theorem AeP (x : LK) : Wv (OZ x) = x := by simp [Wv, OZ, cel, NT (u := (uL uI)) (en := (eL Lu)) (NT (u := uI) (en := Lu) (fun _ => rfl))]
structure LS where
  Size : Int
  Align : Int
deriving DecidableEq, Inhabited
def LB (x : LS) : D := .agg [.int .i64 x.Size, .int .i64 x.Align]
def AeF (x : LS) : Prop := (NR .i64) x.Size ∧ (NR .i64) x.Align
def YQ (d : D) : LS := ⟨uI (cel d 0), uI (cel d 1)⟩
@[simp] theorem AcI (x : LS) : YQ (LB x) = x := by simp [YQ, LB, cel, uI]
structure Lv where
  Op : Int
  A : Int
  B : Int
  C : Int
  Imm : Int
deriving DecidableEq, Inhabited
def Lx (x : Lv) : D := .agg [.int .i64 x.Op, .int .i64 x.A, .int .i64 x.B, .int .i64 x.C, .int .u64 x.Imm]
def Aex (x : Lv) : Prop := (NR .i64) x.Op ∧ (NR .i64) x.A ∧ (NR .i64) x.B ∧ (NR .i64) x.C ∧ (NR .u64) x.Imm
def QO (d : D) : Lv := ⟨uI (cel d 0), uI (cel d 1), uI (cel d 2), uI (cel d 3), uI (cel d 4)⟩
@[simp] theorem AbM (x : Lv) : QO (Lx x) = x := by simp [QO, Lx, cel, uI]
structure LA where
  Params : Int
  Slots : (List LS)
  Code : (List Lv)
deriving DecidableEq, Inhabited
def Mv (x : LA) : D := .agg [.int .i64 x.Params, .sl (x.Slots.map LB), .sl (x.Code.map Lx)]
def AeE (x : LA) : Prop := (NR .i64) x.Params ∧ (qL AeF) x.Slots ∧ (qL Aex) x.Code
def Rc (d : D) : LA := ⟨uI (cel d 0), (uL YQ) (cel d 1), (uL QO) (cel d 2)⟩
@[simp] theorem AcH (x : LA) : Rc (Mv x) = x := by simp [Rc, Mv, cel, uI, NT (u := YQ) (en := LB) AcI, NT (u := QO) (en := Lx) AbM]
structure Ly where
  a0 : Int
  a1 : Int
  a2 : Int
  a3 : Int
  a4 : Int
  a5 : Int
  a6 : Int
  a7 : Int
deriving DecidableEq, Inhabited
def Ly.toList (x : Ly) : List Int := [x.a0, x.a1, x.a2, x.a3, x.a4, x.a5, x.a6, x.a7]
def Ly.set (x : Ly) (j : Nat) (v : Int) : Ly := ⟨(x.toList.set j v).getD 0 x.a0, (x.toList.set j v).getD 1 x.a1, (x.toList.set j v).getD 2 x.a2, (x.toList.set j v).getD 3 x.a3, (x.toList.set j v).getD 4 x.a4, (x.toList.set j v).getD 5 x.a5, (x.toList.set j v).getD 6 x.a6, (x.toList.set j v).getD 7 x.a7⟩
theorem Nw (x : Ly) (j : Nat) (v : Int) : (x.set j v).toList = x.toList.set j v := by
  match j with
  | 0 => rfl
  | 1 => rfl
  | 2 => rfl
  | 3 => rfl
  | 4 => rfl
  | 5 => rfl
  | 6 => rfl
  | 7 => rfl
  | _ + 8 => rfl
def Mp (x : Ly) : D := .agg [.int .u64 x.a0, .int .u64 x.a1, .int .u64 x.a2, .int .u64 x.a3, .int .u64 x.a4, .int .u64 x.a5, .int .u64 x.a6, .int .u64 x.a7]
def AbG (x : Ly) : Prop := (NR .u64) x.a0 ∧ (NR .u64) x.a1 ∧ (NR .u64) x.a2 ∧ (NR .u64) x.a3 ∧ (NR .u64) x.a4 ∧ (NR .u64) x.a5 ∧ (NR .u64) x.a6 ∧ (NR .u64) x.a7
def NL (d : D) : Ly := ⟨uI (cel d 0), uI (cel d 1), uI (cel d 2), uI (cel d 3), uI (cel d 4), uI (cel d 5), uI (cel d 6), uI (cel d 7)⟩
@[simp] theorem AaA (x : Ly) : NL (Mp x) = x := by simp [NL, Mp, cel, uI]
structure Ed where
  list : (List Int)
  at_ : Int
deriving DecidableEq, Inhabited
def LQ (x : Ed) : D := .agg [.sl (x.list.map eU8), .int .i64 x.at_]
def Aey (x : Ed) : Prop := (qL (NR .u8)) x.list ∧ (NR .i64) x.at_
def MZ (d : D) : Ed := ⟨(uL uI) (cel d 0), uI (cel d 1)⟩
@[simp] theorem AcM (x : Ed) : MZ (LQ x) = x := by simp [MZ, LQ, cel, uI, NT (u := uI) (en := eU8) (fun _ => rfl)]
structure Oa where
  Funcs : (List LA)
deriving DecidableEq, Inhabited
def XU (x : Oa) : D := .agg [.sl (x.Funcs.map Mv)]
def AeM (x : Oa) : Prop := (qL AeE) x.Funcs
def Zt (d : D) : Oa := ⟨(uL Rc) (cel d 0)⟩
@[simp] theorem AeH (x : Oa) : Zt (XU x) = x := by simp [Zt, XU, cel, NT (u := Rc) (en := Mv) AcH]
end Go.Proofs.YtcelninhkmhjkaaDoor
