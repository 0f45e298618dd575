/-
  The types of the data; written by a program (dx.py).
-/
import Derived.Test.YtcelninhkmhjkaaDoorProg
import Derived.Test.YtcelninhkmhjkaaDoorDc
import Derived.KernelRfl
namespace Go.Proofs.YtcelninhkmhjkaaDoor
open Go Go.Dw Go.Proofs
set_option maxRecDepth 100000
abbrev eI8 (n : Int) : D := .int .i8 n
abbrev Agf (n : Int) : D := .int .i16 n
abbrev Agg (n : Int) : D := .int .i32 n
abbrev Ed (n : Int) : D := .int .i64 n
abbrev eU8 (n : Int) : D := .int .u8 n
abbrev Agh (n : Int) : D := .int .u16 n
abbrev Agi (n : Int) : D := .int .u32 n
abbrev VF (n : Int) : D := .int .u64 n
structure Mg where
  Out : (List (List Int))
deriving DecidableEq, Inhabited
def NP (x : Mg) : D := .agg [.sl (x.Out.map (eL Ed))]
def Age (x : Mg) : Prop := (qL (qL (Oi .i64))) x.Out
def TJ (d : D) : Mg := ⟨(uL (uL uI)) (cel d 0)⟩
@[simp] theorem AfZ (x : Mg) : TJ (NP x) = x := by simp [TJ, NP, cel, OH (u := (uL uI)) (en := (eL Ed)) (OH (u := uI) (en := Ed) (fun _ => rfl))]
structure Mv where
  Size : Int
  Align : Int
deriving DecidableEq, Inhabited
def LX (x : Mv) : D := .agg [.int .i64 x.Size, .int .i64 x.Align]
def AfQ (x : Mv) : Prop := (Oi .i64) x.Size ∧ (Oi .i64) x.Align
def Aab (d : D) : Mv := ⟨uI (cel d 0), uI (cel d 1)⟩
@[simp] theorem AdS (x : Mv) : Aab (LX x) = x := by simp [Aab, LX, cel, uI]
structure LS where
  Op : Int
  A : Int
  B : Int
  C : Int
  Imm : Int
deriving DecidableEq, Inhabited
def LU (x : LS) : D := .agg [.int .i64 x.Op, .int .i64 x.A, .int .i64 x.B, .int .i64 x.C, .int .u64 x.Imm]
def AfL (x : LS) : Prop := (Oi .i64) x.Op ∧ (Oi .i64) x.A ∧ (Oi .i64) x.B ∧ (Oi .i64) x.C ∧ (Oi .u64) x.Imm
def RF (d : D) : LS := ⟨uI (cel d 0), uI (cel d 1), uI (cel d 2), uI (cel d 3), uI (cel d 4)⟩
@[simp] theorem AcW (x : LS) : RF (LU x) = x := by simp [RF, LU, cel, uI]
structure LW where
  Params : Int
  Slots : (List Mv)
  Code : (List LS)
deriving DecidableEq, Inhabited
def MI (x : LW) : D := .agg [.int .i64 x.Params, .sl (x.Slots.map LX), .sl (x.Code.map LU)]
def AfP (x : LW) : Prop := (Oi .i64) x.Params ∧ (qL AfQ) x.Slots ∧ (qL AfL) x.Code
def OG (d : D) : LW := ⟨uI (cel d 0), (uL Aab) (cel d 1), (uL RF) (cel d 2)⟩
@[simp] theorem AdR (x : LW) : OG (MI x) = x := by simp [OG, MI, cel, uI, OH (u := Aab) (en := LX) AdS, OH (u := RF) (en := LU) AcW]
structure LV where
  a0 : Int
  a1 : Int
  a2 : Int
  a3 : Int
  a4 : Int
  a5 : Int
  a6 : Int
  a7 : Int
deriving DecidableEq, Inhabited
def LV.toList (x : LV) : List Int := [x.a0, x.a1, x.a2, x.a3, x.a4, x.a5, x.a6, x.a7]
def LV.set (x : LV) (j : Nat) (v : Int) : LV := ⟨(x.toList.set j v).getD 0 x.a0, (x.toList.set j v).getD 1 x.a1, (x.toList.set j v).getD 2 x.a2, (x.toList.set j v).getD 3 x.a3, (x.toList.set j v).getD 4 x.a4, (x.toList.set j v).getD 5 x.a5, (x.toList.set j v).getD 6 x.a6, (x.toList.set j v).getD 7 x.a7⟩
theorem NL (x : LV) (j : Nat) (v : Int) : (x.set j v).toList = x.toList.set j v := by
  match j with
  | 0 => rfl
  | 1 => rfl
  | 2 => rfl
  | 3 => rfl
  | 4 => rfl
  | 5 => rfl
  | 6 => rfl
  | 7 => rfl
  | _ + 8 => rfl
def ML (x : LV) : D := .agg [.int .u64 x.a0, .int .u64 x.a1, .int .u64 x.a2, .int .u64 x.a3, .int .u64 x.a4, .int .u64 x.a5, .int .u64 x.a6, .int .u64 x.a7]
def AcO (x : LV) : Prop := (Oi .u64) x.a0 ∧ (Oi .u64) x.a1 ∧ (Oi .u64) x.a2 ∧ (Oi .u64) x.a3 ∧ (Oi .u64) x.a4 ∧ (Oi .u64) x.a5 ∧ (Oi .u64) x.a6 ∧ (Oi .u64) x.a7
def Ob (d : D) : LV := ⟨uI (cel d 0), uI (cel d 1), uI (cel d 2), uI (cel d 3), uI (cel d 4), uI (cel d 5), uI (cel d 6), uI (cel d 7)⟩
@[simp] theorem AbD (x : LV) : Ob (ML x) = x := by simp [Ob, ML, cel, uI]
structure LR where
  list : (List Int)
  at_ : Int
deriving DecidableEq, Inhabited
def Mu (x : LR) : D := .agg [.sl (x.list.map eU8), .int .i64 x.at_]
def AfM (x : LR) : Prop := (qL (Oi .u8)) x.list ∧ (Oi .i64) x.at_
def Nm (d : D) : LR := ⟨(uL uI) (cel d 0), uI (cel d 1)⟩
@[simp] theorem AdW (x : LR) : Nm (Mu x) = x := by simp [Nm, Mu, cel, uI, OH (u := uI) (en := eU8) (fun _ => rfl)]
structure Ot where
  Funcs : (List LW)
deriving DecidableEq, Inhabited
def Zl (x : Ot) : D := .agg [.sl (x.Funcs.map MI)]
def AfW (x : Ot) : Prop := (qL AfP) x.Funcs
def AaB (d : D) : Ot := ⟨(uL OG) (cel d 0)⟩
@[simp] theorem AfR (x : Ot) : AaB (Zl x) = x := by simp [AaB, Zl, cel, OH (u := OG) (en := MI) AdR]
end Go.Proofs.YtcelninhkmhjkaaDoor
