/-
  The types of the data; written by a program (dx.py).
-/
import Derived.Test.YtcelninhkmhjkaaDoorProg
import Derived.Test.YtcelninhkmhjkaaDoorDc
import Derived.KernelRfl
namespace Go.Proofs.YtcelninhkmhjkaaDoor
open Go Go.Dw Go.Proofs
set_option maxRecDepth 100000
abbrev eI8 (n : Int) : D := .int .i8 n
abbrev AfQ (n : Int) : D := .int .i16 n
abbrev AfR (n : Int) : D := .int .i32 n
abbrev Ed (n : Int) : D := .int .i64 n
abbrev eU8 (n : Int) : D := .int .u8 n
abbrev AfS (n : Int) : D := .int .u16 n
abbrev AfT (n : Int) : D := .int .u32 n
abbrev Vz (n : Int) : D := .int .u64 n
structure Mg where
  Out : (List (List Int))
deriving DecidableEq, Inhabited
def OL (x : Mg) : D := .agg [.sl (x.Out.map (eL Ed))]
def AfP (x : Mg) : Prop := (qL (qL (Oq .i64))) x.Out
def Xu (d : D) : Mg := ⟨(uL (uL uI)) (cel d 0)⟩
@[simp] theorem AfK (x : Mg) : Xu (OL x) = x := by simp [Xu, OL, cel, Oh (u := (uL uI)) (en := (eL Ed)) (Oh (u := uI) (en := Ed) (fun _ => rfl))]
structure Mx where
  Size : Int
  Align : Int
deriving DecidableEq, Inhabited
def LY (x : Mx) : D := .agg [.int .i64 x.Size, .int .i64 x.Align]
def AfB (x : Mx) : Prop := (Oq .i64) x.Size ∧ (Oq .i64) x.Align
def ZR (d : D) : Mx := ⟨uI (cel d 0), uI (cel d 1)⟩
@[simp] theorem AdE (x : Mx) : ZR (LY x) = x := by simp [ZR, LY, cel, uI]
structure LS where
  Op : Int
  A : Int
  B : Int
  C : Int
  Imm : Int
deriving DecidableEq, Inhabited
def LU (x : LS) : D := .agg [.int .i64 x.Op, .int .i64 x.A, .int .i64 x.B, .int .i64 x.C, .int .u64 x.Imm]
def Aft (x : LS) : Prop := (Oq .i64) x.Op ∧ (Oq .i64) x.A ∧ (Oq .i64) x.B ∧ (Oq .i64) x.C ∧ (Oq .u64) x.Imm
def Rz (d : D) : LS := ⟨uI (cel d 0), uI (cel d 1), uI (cel d 2), uI (cel d 3), uI (cel d 4)⟩
@[simp] theorem AcK (x : LS) : Rz (LU x) = x := by simp [Rz, LU, cel, uI]
structure LW where
  Params : Int
  Slots : (List Mx)
  Code : (List LS)
deriving DecidableEq, Inhabited
def MN (x : LW) : D := .agg [.int .i64 x.Params, .sl (x.Slots.map LY), .sl (x.Code.map LU)]
def AfA (x : LW) : Prop := (Oq .i64) x.Params ∧ (qL AfB) x.Slots ∧ (qL Aft) x.Code
def Qu (d : D) : LW := ⟨uI (cel d 0), (uL ZR) (cel d 1), (uL Rz) (cel d 2)⟩
@[simp] theorem AdD (x : LW) : Qu (MN x) = x := by simp [Qu, MN, cel, uI, Oh (u := ZR) (en := LY) AdE, Oh (u := Rz) (en := LU) AcK]
structure LV where
  a0 : Int
  a1 : Int
  a2 : Int
  a3 : Int
  a4 : Int
  a5 : Int
  a6 : Int
  a7 : Int
deriving DecidableEq, Inhabited
def LV.toList (x : LV) : List Int := [x.a0, x.a1, x.a2, x.a3, x.a4, x.a5, x.a6, x.a7]
def LV.set (x : LV) (j : Nat) (v : Int) : LV := ⟨(x.toList.set j v).getD 0 x.a0, (x.toList.set j v).getD 1 x.a1, (x.toList.set j v).getD 2 x.a2, (x.toList.set j v).getD 3 x.a3, (x.toList.set j v).getD 4 x.a4, (x.toList.set j v).getD 5 x.a5, (x.toList.set j v).getD 6 x.a6, (x.toList.set j v).getD 7 x.a7⟩
theorem NR (x : LV) (j : Nat) (v : Int) : (x.set j v).toList = x.toList.set j v := by
  match j with
  | 0 => rfl
  | 1 => rfl
  | 2 => rfl
  | 3 => rfl
  | 4 => rfl
  | 5 => rfl
  | 6 => rfl
  | 7 => rfl
  | _ + 8 => rfl
def MM (x : LV) : D := .agg [.int .u64 x.a0, .int .u64 x.a1, .int .u64 x.a2, .int .u64 x.a3, .int .u64 x.a4, .int .u64 x.a5, .int .u64 x.a6, .int .u64 x.a7]
def AcE (x : LV) : Prop := (Oq .u64) x.a0 ∧ (Oq .u64) x.a1 ∧ (Oq .u64) x.a2 ∧ (Oq .u64) x.a3 ∧ (Oq .u64) x.a4 ∧ (Oq .u64) x.a5 ∧ (Oq .u64) x.a6 ∧ (Oq .u64) x.a7
def Oi (d : D) : LV := ⟨uI (cel d 0), uI (cel d 1), uI (cel d 2), uI (cel d 3), uI (cel d 4), uI (cel d 5), uI (cel d 6), uI (cel d 7)⟩
@[simp] theorem Aby (x : LV) : Oi (MM x) = x := by simp [Oi, MM, cel, uI]
structure LR where
  list : (List Int)
  at_ : Int
deriving DecidableEq, Inhabited
def Mt (x : LR) : D := .agg [.sl (x.list.map eU8), .int .i64 x.at_]
def Afu (x : LR) : Prop := (qL (Oq .u8)) x.list ∧ (Oq .i64) x.at_
def Nu (d : D) : LR := ⟨(uL uI) (cel d 0), uI (cel d 1)⟩
@[simp] theorem AdI (x : LR) : Nu (Mt x) = x := by simp [Nu, Mt, cel, uI, Oh (u := uI) (en := eU8) (fun _ => rfl)]
structure OB where
  Funcs : (List LW)
deriving DecidableEq, Inhabited
def YU (x : OB) : D := .agg [.sl (x.Funcs.map MN)]
def AfH (x : OB) : Prop := (qL AfA) x.Funcs
def Aar (d : D) : OB := ⟨(uL Qu) (cel d 0)⟩
@[simp] theorem AfC (x : OB) : Aar (YU x) = x := by simp [Aar, YU, cel, Oh (u := Qu) (en := MN) AdD]
end Go.Proofs.YtcelninhkmhjkaaDoor
