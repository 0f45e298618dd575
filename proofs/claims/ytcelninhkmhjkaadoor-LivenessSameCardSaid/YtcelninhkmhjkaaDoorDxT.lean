/-
  The types of the data; written by a program (dx.py).
-/
import Derived.Test.YtcelninhkmhjkaaDoorProg
import Derived.Test.YtcelninhkmhjkaaDoorDc
import Derived.KernelRfl
namespace Go.Proofs.YtcelninhkmhjkaaDoor
open Go Go.Dw Go.Proofs
set_option maxRecDepth 100000
abbrev eI8 (n : Int) : D := .int .i8 n
abbrev AfE (n : Int) : D := .int .i16 n
abbrev AfF (n : Int) : D := .int .i32 n
abbrev LR (n : Int) : D := .int .i64 n
abbrev eU8 (n : Int) : D := .int .u8 n
abbrev AfG (n : Int) : D := .int .u16 n
abbrev AfH (n : Int) : D := .int .u32 n
abbrev Vy (n : Int) : D := .int .u64 n
structure Me where
  Out : (List (List Int))
deriving DecidableEq, Inhabited
def NU (x : Me) : D := .agg [.sl (x.Out.map (eL LR))]
def Za (x : Me) : Prop := (qL (qL (Od .i64))) x.Out
def Vm (d : D) : Me := ⟨(uL (uL uI)) (cel d 0)⟩
@[simp] theorem Afz (x : Me) : Vm (NU x) = x := by simp [Vm, NU, cel, Ox (u := (uL uI)) (en := (eL LR)) (Ox (u := uI) (en := LR) (fun _ => rfl))]
structure Mv where
  Size : Int
  Align : Int
deriving DecidableEq, Inhabited
def Ma (x : Mv) : D := .agg [.int .i64 x.Size, .int .i64 x.Align]
def Afn (x : Mv) : Prop := (Od .i64) x.Size ∧ (Od .i64) x.Align
def ZG (d : D) : Mv := ⟨uI (cel d 0), uI (cel d 1)⟩
@[simp] theorem Adm (x : Mv) : ZG (Ma x) = x := by simp [ZG, Ma, cel, uI]
structure LS where
  Op : Int
  A : Int
  B : Int
  C : Int
  Imm : Int
deriving DecidableEq, Inhabited
def LU (x : LS) : D := .agg [.int .i64 x.Op, .int .i64 x.A, .int .i64 x.B, .int .i64 x.C, .int .u64 x.Imm]
def Afe (x : LS) : Prop := (Od .i64) x.Op ∧ (Od .i64) x.A ∧ (Od .i64) x.B ∧ (Od .i64) x.C ∧ (Od .u64) x.Imm
def RF (d : D) : LS := ⟨uI (cel d 0), uI (cel d 1), uI (cel d 2), uI (cel d 3), uI (cel d 4)⟩
@[simp] theorem Acp (x : LS) : RF (LU x) = x := by simp [RF, LU, cel, uI]
structure LY where
  Params : Int
  Slots : (List Mv)
  Code : (List LS)
deriving DecidableEq, Inhabited
def MP (x : LY) : D := .agg [.int .i64 x.Params, .sl (x.Slots.map Ma), .sl (x.Code.map LU)]
def Afm (x : LY) : Prop := (Od .i64) x.Params ∧ (qL Afn) x.Slots ∧ (qL Afe) x.Code
def Re (d : D) : LY := ⟨uI (cel d 0), (uL ZG) (cel d 1), (uL RF) (cel d 2)⟩
@[simp] theorem Adl (x : LY) : Re (MP x) = x := by simp [Re, MP, cel, uI, Ox (u := ZG) (en := Ma) Adm, Ox (u := RF) (en := LU) Acp]
structure LV where
  a0 : Int
  a1 : Int
  a2 : Int
  a3 : Int
  a4 : Int
  a5 : Int
  a6 : Int
  a7 : Int
deriving DecidableEq, Inhabited
def LV.toList (x : LV) : List Int := [x.a0, x.a1, x.a2, x.a3, x.a4, x.a5, x.a6, x.a7]
def LV.set (x : LV) (j : Nat) (v : Int) : LV := ⟨(x.toList.set j v).getD 0 x.a0, (x.toList.set j v).getD 1 x.a1, (x.toList.set j v).getD 2 x.a2, (x.toList.set j v).getD 3 x.a3, (x.toList.set j v).getD 4 x.a4, (x.toList.set j v).getD 5 x.a5, (x.toList.set j v).getD 6 x.a6, (x.toList.set j v).getD 7 x.a7⟩
theorem NY (x : LV) (j : Nat) (v : Int) : (x.set j v).toList = x.toList.set j v := by
  match j with
  | 0 => rfl
  | 1 => rfl
  | 2 => rfl
  | 3 => rfl
  | 4 => rfl
  | 5 => rfl
  | 6 => rfl
  | 7 => rfl
  | _ + 8 => rfl
def MM (x : LV) : D := .agg [.int .u64 x.a0, .int .u64 x.a1, .int .u64 x.a2, .int .u64 x.a3, .int .u64 x.a4, .int .u64 x.a5, .int .u64 x.a6, .int .u64 x.a7]
def Ack (x : LV) : Prop := (Od .u64) x.a0 ∧ (Od .u64) x.a1 ∧ (Od .u64) x.a2 ∧ (Od .u64) x.a3 ∧ (Od .u64) x.a4 ∧ (Od .u64) x.a5 ∧ (Od .u64) x.a6 ∧ (Od .u64) x.a7
def Om (d : D) : LV := ⟨uI (cel d 0), uI (cel d 1), uI (cel d 2), uI (cel d 3), uI (cel d 4), uI (cel d 5), uI (cel d 6), uI (cel d 7)⟩
@[simp] theorem Abe (x : LV) : Om (MM x) = x := by simp [Om, MM, cel, uI]
structure Ed where
  list : (List Int)
  at_ : Int
deriving DecidableEq, Inhabited
def Mm (x : Ed) : D := .agg [.sl (x.list.map eU8), .int .i64 x.at_]
def Afg (x : Ed) : Prop := (qL (Od .u8)) x.list ∧ (Od .i64) x.at_
def Nd (d : D) : Ed := ⟨(uL uI) (cel d 0), uI (cel d 1)⟩
@[simp] theorem Adq (x : Ed) : Nd (Mm x) = x := by simp [Nd, Mm, cel, uI, Ox (u := uI) (en := eU8) (fun _ => rfl)]
structure OG where
  Funcs : (List LY)
deriving DecidableEq, Inhabited
def YN (x : OG) : D := .agg [.sl (x.Funcs.map MP)]
def Afu (x : OG) : Prop := (qL Afm) x.Funcs
def Aag (d : D) : OG := ⟨(uL Re) (cel d 0)⟩
@[simp] theorem Afp (x : OG) : Aag (YN x) = x := by simp [Aag, YN, cel, Ox (u := Re) (en := MP) Adl]
end Go.Proofs.YtcelninhkmhjkaaDoor
