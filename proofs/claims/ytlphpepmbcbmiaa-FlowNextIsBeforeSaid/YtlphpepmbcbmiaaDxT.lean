/-
  The types of the data; written by a program (dx.py).
-/
import Derived.Test.YtlphpepmbcbmiaaProg
import Derived.Test.YtlphpepmbcbmiaaDx6
import Derived.Test.YtlphpepmbcbmiaaDy1
import Derived.KernelRfl
namespace Go.Proofs.Ytlphpepmbcbmiaa
open Go Go.Dw Go.Proofs
set_option maxRecDepth 100000
abbrev eI8 (n : Int) : D := .int .i8 n
abbrev eI16 (n : Int) : D := .int .i16 n
abbrev eI32 (n : Int) : D := .int .i32 n
abbrev eI64 (n : Int) : D := .int .i64 n
abbrev eU8 (n : Int) : D := .int .u8 n
abbrev eU16 (n : Int) : D := .int .u16 n
abbrev eU32 (n : Int) : D := .int .u32 n
abbrev eU64 (n : Int) : D := .int .u64 n
structure TSlot where
  Size : Int
  Align : Int
deriving DecidableEq, Inhabited
def eSlot (x : TSlot) : D := .agg [.int .i64 x.Size, .int .i64 x.Align]
def qSlot (x : TSlot) : Prop := (qInt .i64) x.Size ∧ (qInt .i64) x.Align
def uSlot (d : D) : TSlot := ⟨uI (cel d 0), uI (cel d 1)⟩
@[simp] theorem uSlot_e (x : TSlot) : uSlot (eSlot x) = x := by simp [uSlot, eSlot, cel, uI, uBo, uS]
structure TInstr where
  Op : Int
  A : Int
  B : Int
  C : Int
  Imm : Int
deriving DecidableEq, Inhabited
def eInstr (x : TInstr) : D := .agg [.int .i64 x.Op, .int .i64 x.A, .int .i64 x.B, .int .i64 x.C, .int .u64 x.Imm]
def qInstr (x : TInstr) : Prop := (qInt .i64) x.Op ∧ (qInt .i64) x.A ∧ (qInt .i64) x.B ∧ (qInt .i64) x.C ∧ (qInt .u64) x.Imm
def uInstr (d : D) : TInstr := ⟨uI (cel d 0), uI (cel d 1), uI (cel d 2), uI (cel d 3), uI (cel d 4)⟩
@[simp] theorem uInstr_e (x : TInstr) : uInstr (eInstr x) = x := by simp [uInstr, eInstr, cel, uI, uBo, uS]
structure TFunc where
  Params : Int
  Slots : (List TSlot)
  Code : (List TInstr)
deriving DecidableEq, Inhabited
def eFunc (x : TFunc) : D := .agg [.int .i64 x.Params, .sl (x.Slots.map eSlot), .sl (x.Code.map eInstr)]
def qFunc (x : TFunc) : Prop := (qInt .i64) x.Params ∧ (qL qSlot) x.Slots ∧ (qL qInstr) x.Code
def uFunc (d : D) : TFunc := ⟨uI (cel d 0), (uL uSlot) (cel d 1), (uL uInstr) (cel d 2)⟩
@[simp] theorem uFunc_e (x : TFunc) : uFunc (eFunc x) = x := by simp [uFunc, eFunc, cel, uI, uBo, uS, uL_e (u := uSlot) (en := eSlot) uSlot_e, uL_e (u := uInstr) (en := eInstr) uInstr_e]
structure Tdraw_Codes where
  list : (List Int)
  at_ : Int
deriving DecidableEq, Inhabited
def edraw_Codes (x : Tdraw_Codes) : D := .agg [.sl (x.list.map eU8), .int .i64 x.at_]
def qdraw_Codes (x : Tdraw_Codes) : Prop := (qL (qInt .u8)) x.list ∧ (qInt .i64) x.at_
def udraw_Codes (d : D) : Tdraw_Codes := ⟨(uL uI) (cel d 0), uI (cel d 1)⟩
@[simp] theorem udraw_Codes_e (x : Tdraw_Codes) : udraw_Codes (edraw_Codes x) = x := by simp [udraw_Codes, edraw_Codes, cel, uI, uBo, uS, uL_e (u := uI) (en := eU8) (fun _ => rfl)]
structure TProgram where
  Funcs : (List TFunc)
deriving DecidableEq, Inhabited
def eProgram (x : TProgram) : D := .agg [.sl (x.Funcs.map eFunc)]
def qProgram (x : TProgram) : Prop := (qL qFunc) x.Funcs
def uProgram (d : D) : TProgram := ⟨(uL uFunc) (cel d 0)⟩
@[simp] theorem uProgram_e (x : TProgram) : uProgram (eProgram x) = x := by simp [uProgram, eProgram, cel, uI, uBo, uS, uL_e (u := uFunc) (en := eFunc) uFunc_e]
end Go.Proofs.Ytlphpepmbcbmiaa
