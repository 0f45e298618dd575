/-
  The types of the data; written by a program (dx.py).
-/
import Derived.Test.YtcelninhkmhjkaaDoorProg
import Derived.Test.YtcelninhkmhjkaaDoorDc
import Derived.KernelRfl
namespace Go.Proofs.YtcelninhkmhjkaaDoor
open Go Go.Dw Go.Proofs
set_option maxRecDepth 100000
abbrev eI8 (n : Int) : D := .int .i8 n
abbrev eI16 (n : Int) : D := .int .i16 n
abbrev eI32 (n : Int) : D := .int .i32 n
abbrev eI64 (n : Int) : D := .int .i64 n
abbrev eU8 (n : Int) : D := .int .u8 n
abbrev eU16 (n : Int) : D := .int .u16 n
abbrev eU32 (n : Int) : D := .int .u32 n
abbrev eU64 (n : Int) : D := .int .u64 n
structure TSlot where
  Size : Int
  Align : Int
deriving DecidableEq, Inhabited
def eSlot (x : TSlot) : D := .agg [.int .i64 x.Size, .int .i64 x.Align]
def qSlot (x : TSlot) : Prop := (qInt .i64) x.Size ∧ (qInt .i64) x.Align
def uSlot (d : D) : TSlot := ⟨uI (cel d 0), uI (cel d 1)⟩
@[simp] theorem uSlot_e (x : TSlot) : uSlot (eSlot x) = x := by simp [uSlot, eSlot, cel, uI]
structure TInstr where
  Op : Int
  A : Int
  B : Int
  C : Int
  Imm : Int
deriving DecidableEq, Inhabited
def eInstr (x : TInstr) : D := .agg [.int .i64 x.Op, .int .i64 x.A, .int .i64 x.B, .int .i64 x.C, .int .u64 x.Imm]
def qInstr (x : TInstr) : Prop := (qInt .i64) x.Op ∧ (qInt .i64) x.A ∧ (qInt .i64) x.B ∧ (qInt .i64) x.C ∧ (qInt .u64) x.Imm
def uInstr (d : D) : TInstr := ⟨uI (cel d 0), uI (cel d 1), uI (cel d 2), uI (cel d 3), uI (cel d 4)⟩
@[simp] theorem uInstr_e (x : TInstr) : uInstr (eInstr x) = x := by simp [uInstr, eInstr, cel, uI]
structure TFunc where
  Params : Int
  Slots : (List TSlot)
  Code : (List TInstr)
deriving DecidableEq, Inhabited
def eFunc (x : TFunc) : D := .agg [.int .i64 x.Params, .sl (x.Slots.map eSlot), .sl (x.Code.map eInstr)]
def qFunc (x : TFunc) : Prop := (qInt .i64) x.Params ∧ (qL qSlot) x.Slots ∧ (qL qInstr) x.Code
def uFunc (d : D) : TFunc := ⟨uI (cel d 0), (uL uSlot) (cel d 1), (uL uInstr) (cel d 2)⟩
@[simp] theorem uFunc_e (x : TFunc) : uFunc (eFunc x) = x := by simp [uFunc, eFunc, cel, uI, uL_e (u := uSlot) (en := eSlot) uSlot_e, uL_e (u := uInstr) (en := eInstr) uInstr_e]
structure TLive where
  Out : (List (List Int))
deriving DecidableEq, Inhabited
def eLive (x : TLive) : D := .agg [.sl (x.Out.map (eL eI64))]
def qLive (x : TLive) : Prop := (qL (qL (qInt .i64))) x.Out
def uLive (d : D) : TLive := ⟨(uL (uL uI)) (cel d 0)⟩
@[simp] theorem uLive_e (x : TLive) : uLive (eLive x) = x := by simp [uLive, eLive, cel, uL_e (u := (uL uI)) (en := (eL eI64)) (uL_e (u := uI) (en := eI64) (fun _ => rfl))]
structure Tbitset_set_int_ where
  a0 : Int
  a1 : Int
  a2 : Int
  a3 : Int
  a4 : Int
  a5 : Int
  a6 : Int
  a7 : Int
deriving DecidableEq, Inhabited
def Tbitset_set_int_.toList (x : Tbitset_set_int_) : List Int := [x.a0, x.a1, x.a2, x.a3, x.a4, x.a5, x.a6, x.a7]
def Tbitset_set_int_.set (x : Tbitset_set_int_) (j : Nat) (v : Int) : Tbitset_set_int_ := ⟨(x.toList.set j v).getD 0 x.a0, (x.toList.set j v).getD 1 x.a1, (x.toList.set j v).getD 2 x.a2, (x.toList.set j v).getD 3 x.a3, (x.toList.set j v).getD 4 x.a4, (x.toList.set j v).getD 5 x.a5, (x.toList.set j v).getD 6 x.a6, (x.toList.set j v).getD 7 x.a7⟩
theorem Tbitset_set_int__set (x : Tbitset_set_int_) (j : Nat) (v : Int) : (x.set j v).toList = x.toList.set j v := by
  match j with
  | 0 => rfl
  | 1 => rfl
  | 2 => rfl
  | 3 => rfl
  | 4 => rfl
  | 5 => rfl
  | 6 => rfl
  | 7 => rfl
  | _ + 8 => rfl
def ebitset_set_int_ (x : Tbitset_set_int_) : D := .agg [.int .u64 x.a0, .int .u64 x.a1, .int .u64 x.a2, .int .u64 x.a3, .int .u64 x.a4, .int .u64 x.a5, .int .u64 x.a6, .int .u64 x.a7]
def qbitset_set_int_ (x : Tbitset_set_int_) : Prop := (qInt .u64) x.a0 ∧ (qInt .u64) x.a1 ∧ (qInt .u64) x.a2 ∧ (qInt .u64) x.a3 ∧ (qInt .u64) x.a4 ∧ (qInt .u64) x.a5 ∧ (qInt .u64) x.a6 ∧ (qInt .u64) x.a7
def ubitset_set_int_ (d : D) : Tbitset_set_int_ := ⟨uI (cel d 0), uI (cel d 1), uI (cel d 2), uI (cel d 3), uI (cel d 4), uI (cel d 5), uI (cel d 6), uI (cel d 7)⟩
@[simp] theorem ubitset_set_int__e (x : Tbitset_set_int_) : ubitset_set_int_ (ebitset_set_int_ x) = x := by simp [ubitset_set_int_, ebitset_set_int_, cel, uI]
structure Tdraw_Codes where
  list : (List Int)
  at_ : Int
deriving DecidableEq, Inhabited
def edraw_Codes (x : Tdraw_Codes) : D := .agg [.sl (x.list.map eU8), .int .i64 x.at_]
def qdraw_Codes (x : Tdraw_Codes) : Prop := (qL (qInt .u8)) x.list ∧ (qInt .i64) x.at_
def udraw_Codes (d : D) : Tdraw_Codes := ⟨(uL uI) (cel d 0), uI (cel d 1)⟩
@[simp] theorem udraw_Codes_e (x : Tdraw_Codes) : udraw_Codes (edraw_Codes x) = x := by simp [udraw_Codes, edraw_Codes, cel, uI, uL_e (u := uI) (en := eU8) (fun _ => rfl)]
structure TProgram where
  Funcs : (List TFunc)
deriving DecidableEq, Inhabited
def eProgram (x : TProgram) : D := .agg [.sl (x.Funcs.map eFunc)]
def qProgram (x : TProgram) : Prop := (qL qFunc) x.Funcs
def uProgram (d : D) : TProgram := ⟨(uL uFunc) (cel d 0)⟩
@[simp] theorem uProgram_e (x : TProgram) : uProgram (eProgram x) = x := by simp [uProgram, eProgram, cel, uL_e (u := uFunc) (en := eFunc) uFunc_e]
end Go.Proofs.YtcelninhkmhjkaaDoor
