/-
  The types of the data; written by a program (dx.py).
-/
import Derived.Test.YtpagjjmondojpaaGreatDoorProg
import Derived.Test.YtpagjjmondojpaaGreatDoorDc
import Derived.Test.YtpagjjmondojpaaGreatDoorDd
import Derived.KernelRfl
namespace Go.Proofs.YtpagjjmondojpaaGreatDoor
open Go Go.Dw Go.Proofs
set_option maxRecDepth 100000
set_option maxHeartbeats 4000000
abbrev eI8 (n : Int) : D := .int .i8 n
abbrev Ani (n : Int) : D := .int .i16 n
abbrev Anj (n : Int) : D := .int .i32 n
abbrev OM (n : Int) : D := .int .i64 n
abbrev eU8 (n : Int) : D := .int .u8 n
abbrev Ank (n : Int) : D := .int .u16 n
abbrev Anl (n : Int) : D := .int .u32 n
abbrev Yg (n : Int) : D := .int .u64 n
structure OZ where
  Size : Int
  Align : Int
deriving DecidableEq, Inhabited
def OV (x : OZ) : D := .agg [.int .i64 x.Size, .int .i64 x.Align]
def AmO (x : OZ) : Prop := (Rb .i64) x.Size ∧ (Rb .i64) x.Align
def YR (d : D) : OZ := ⟨uI (cel d 0), uI (cel d 1)⟩
@[simp] theorem Aet (x : OZ) : YR (OV x) = x := by simp [YR, OV, cel, uI]
structure OL where
  Op : Int
  A : Int
  B : Int
  C : Int
  Imm : Int
deriving DecidableEq, Inhabited
def OT (x : OL) : D := .agg [.int .i64 x.Op, .int .i64 x.A, .int .i64 x.B, .int .i64 x.C, .int .u64 x.Imm]
def AmG (x : OL) : Prop := (Rb .i64) x.Op ∧ (Rb .i64) x.A ∧ (Rb .i64) x.B ∧ (Rb .i64) x.C ∧ (Rb .u64) x.Imm
def AcJ (d : D) : OL := ⟨uI (cel d 0), uI (cel d 1), uI (cel d 2), uI (cel d 3), uI (cel d 4)⟩
@[simp] theorem AlF (x : OL) : AcJ (OT x) = x := by simp [AcJ, OT, cel, uI]
structure OJ where
  Params : Int
  Slots : (List OZ)
  Code : (List OL)
deriving DecidableEq, Inhabited
def PS (x : OJ) : D := .agg [.int .i64 x.Params, .sl (x.Slots.map OV), .sl (x.Code.map OT)]
def AmN (x : OJ) : Prop := (Rb .i64) x.Params ∧ (qL AmO) x.Slots ∧ (qL AmG) x.Code
def Se (d : D) : OJ := ⟨uI (cel d 0), (uL YR) (cel d 1), (uL AcJ) (cel d 2)⟩
@[simp] theorem Aml (x : OJ) : Se (PS x) = x := by simp [Se, PS, cel, uI, PN (u := YR) (en := OV) Aet, PN (u := AcJ) (en := OT) AlF]
structure OR where
  Out : (List (List Int))
deriving DecidableEq, Inhabited
def Qo (x : OR) : D := .agg [.sl (x.Out.map (eL OM))]
def AlK (x : OR) : Prop := (qL (qL (Rb .i64))) x.Out
def VK (d : D) : OR := ⟨(uL (uL uI)) (cel d 0)⟩
@[simp] theorem Anc (x : OR) : VK (Qo x) = x := by simp [VK, Qo, cel, PN (u := (uL uI)) (en := (eL OM)) (PN (u := uI) (en := OM) (fun _ => rfl))]
structure OU where
  To : (List Int)
  Keep : (List Bool)
deriving DecidableEq, Inhabited
def TZ (x : OU) : D := .agg [.sl (x.To.map OM), .sl (x.Keep.map D.bool)]
def Amd (x : OU) : Prop := (qL (Rb .i64)) x.To ∧ (qL AmY) x.Keep
def Aas (d : D) : OU := ⟨(uL uI) (cel d 0), (uL uBo) (cel d 1)⟩
@[simp] theorem AmU (x : OU) : Aas (TZ x) = x := by simp [Aas, TZ, cel, PN (u := uI) (en := OM) (fun _ => rfl), PN (u := uBo) (en := D.bool) (fun _ => rfl)]
structure OK where
  a0 : Int
  a1 : Int
  a2 : Int
  a3 : Int
  a4 : Int
  a5 : Int
  a6 : Int
  a7 : Int
deriving DecidableEq, Inhabited
def OK.toList (x : OK) : List Int := [x.a0, x.a1, x.a2, x.a3, x.a4, x.a5, x.a6, x.a7]
def OK.set (x : OK) (j : Nat) (v : Int) : OK := ⟨(x.toList.set j v).getD 0 x.a0, (x.toList.set j v).getD 1 x.a1, (x.toList.set j v).getD 2 x.a2, (x.toList.set j v).getD 3 x.a3, (x.toList.set j v).getD 4 x.a4, (x.toList.set j v).getD 5 x.a5, (x.toList.set j v).getD 6 x.a6, (x.toList.set j v).getD 7 x.a7⟩
theorem QV (x : OK) (j : Nat) (v : Int) : (x.set j v).toList = x.toList.set j v := by
  match j with
  | 0 => rfl
  | 1 => rfl
  | 2 => rfl
  | 3 => rfl
  | 4 => rfl
  | 5 => rfl
  | 6 => rfl
  | 7 => rfl
  | _ + 8 => rfl
def Po (x : OK) : D := .agg [.int .u64 x.a0, .int .u64 x.a1, .int .u64 x.a2, .int .u64 x.a3, .int .u64 x.a4, .int .u64 x.a5, .int .u64 x.a6, .int .u64 x.a7]
def AlA (x : OK) : Prop := (Rb .u64) x.a0 ∧ (Rb .u64) x.a1 ∧ (Rb .u64) x.a2 ∧ (Rb .u64) x.a3 ∧ (Rb .u64) x.a4 ∧ (Rb .u64) x.a5 ∧ (Rb .u64) x.a6 ∧ (Rb .u64) x.a7
def QQ (d : D) : OK := ⟨uI (cel d 0), uI (cel d 1), uI (cel d 2), uI (cel d 3), uI (cel d 4), uI (cel d 5), uI (cel d 6), uI (cel d 7)⟩
@[simp] theorem AkZ (x : OK) : QQ (Po x) = x := by simp [QQ, Po, cel, uI]
structure Pf where
  Funcs : (List OJ)
deriving DecidableEq, Inhabited
def Sj (x : Pf) : D := .agg [.sl (x.Funcs.map PS)]
def AmZ (x : Pf) : Prop := (qL AmN) x.Funcs
def YV (d : D) : Pf := ⟨(uL Se) (cel d 0)⟩
@[simp] theorem AmP (x : Pf) : YV (Sj x) = x := by simp [YV, Sj, cel, PN (u := Se) (en := PS) Aml]
structure Mk where
  list : (List Int)
  at_ : Int
deriving DecidableEq, Inhabited
def Pl (x : Mk) : D := .agg [.sl (x.list.map eU8), .int .i64 x.at_]
def AmJ (x : Mk) : Prop := (qL (Rb .u8)) x.list ∧ (Rb .i64) x.at_
def RL (d : D) : Mk := ⟨(uL uI) (cel d 0), uI (cel d 1)⟩
@[simp] theorem Amq (x : Mk) : RL (Pl x) = x := by simp [RL, Pl, cel, uI, PN (u := uI) (en := eU8) (fun _ => rfl)]
structure QF where
  Args : Int
  Size : Int
  Off : (List Int)
deriving DecidableEq, Inhabited
def Ze (x : QF) : D := .agg [.int .i64 x.Args, .int .i64 x.Size, .sl (x.Off.map OM)]
def Amc (x : QF) : Prop := (Rb .i64) x.Args ∧ (Rb .i64) x.Size ∧ (qL (Rb .i64)) x.Off
def AjY (d : D) : QF := ⟨uI (cel d 0), uI (cel d 1), (uL uI) (cel d 2)⟩
@[simp] theorem AmT (x : QF) : AjY (Ze x) = x := by simp [AjY, Ze, cel, uI, PN (u := uI) (en := OM) (fun _ => rfl)]
structure SH where
  Live : OR
  Rename : OU
  LiveAfter : OR
  Layout : QF
deriving DecidableEq, Inhabited
def Aaz (x : SH) : D := .agg [.sl (x.Live.Out.map (eL OM)), .sl (x.Rename.To.map OM), .sl (x.Rename.Keep.map D.bool), .sl (x.LiveAfter.Out.map (eL OM)), .int .i64 x.Layout.Args, .int .i64 x.Layout.Size, .sl (x.Layout.Off.map OM)]
def AmR (x : SH) : Prop := AlK x.Live ∧ Amd x.Rename ∧ AlK x.LiveAfter ∧ Amc x.Layout
def Ahy (d : D) : SH := ⟨⟨(uL (uL uI)) (cel d 0)⟩, ⟨(uL uI) (cel d 1), (uL uBo) (cel d 2)⟩, ⟨(uL (uL uI)) (cel d 3)⟩, ⟨uI (cel d 4), uI (cel d 5), (uL uI) (cel d 6)⟩⟩
@[simp] theorem AmK (x : SH) : Ahy (Aaz x) = x := by simp [Ahy, Aaz, cel, uI, PN (u := (uL uI)) (en := (eL OM)) (PN (u := uI) (en := OM) (fun _ => rfl)), PN (u := uI) (en := OM) (fun _ => rfl), PN (u := uBo) (en := D.bool) (fun _ => rfl)]
structure PC where
  a0 : Int
  a1 : Int
deriving DecidableEq, Inhabited
def SY (x : PC) : D := .agg [.int .i64 x.a0, .int .i64 x.a1]
def Anb (x : PC) : Prop := (Rb .i64) x.a0 ∧ (Rb .i64) x.a1
def AjX (d : D) : PC := ⟨uI (cel d 0), uI (cel d 1)⟩
@[simp] theorem AmS (x : PC) : AjX (SY x) = x := by simp [AjX, SY, cel, uI]
structure Pb where
  Off : Int
  Size : Int
deriving DecidableEq, Inhabited
def PZ (x : Pb) : D := .agg [.int .i64 x.Off, .int .i64 x.Size]
def AmQ (x : Pb) : Prop := (Rb .i64) x.Off ∧ (Rb .i64) x.Size
def TA (d : D) : Pb := ⟨uI (cel d 0), uI (cel d 1)⟩
@[simp] theorem Afe (x : Pb) : TA (PZ x) = x := by simp [TA, PZ, cel, uI]
instance : TyE 5 eU8 := ⟨⟩
instance : TyE 40 PS := ⟨⟩
instance : TyE 30 (eL OM) := ⟨⟩
instance : TyE 3 OM := ⟨⟩
instance : TyE 4 D.bool := ⟨⟩
instance : TyE 67 OV := ⟨⟩
instance : TyE 69 OT := ⟨⟩
instance : TyE 29 Qo := ⟨⟩
instance : TyE 33 TZ := ⟨⟩
instance : TyE 55 Yg := ⟨⟩
instance : TyE 149 SY := ⟨⟩
instance : TyE 157 PZ := ⟨⟩
end Go.Proofs.YtpagjjmondojpaaGreatDoor
