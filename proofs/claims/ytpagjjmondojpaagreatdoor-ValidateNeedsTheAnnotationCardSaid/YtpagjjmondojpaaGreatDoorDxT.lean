/-
  The types of the data; written by a program (dx.py).
-/
import Derived.Test.YtpagjjmondojpaaGreatDoorProg
import Derived.Test.YtpagjjmondojpaaGreatDoorDd
import Derived.KernelRfl
namespace Go.Proofs.YtpagjjmondojpaaGreatDoor
open Go Go.Dw Go.Proofs
set_option maxRecDepth 100000
set_option maxHeartbeats 4000000
abbrev eI8 (n : Int) : D := .int .i8 n
abbrev Anh (n : Int) : D := .int .i16 n
abbrev Ani (n : Int) : D := .int .i32 n
abbrev Pa (n : Int) : D := .int .i64 n
abbrev eU8 (n : Int) : D := .int .u8 n
abbrev Anj (n : Int) : D := .int .u16 n
abbrev Ank (n : Int) : D := .int .u32 n
abbrev Yn (n : Int) : D := .int .u64 n
structure Pn where
  Size : Int
  Align : Int
deriving DecidableEq, Inhabited
def Ph (x : Pn) : D := .agg [.int .i64 x.Size, .int .i64 x.Align]
def AmN (x : Pn) : Prop := (Rl .i64) x.Size ∧ (Rl .i64) x.Align
def YY (d : D) : Pn := ⟨uI (cel d 0), uI (cel d 1)⟩
@[simp] theorem Aez (x : Pn) : YY (Ph x) = x := by simp [YY, Ph, cel, uI]
structure OZ where
  Op : Int
  A : Int
  B : Int
  C : Int
  Imm : Int
deriving DecidableEq, Inhabited
def Pg (x : OZ) : D := .agg [.int .i64 x.Op, .int .i64 x.A, .int .i64 x.B, .int .i64 x.C, .int .u64 x.Imm]
def AmF (x : OZ) : Prop := (Rl .i64) x.Op ∧ (Rl .i64) x.A ∧ (Rl .i64) x.B ∧ (Rl .i64) x.C ∧ (Rl .u64) x.Imm
def AcP (d : D) : OZ := ⟨uI (cel d 0), uI (cel d 1), uI (cel d 2), uI (cel d 3), uI (cel d 4)⟩
@[simp] theorem AlG (x : OZ) : AcP (Pg x) = x := by simp [AcP, Pg, cel, uI]
structure OX where
  Params : Int
  Slots : (List Pn)
  Code : (List OZ)
deriving DecidableEq, Inhabited
def Qe (x : OX) : D := .agg [.int .i64 x.Params, .sl (x.Slots.map Ph), .sl (x.Code.map Pg)]
def AmM (x : OX) : Prop := (Rl .i64) x.Params ∧ (qL AmN) x.Slots ∧ (qL AmF) x.Code
def Sn (d : D) : OX := ⟨uI (cel d 0), (uL YY) (cel d 1), (uL AcP) (cel d 2)⟩
@[simp] theorem Amk (x : OX) : Sn (Qe x) = x := by simp [Sn, Qe, cel, uI, Qa (u := YY) (en := Ph) Aez, Qa (u := AcP) (en := Pg) AlG]
structure Pf where
  Out : (List (List Int))
deriving DecidableEq, Inhabited
def QA (x : Pf) : D := .agg [.sl (x.Out.map (eL Pa))]
def AlL (x : Pf) : Prop := (qL (qL (Rl .i64))) x.Out
def VR (d : D) : Pf := ⟨(uL (uL uI)) (cel d 0)⟩
@[simp] theorem Anb (x : Pf) : VR (QA x) = x := by simp [VR, QA, cel, Qa (u := (uL uI)) (en := (eL Pa)) (Qa (u := uI) (en := Pa) (fun _ => rfl))]
structure Pj where
  To : (List Int)
  Keep : (List Bool)
deriving DecidableEq, Inhabited
def Ug (x : Pj) : D := .agg [.sl (x.To.map Pa), .sl (x.Keep.map D.bool)]
def Ame (x : Pj) : Prop := (qL (Rl .i64)) x.To ∧ (qL AmX) x.Keep
def Aaz (d : D) : Pj := ⟨(uL uI) (cel d 0), (uL uBo) (cel d 1)⟩
@[simp] theorem AmT (x : Pj) : Aaz (Ug x) = x := by simp [Aaz, Ug, cel, Qa (u := uI) (en := Pa) (fun _ => rfl), Qa (u := uBo) (en := D.bool) (fun _ => rfl)]
structure OY where
  a0 : Int
  a1 : Int
  a2 : Int
  a3 : Int
  a4 : Int
  a5 : Int
  a6 : Int
  a7 : Int
deriving DecidableEq, Inhabited
def OY.toList (x : OY) : List Int := [x.a0, x.a1, x.a2, x.a3, x.a4, x.a5, x.a6, x.a7]
def OY.set (x : OY) (j : Nat) (v : Int) : OY := ⟨(x.toList.set j v).getD 0 x.a0, (x.toList.set j v).getD 1 x.a1, (x.toList.set j v).getD 2 x.a2, (x.toList.set j v).getD 3 x.a3, (x.toList.set j v).getD 4 x.a4, (x.toList.set j v).getD 5 x.a5, (x.toList.set j v).getD 6 x.a6, (x.toList.set j v).getD 7 x.a7⟩
theorem Rg (x : OY) (j : Nat) (v : Int) : (x.set j v).toList = x.toList.set j v := by
  match j with
  | 0 => rfl
  | 1 => rfl
  | 2 => rfl
  | 3 => rfl
  | 4 => rfl
  | 5 => rfl
  | 6 => rfl
  | 7 => rfl
  | _ + 8 => rfl
def PC (x : OY) : D := .agg [.int .u64 x.a0, .int .u64 x.a1, .int .u64 x.a2, .int .u64 x.a3, .int .u64 x.a4, .int .u64 x.a5, .int .u64 x.a6, .int .u64 x.a7]
def AlD (x : OY) : Prop := (Rl .u64) x.a0 ∧ (Rl .u64) x.a1 ∧ (Rl .u64) x.a2 ∧ (Rl .u64) x.a3 ∧ (Rl .u64) x.a4 ∧ (Rl .u64) x.a5 ∧ (Rl .u64) x.a6 ∧ (Rl .u64) x.a7
def Rb (d : D) : OY := ⟨uI (cel d 0), uI (cel d 1), uI (cel d 2), uI (cel d 3), uI (cel d 4), uI (cel d 5), uI (cel d 6), uI (cel d 7)⟩
@[simp] theorem Ald (x : OY) : Rb (PC x) = x := by simp [Rb, PC, cel, uI]
structure Pt where
  Funcs : (List OX)
deriving DecidableEq, Inhabited
def Ss (x : Pt) : D := .agg [.sl (x.Funcs.map Qe)]
def AmY (x : Pt) : Prop := (qL AmM) x.Funcs
def Zc (d : D) : Pt := ⟨(uL Sn) (cel d 0)⟩
@[simp] theorem AmO (x : Pt) : Zc (Ss x) = x := by simp [Zc, Ss, cel, Qa (u := Sn) (en := Qe) Amk]
structure Mk where
  list : (List Int)
  at_ : Int
deriving DecidableEq, Inhabited
def Py (x : Mk) : D := .agg [.sl (x.list.map eU8), .int .i64 x.at_]
def AmI (x : Mk) : Prop := (qL (Rl .u8)) x.list ∧ (Rl .i64) x.at_
def RU (d : D) : Mk := ⟨(uL uI) (cel d 0), uI (cel d 1)⟩
@[simp] theorem Amp (x : Mk) : RU (Py x) = x := by simp [RU, Py, cel, uI, Qa (u := uI) (en := eU8) (fun _ => rfl)]
structure QQ where
  Args : Int
  Size : Int
  Off : (List Int)
deriving DecidableEq, Inhabited
def Zl (x : QQ) : D := .agg [.int .i64 x.Args, .int .i64 x.Size, .sl (x.Off.map Pa)]
def Amd (x : QQ) : Prop := (Rl .i64) x.Args ∧ (Rl .i64) x.Size ∧ (qL (Rl .i64)) x.Off
def Akc (d : D) : QQ := ⟨uI (cel d 0), uI (cel d 1), (uL uI) (cel d 2)⟩
@[simp] theorem AmS (x : QQ) : Akc (Zl x) = x := by simp [Akc, Zl, cel, uI, Qa (u := uI) (en := Pa) (fun _ => rfl)]
structure SP where
  Live : Pf
  Rename : Pj
  LiveAfter : Pf
  Layout : QQ
deriving DecidableEq, Inhabited
def AaG (x : SP) : D := .agg [.sl (x.Live.Out.map (eL Pa)), .sl (x.Rename.To.map Pa), .sl (x.Rename.Keep.map D.bool), .sl (x.LiveAfter.Out.map (eL Pa)), .int .i64 x.Layout.Args, .int .i64 x.Layout.Size, .sl (x.Layout.Off.map Pa)]
def AmQ (x : SP) : Prop := AlL x.Live ∧ Ame x.Rename ∧ AlL x.LiveAfter ∧ Amd x.Layout
def AhD (d : D) : SP := ⟨⟨(uL (uL uI)) (cel d 0)⟩, ⟨(uL uI) (cel d 1), (uL uBo) (cel d 2)⟩, ⟨(uL (uL uI)) (cel d 3)⟩, ⟨uI (cel d 4), uI (cel d 5), (uL uI) (cel d 6)⟩⟩
@[simp] theorem AmJ (x : SP) : AhD (AaG x) = x := by simp [AhD, AaG, cel, uI, Qa (u := (uL uI)) (en := (eL Pa)) (Qa (u := uI) (en := Pa) (fun _ => rfl)), Qa (u := uI) (en := Pa) (fun _ => rfl), Qa (u := uBo) (en := D.bool) (fun _ => rfl)]
structure PQ where
  a0 : Int
  a1 : Int
deriving DecidableEq, Inhabited
def Tf (x : PQ) : D := .agg [.int .i64 x.a0, .int .i64 x.a1]
def Ana (x : PQ) : Prop := (Rl .i64) x.a0 ∧ (Rl .i64) x.a1
def Akb (d : D) : PQ := ⟨uI (cel d 0), uI (cel d 1)⟩
@[simp] theorem AmR (x : PQ) : Akb (Tf x) = x := by simp [Akb, Tf, cel, uI]
structure Pp where
  Off : Int
  Size : Int
deriving DecidableEq, Inhabited
def Ql (x : Pp) : D := .agg [.int .i64 x.Off, .int .i64 x.Size]
def AmP (x : Pp) : Prop := (Rl .i64) x.Off ∧ (Rl .i64) x.Size
def TH (d : D) : Pp := ⟨uI (cel d 0), uI (cel d 1)⟩
@[simp] theorem Afk (x : Pp) : TH (Ql x) = x := by simp [TH, Ql, cel, uI]
instance : TyE 5 eU8 := ⟨⟩
instance : TyE 40 Qe := ⟨⟩
instance : TyE 30 (eL Pa) := ⟨⟩
instance : TyE 3 Pa := ⟨⟩
instance : TyE 4 D.bool := ⟨⟩
instance : TyE 67 Ph := ⟨⟩
instance : TyE 69 Pg := ⟨⟩
instance : TyE 29 QA := ⟨⟩
instance : TyE 33 Ug := ⟨⟩
instance : TyE 55 Yn := ⟨⟩
instance : TyE 149 Tf := ⟨⟩
instance : TyE 157 Ql := ⟨⟩
end Go.Proofs.YtpagjjmondojpaaGreatDoor
