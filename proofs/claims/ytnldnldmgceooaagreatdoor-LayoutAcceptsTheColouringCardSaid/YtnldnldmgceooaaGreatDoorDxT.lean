/-
  The types of the data; written by a program (dx.py).
-/
import Derived.Test.YtnldnldmgceooaaGreatDoorProg
import Derived.Test.YtnldnldmgceooaaGreatDoorDd
import Derived.KernelRfl
namespace Go.Proofs.YtnldnldmgceooaaGreatDoor
open Go Go.Dw Go.Proofs
set_option maxRecDepth 100000
set_option maxHeartbeats 4000000
abbrev eI8 (n : Int) : D := .int .i8 n
abbrev Aqu (n : Int) : D := .int .i16 n
abbrev Aqv (n : Int) : D := .int .i32 n
abbrev Pa (n : Int) : D := .int .i64 n
abbrev eU8 (n : Int) : D := .int .u8 n
abbrev Aqw (n : Int) : D := .int .u16 n
abbrev Aqx (n : Int) : D := .int .u32 n
abbrev Aaw (n : Int) : D := .int .u64 n
structure Pm where
  Size : Int
  Align : Int
deriving DecidableEq, Inhabited
def Po (x : Pm) : D := .agg [.int .i64 x.Size, .int .i64 x.Align]
def Aqc (x : Pm) : Prop := (QY .i64) x.Size ∧ (QY .i64) x.Align
def Yg (d : D) : Pm := ⟨uI (cel d 0), uI (cel d 1)⟩
@[simp] theorem AeK (x : Pm) : Yg (Po x) = x := by simp [Yg, Po, cel, uI]
structure OZ where
  Op : Int
  A : Int
  B : Int
  C : Int
  Imm : Int
deriving DecidableEq, Inhabited
def Pn (x : OZ) : D := .agg [.int .i64 x.Op, .int .i64 x.A, .int .i64 x.B, .int .i64 x.C, .int .u64 x.Imm]
def ApT (x : OZ) : Prop := (QY .i64) x.Op ∧ (QY .i64) x.A ∧ (QY .i64) x.B ∧ (QY .i64) x.C ∧ (QY .u64) x.Imm
def Ace (d : D) : OZ := ⟨uI (cel d 0), uI (cel d 1), uI (cel d 2), uI (cel d 3), uI (cel d 4)⟩
@[simp] theorem Amf (x : OZ) : Ace (Pn x) = x := by simp [Ace, Pn, cel, uI]
structure OX where
  Params : Int
  Slots : (List Pm)
  Code : (List OZ)
deriving DecidableEq, Inhabited
def PM (x : OX) : D := .agg [.int .i64 x.Params, .sl (x.Slots.map Po), .sl (x.Code.map Pn)]
def AoS (x : OX) : Prop := (QY .i64) x.Params ∧ (qL Aqc) x.Slots ∧ (qL ApT) x.Code
def SS (d : D) : OX := ⟨uI (cel d 0), (uL Yg) (cel d 1), (uL Ace) (cel d 2)⟩
@[simp] theorem AmS (x : OX) : SS (PM x) = x := by simp [SS, PM, cel, uI, PV (u := Yg) (en := Po) AeK, PV (u := Ace) (en := Pn) Amf]
structure Pj where
  Funcs : (List OX)
deriving DecidableEq, Inhabited
def RE (x : Pj) : D := .agg [.sl (x.Funcs.map PM)]
def AoL (x : Pj) : Prop := (qL AoS) x.Funcs
def VV (d : D) : Pj := ⟨(uL SS) (cel d 0)⟩
@[simp] theorem Aqe (x : Pj) : VV (RE x) = x := by simp [VV, RE, cel, PV (u := SS) (en := PM) AmS]
structure Pg where
  Args : Int
  Size : Int
  Off : (List Int)
deriving DecidableEq, Inhabited
def Qh (x : Pg) : D := .agg [.int .i64 x.Args, .int .i64 x.Size, .sl (x.Off.map Pa)]
def AmP (x : Pg) : Prop := (QY .i64) x.Args ∧ (QY .i64) x.Size ∧ (qL (QY .i64)) x.Off
def AeI (d : D) : Pg := ⟨uI (cel d 0), uI (cel d 1), (uL uI) (cel d 2)⟩
@[simp] theorem Aqi (x : Pg) : AeI (Qh x) = x := by simp [AeI, Qh, cel, uI, PV (u := uI) (en := Pa) (fun _ => rfl)]
structure Pp where
  p : Pj
  i : Int
  align : Int
  f : OX
  y : Pg
deriving DecidableEq, Inhabited
def TN (x : Pp) : D := .agg [.sl (x.p.Funcs.map PM), .int .i64 x.i, .int .i64 x.align, .int .i64 x.f.Params, .sl (x.f.Slots.map Po), .sl (x.f.Code.map Pn), .int .i64 x.y.Args, .int .i64 x.y.Size, .sl (x.y.Off.map Pa)]
def AoU (x : Pp) : Prop := AoL x.p ∧ (QY .i64) x.i ∧ (QY .i64) x.align ∧ AoS x.f ∧ AmP x.y
def TS (d : D) : Pp := ⟨⟨(uL SS) (cel d 0)⟩, uI (cel d 1), uI (cel d 2), ⟨uI (cel d 3), (uL Yg) (cel d 4), (uL Ace) (cel d 5)⟩, ⟨uI (cel d 6), uI (cel d 7), (uL uI) (cel d 8)⟩⟩
@[simp] theorem Aon (x : Pp) : TS (TN x) = x := by simp [TS, TN, cel, uI, PV (u := SS) (en := PM) AmS, PV (u := Yg) (en := Po) AeK, PV (u := Ace) (en := Pn) Amf, PV (u := uI) (en := Pa) (fun _ => rfl)]
structure Pe where
  Off : Int
  Size : Int
deriving DecidableEq, Inhabited
def Qc (x : Pe) : D := .agg [.int .i64 x.Off, .int .i64 x.Size]
def Aqf (x : Pe) : Prop := (QY .i64) x.Off ∧ (QY .i64) x.Size
def TE (d : D) : Pe := ⟨uI (cel d 0), uI (cel d 1)⟩
@[simp] theorem Ahl (x : Pe) : TE (Qc x) = x := by simp [TE, Qc, cel, uI]
structure Ph where
  Out : (List (List Int))
deriving DecidableEq, Inhabited
def Qz (x : Ph) : D := .agg [.sl (x.Out.map (eL Pa))]
def AoT (x : Ph) : Prop := (qL (qL (QY .i64))) x.Out
def Wj (d : D) : Ph := ⟨(uL (uL uI)) (cel d 0)⟩
@[simp] theorem Aqp (x : Ph) : Wj (Qz x) = x := by simp [Wj, Qz, cel, PV (u := (uL uI)) (en := (eL Pa)) (PV (u := uI) (en := Pa) (fun _ => rfl))]
structure Mk where
  list : (List Int)
  at_ : Int
deriving DecidableEq, Inhabited
def Pz (x : Mk) : D := .agg [.sl (x.list.map eU8), .int .i64 x.at_]
def ApW (x : Mk) : Prop := (qL (QY .u8)) x.list ∧ (QY .i64) x.at_
def Sl (d : D) : Mk := ⟨(uL uI) (cel d 0), uI (cel d 1)⟩
@[simp] theorem ApC (x : Mk) : Sl (Pz x) = x := by simp [Sl, Pz, cel, uI, PV (u := uI) (en := eU8) (fun _ => rfl)]
structure Pw where
  To : (List Int)
  Keep : (List Bool)
deriving DecidableEq, Inhabited
def Aep (x : Pw) : D := .agg [.sl (x.To.map Pa), .sl (x.Keep.map D.bool)]
def Apq (x : Pw) : Prop := (qL (QY .i64)) x.To ∧ (qL Aqd) x.Keep
def AeJ (d : D) : Pw := ⟨(uL uI) (cel d 0), (uL uBo) (cel d 1)⟩
@[simp] theorem Aqj (x : Pw) : AeJ (Aep x) = x := by simp [AeJ, Aep, cel, PV (u := uI) (en := Pa) (fun _ => rfl), PV (u := uBo) (en := D.bool) (fun _ => rfl)]
structure Um where
  Live : Ph
  Rename : Pw
  LiveAfter : Ph
  Layout : Pg
deriving DecidableEq, Inhabited
def AbX (x : Um) : D := .agg [.sl (x.Live.Out.map (eL Pa)), .sl (x.Rename.To.map Pa), .sl (x.Rename.Keep.map D.bool), .sl (x.LiveAfter.Out.map (eL Pa)), .int .i64 x.Layout.Args, .int .i64 x.Layout.Size, .sl (x.Layout.Off.map Pa)]
def Aqg (x : Um) : Prop := AoT x.Live ∧ Apq x.Rename ∧ AoT x.LiveAfter ∧ AmP x.Layout
def Akd (d : D) : Um := ⟨⟨(uL (uL uI)) (cel d 0)⟩, ⟨(uL uI) (cel d 1), (uL uBo) (cel d 2)⟩, ⟨(uL (uL uI)) (cel d 3)⟩, ⟨uI (cel d 4), uI (cel d 5), (uL uI) (cel d 6)⟩⟩
@[simp] theorem ApY (x : Um) : Akd (AbX x) = x := by simp [Akd, AbX, cel, uI, PV (u := (uL uI)) (en := (eL Pa)) (PV (u := uI) (en := Pa) (fun _ => rfl)), PV (u := uI) (en := Pa) (fun _ => rfl), PV (u := uBo) (en := D.bool) (fun _ => rfl)]
structure PR where
  a0 : Int
  a1 : Int
deriving DecidableEq, Inhabited
def TM (x : PR) : D := .agg [.int .i64 x.a0, .int .i64 x.a1]
def Aqo (x : PR) : Prop := (QY .i64) x.a0 ∧ (QY .i64) x.a1
def AmR (d : D) : PR := ⟨uI (cel d 0), uI (cel d 1)⟩
@[simp] theorem Aqh (x : PR) : AmR (TM x) = x := by simp [AmR, TM, cel, uI]
structure OY where
  a0 : Int
  a1 : Int
  a2 : Int
  a3 : Int
  a4 : Int
  a5 : Int
  a6 : Int
  a7 : Int
deriving DecidableEq, Inhabited
def OY.toList (x : OY) : List Int := [x.a0, x.a1, x.a2, x.a3, x.a4, x.a5, x.a6, x.a7]
def OY.set (x : OY) (j : Nat) (v : Int) : OY := ⟨(x.toList.set j v).getD 0 x.a0, (x.toList.set j v).getD 1 x.a1, (x.toList.set j v).getD 2 x.a2, (x.toList.set j v).getD 3 x.a3, (x.toList.set j v).getD 4 x.a4, (x.toList.set j v).getD 5 x.a5, (x.toList.set j v).getD 6 x.a6, (x.toList.set j v).getD 7 x.a7⟩
theorem Rr (x : OY) (j : Nat) (v : Int) : (x.set j v).toList = x.toList.set j v := by
  match j with
  | 0 => rfl
  | 1 => rfl
  | 2 => rfl
  | 3 => rfl
  | 4 => rfl
  | 5 => rfl
  | 6 => rfl
  | 7 => rfl
  | _ + 8 => rfl
def PI (x : OY) : D := .agg [.int .u64 x.a0, .int .u64 x.a1, .int .u64 x.a2, .int .u64 x.a3, .int .u64 x.a4, .int .u64 x.a5, .int .u64 x.a6, .int .u64 x.a7]
def AoM (x : OY) : Prop := (QY .u64) x.a0 ∧ (QY .u64) x.a1 ∧ (QY .u64) x.a2 ∧ (QY .u64) x.a3 ∧ (QY .u64) x.a4 ∧ (QY .u64) x.a5 ∧ (QY .u64) x.a6 ∧ (QY .u64) x.a7
def Rm (d : D) : OY := ⟨uI (cel d 0), uI (cel d 1), uI (cel d 2), uI (cel d 3), uI (cel d 4), uI (cel d 5), uI (cel d 6), uI (cel d 7)⟩
@[simp] theorem Aok (x : OY) : Rm (PI x) = x := by simp [Rm, PI, cel, uI]
instance : TyE 5 eU8 := ⟨⟩
instance : TyE 40 PM := ⟨⟩
instance : TyE 30 (eL Pa) := ⟨⟩
instance : TyE 3 Pa := ⟨⟩
instance : TyE 54 Po := ⟨⟩
instance : TyE 50 Pn := ⟨⟩
instance : TyE 32 Qh := ⟨⟩
instance : TyE 29 Qz := ⟨⟩
instance : TyE 4 D.bool := ⟨⟩
instance : TyE 56 Qc := ⟨⟩
instance : TyE 135 TM := ⟨⟩
end Go.Proofs.YtnldnldmgceooaaGreatDoor
