/-
  The types of the data; written by a program (dx.py).
-/
import Derived.Test.YtnldnldmgceooaaGreatDoorProg
import Derived.Test.YtnldnldmgceooaaGreatDoorDd
import Derived.KernelRfl
namespace Go.Proofs.YtnldnldmgceooaaGreatDoor
open Go Go.Dw Go.Proofs
set_option maxRecDepth 100000
set_option maxHeartbeats 4000000
abbrev eI8 (n : Int) : D := .int .i8 n
abbrev Aql (n : Int) : D := .int .i16 n
abbrev Aqm (n : Int) : D := .int .i32 n
abbrev Pa (n : Int) : D := .int .i64 n
abbrev eU8 (n : Int) : D := .int .u8 n
abbrev Aqn (n : Int) : D := .int .u16 n
abbrev Aqo (n : Int) : D := .int .u32 n
abbrev ZV (n : Int) : D := .int .u64 n
structure Po where
  Size : Int
  Align : Int
deriving DecidableEq, Inhabited
def Pn (x : Po) : D := .agg [.int .i64 x.Size, .int .i64 x.Align]
def ApT (x : Po) : Prop := (QY .i64) x.Size ∧ (QY .i64) x.Align
def XL (d : D) : Po := ⟨uI (cel d 0), uI (cel d 1)⟩
@[simp] theorem AeC (x : Po) : XL (Pn x) = x := by simp [XL, Pn, cel, uI]
structure OZ where
  Op : Int
  A : Int
  B : Int
  C : Int
  Imm : Int
deriving DecidableEq, Inhabited
def Pm (x : OZ) : D := .agg [.int .i64 x.Op, .int .i64 x.A, .int .i64 x.B, .int .i64 x.C, .int .u64 x.Imm]
def ApL (x : OZ) : Prop := (QY .i64) x.Op ∧ (QY .i64) x.A ∧ (QY .i64) x.B ∧ (QY .i64) x.C ∧ (QY .u64) x.Imm
def AbP (d : D) : OZ := ⟨uI (cel d 0), uI (cel d 1), uI (cel d 2), uI (cel d 3), uI (cel d 4)⟩
@[simp] theorem AlZ (x : OZ) : AbP (Pm x) = x := by simp [AbP, Pm, cel, uI]
structure OX where
  Params : Int
  Slots : (List Po)
  Code : (List OZ)
deriving DecidableEq, Inhabited
def PL (x : OX) : D := .agg [.int .i64 x.Params, .sl (x.Slots.map Pn), .sl (x.Code.map Pm)]
def AoM (x : OX) : Prop := (QY .i64) x.Params ∧ (qL ApT) x.Slots ∧ (qL ApL) x.Code
def SM (d : D) : OX := ⟨uI (cel d 0), (uL XL) (cel d 1), (uL AbP) (cel d 2)⟩
@[simp] theorem AmO (x : OX) : SM (PL x) = x := by simp [SM, PL, cel, uI, PV (u := XL) (en := Pn) AeC, PV (u := AbP) (en := Pm) AlZ]
structure Ph where
  Funcs : (List OX)
deriving DecidableEq, Inhabited
def RA (x : Ph) : D := .agg [.sl (x.Funcs.map PL)]
def AoD (x : Ph) : Prop := (qL AoM) x.Funcs
def VD (d : D) : Ph := ⟨(uL SM) (cel d 0)⟩
@[simp] theorem ApU (x : Ph) : VD (RA x) = x := by simp [VD, RA, cel, PV (u := SM) (en := PL) AmO]
structure Pe where
  Args : Int
  Size : Int
  Off : (List Int)
deriving DecidableEq, Inhabited
def Qi (x : Pe) : D := .agg [.int .i64 x.Args, .int .i64 x.Size, .sl (x.Off.map Pa)]
def AmK (x : Pe) : Prop := (QY .i64) x.Args ∧ (QY .i64) x.Size ∧ (qL (QY .i64)) x.Off
def AeA (d : D) : Pe := ⟨uI (cel d 0), uI (cel d 1), (uL uI) (cel d 2)⟩
@[simp] theorem ApY (x : Pe) : AeA (Qi x) = x := by simp [AeA, Qi, cel, uI, PV (u := uI) (en := Pa) (fun _ => rfl)]
structure Pp where
  p : Ph
  i : Int
  align : Int
  f : OX
  y : Pe
deriving DecidableEq, Inhabited
def TB (x : Pp) : D := .agg [.sl (x.p.Funcs.map PL), .int .i64 x.i, .int .i64 x.align, .int .i64 x.f.Params, .sl (x.f.Slots.map Pn), .sl (x.f.Code.map Pm), .int .i64 x.y.Args, .int .i64 x.y.Size, .sl (x.y.Off.map Pa)]
def AoO (x : Pp) : Prop := AoD x.p ∧ (QY .i64) x.i ∧ (QY .i64) x.align ∧ AoM x.f ∧ AmK x.y
def TI (d : D) : Pp := ⟨⟨(uL SM) (cel d 0)⟩, uI (cel d 1), uI (cel d 2), ⟨uI (cel d 3), (uL XL) (cel d 4), (uL AbP) (cel d 5)⟩, ⟨uI (cel d 6), uI (cel d 7), (uL uI) (cel d 8)⟩⟩
@[simp] theorem Aof (x : Pp) : TI (TB x) = x := by simp [TI, TB, cel, uI, PV (u := SM) (en := PL) AmO, PV (u := XL) (en := Pn) AeC, PV (u := AbP) (en := Pm) AlZ, PV (u := uI) (en := Pa) (fun _ => rfl)]
structure Pj where
  Off : Int
  Size : Int
deriving DecidableEq, Inhabited
def Qd (x : Pj) : D := .agg [.int .i64 x.Off, .int .i64 x.Size]
def ApV (x : Pj) : Prop := (QY .i64) x.Off ∧ (QY .i64) x.Size
def Tt (d : D) : Pj := ⟨uI (cel d 0), uI (cel d 1)⟩
@[simp] theorem AgZ (x : Pj) : Tt (Qd x) = x := by simp [Tt, Qd, cel, uI]
structure Pg where
  Out : (List (List Int))
deriving DecidableEq, Inhabited
def Qt (x : Pg) : D := .agg [.sl (x.Out.map (eL Pa))]
def AoN (x : Pg) : Prop := (qL (qL (QY .i64))) x.Out
def VR (d : D) : Pg := ⟨(uL (uL uI)) (cel d 0)⟩
@[simp] theorem Aqg (x : Pg) : VR (Qt x) = x := by simp [VR, Qt, cel, PV (u := (uL uI)) (en := (eL Pa)) (PV (u := uI) (en := Pa) (fun _ => rfl))]
structure Mk where
  list : (List Int)
  at_ : Int
deriving DecidableEq, Inhabited
def Pz (x : Mk) : D := .agg [.sl (x.list.map eU8), .int .i64 x.at_]
def ApO (x : Mk) : Prop := (qL (QY .u8)) x.list ∧ (QY .i64) x.at_
def Se (d : D) : Mk := ⟨(uL uI) (cel d 0), uI (cel d 1)⟩
@[simp] theorem Apw (x : Mk) : Se (Pz x) = x := by simp [Se, Pz, cel, uI, PV (u := uI) (en := eU8) (fun _ => rfl)]
structure Pw where
  To : (List Int)
  Keep : (List Bool)
deriving DecidableEq, Inhabited
def Aeh (x : Pw) : D := .agg [.sl (x.To.map Pa), .sl (x.Keep.map D.bool)]
def Apj (x : Pw) : Prop := (qL (QY .i64)) x.To ∧ (qL Aqd) x.Keep
def AeB (d : D) : Pw := ⟨(uL uI) (cel d 0), (uL uBo) (cel d 1)⟩
@[simp] theorem ApZ (x : Pw) : AeB (Aeh x) = x := by simp [AeB, Aeh, cel, PV (u := uI) (en := Pa) (fun _ => rfl), PV (u := uBo) (en := D.bool) (fun _ => rfl)]
structure Ua where
  Live : Pg
  Rename : Pw
  LiveAfter : Pg
  Layout : Pe
deriving DecidableEq, Inhabited
def AbH (x : Ua) : D := .agg [.sl (x.Live.Out.map (eL Pa)), .sl (x.Rename.To.map Pa), .sl (x.Rename.Keep.map D.bool), .sl (x.LiveAfter.Out.map (eL Pa)), .int .i64 x.Layout.Args, .int .i64 x.Layout.Size, .sl (x.Layout.Off.map Pa)]
def ApW (x : Ua) : Prop := AoN x.Live ∧ Apj x.Rename ∧ AoN x.LiveAfter ∧ AmK x.Layout
def AjX (d : D) : Ua := ⟨⟨(uL (uL uI)) (cel d 0)⟩, ⟨(uL uI) (cel d 1), (uL uBo) (cel d 2)⟩, ⟨(uL (uL uI)) (cel d 3)⟩, ⟨uI (cel d 4), uI (cel d 5), (uL uI) (cel d 6)⟩⟩
@[simp] theorem ApQ (x : Ua) : AjX (AbH x) = x := by simp [AjX, AbH, cel, uI, PV (u := (uL uI)) (en := (eL Pa)) (PV (u := uI) (en := Pa) (fun _ => rfl)), PV (u := uI) (en := Pa) (fun _ => rfl), PV (u := uBo) (en := D.bool) (fun _ => rfl)]
structure PR where
  a0 : Int
  a1 : Int
deriving DecidableEq, Inhabited
def TA (x : PR) : D := .agg [.int .i64 x.a0, .int .i64 x.a1]
def Aqf (x : PR) : Prop := (QY .i64) x.a0 ∧ (QY .i64) x.a1
def AmN (d : D) : PR := ⟨uI (cel d 0), uI (cel d 1)⟩
@[simp] theorem ApX (x : PR) : AmN (TA x) = x := by simp [AmN, TA, cel, uI]
structure OY where
  a0 : Int
  a1 : Int
  a2 : Int
  a3 : Int
  a4 : Int
  a5 : Int
  a6 : Int
  a7 : Int
deriving DecidableEq, Inhabited
def OY.toList (x : OY) : List Int := [x.a0, x.a1, x.a2, x.a3, x.a4, x.a5, x.a6, x.a7]
def OY.set (x : OY) (j : Nat) (v : Int) : OY := ⟨(x.toList.set j v).getD 0 x.a0, (x.toList.set j v).getD 1 x.a1, (x.toList.set j v).getD 2 x.a2, (x.toList.set j v).getD 3 x.a3, (x.toList.set j v).getD 4 x.a4, (x.toList.set j v).getD 5 x.a5, (x.toList.set j v).getD 6 x.a6, (x.toList.set j v).getD 7 x.a7⟩
theorem Ro (x : OY) (j : Nat) (v : Int) : (x.set j v).toList = x.toList.set j v := by
  match j with
  | 0 => rfl
  | 1 => rfl
  | 2 => rfl
  | 3 => rfl
  | 4 => rfl
  | 5 => rfl
  | 6 => rfl
  | 7 => rfl
  | _ + 8 => rfl
def PD (x : OY) : D := .agg [.int .u64 x.a0, .int .u64 x.a1, .int .u64 x.a2, .int .u64 x.a3, .int .u64 x.a4, .int .u64 x.a5, .int .u64 x.a6, .int .u64 x.a7]
def AoE (x : OY) : Prop := (QY .u64) x.a0 ∧ (QY .u64) x.a1 ∧ (QY .u64) x.a2 ∧ (QY .u64) x.a3 ∧ (QY .u64) x.a4 ∧ (QY .u64) x.a5 ∧ (QY .u64) x.a6 ∧ (QY .u64) x.a7
def Rk (d : D) : OY := ⟨uI (cel d 0), uI (cel d 1), uI (cel d 2), uI (cel d 3), uI (cel d 4), uI (cel d 5), uI (cel d 6), uI (cel d 7)⟩
@[simp] theorem Aoc (x : OY) : Rk (PD x) = x := by simp [Rk, PD, cel, uI]
instance : TyE 5 eU8 := ⟨⟩
instance : TyE 40 PL := ⟨⟩
instance : TyE 30 (eL Pa) := ⟨⟩
instance : TyE 3 Pa := ⟨⟩
instance : TyE 54 Pn := ⟨⟩
instance : TyE 50 Pm := ⟨⟩
instance : TyE 32 Qi := ⟨⟩
instance : TyE 29 Qt := ⟨⟩
instance : TyE 4 D.bool := ⟨⟩
instance : TyE 56 Qd := ⟨⟩
instance : TyE 135 TA := ⟨⟩
end Go.Proofs.YtnldnldmgceooaaGreatDoor
