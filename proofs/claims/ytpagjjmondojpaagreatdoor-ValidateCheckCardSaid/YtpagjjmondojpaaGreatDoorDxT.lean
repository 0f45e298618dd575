/-
  The types of the data; written by a program (dx.py).
-/
import Derived.Test.YtpagjjmondojpaaGreatDoorProg
import Derived.Test.YtpagjjmondojpaaGreatDoorDc
import Derived.Test.YtpagjjmondojpaaGreatDoorDd
import Derived.KernelRfl
namespace Go.Proofs.YtpagjjmondojpaaGreatDoor
open Go Go.Dw Go.Proofs
set_option maxRecDepth 100000
set_option maxHeartbeats 4000000
abbrev eI8 (n : Int) : D := .int .i8 n
abbrev AnS (n : Int) : D := .int .i16 n
abbrev AnT (n : Int) : D := .int .i32 n
abbrev OK (n : Int) : D := .int .i64 n
abbrev eU8 (n : Int) : D := .int .u8 n
abbrev AnU (n : Int) : D := .int .u16 n
abbrev AnV (n : Int) : D := .int .u32 n
abbrev Yt (n : Int) : D := .int .u64 n
structure OO where
  Out : (List (List Int))
deriving DecidableEq, Inhabited
def PX (x : OO) : D := .agg [.sl (x.Out.map (eL OK))]
def AgD (x : OO) : Prop := (qL (qL (QE .i64))) x.Out
def UP (d : D) : OO := ⟨(uL (uL uI)) (cel d 0)⟩
@[simp] theorem AnN (x : OO) : UP (PX x) = x := by simp [UP, PX, cel, PQ (u := (uL uI)) (en := (eL OK)) (PQ (u := uI) (en := OK) (fun _ => rfl))]
structure OP where
  To : (List Int)
  Keep : (List Bool)
deriving DecidableEq, Inhabited
def RD (x : OP) : D := .agg [.sl (x.To.map OK), .sl (x.Keep.map D.bool)]
def Ahp (x : OP) : Prop := (qL (QE .i64)) x.To ∧ (qL Amf) x.Keep
def Yp (d : D) : OP := ⟨(uL uI) (cel d 0), (uL uBo) (cel d 1)⟩
@[simp] theorem AnC (x : OP) : Yp (RD x) = x := by simp [Yp, RD, cel, PQ (u := uI) (en := OK) (fun _ => rfl), PQ (u := uBo) (en := D.bool) (fun _ => rfl)]
structure Pb where
  Size : Int
  Align : Int
deriving DecidableEq, Inhabited
def OV (x : Pb) : D := .agg [.int .i64 x.Size, .int .i64 x.Align]
def Anv (x : Pb) : Prop := (QE .i64) x.Size ∧ (QE .i64) x.Align
def Zh (d : D) : Pb := ⟨uI (cel d 0), uI (cel d 1)⟩
@[simp] theorem AeW (x : Pb) : Zh (OV x) = x := by simp [Zh, OV, cel, uI]
structure OM where
  Op : Int
  A : Int
  B : Int
  C : Int
  Imm : Int
deriving DecidableEq, Inhabited
def OU (x : OM) : D := .agg [.int .i64 x.Op, .int .i64 x.A, .int .i64 x.B, .int .i64 x.C, .int .u64 x.Imm]
def Anm (x : OM) : Prop := (QE .i64) x.Op ∧ (QE .i64) x.A ∧ (QE .i64) x.B ∧ (QE .i64) x.C ∧ (QE .u64) x.Imm
def Adj (d : D) : OM := ⟨uI (cel d 0), uI (cel d 1), uI (cel d 2), uI (cel d 3), uI (cel d 4)⟩
@[simp] theorem Aml (x : OM) : Adj (OU x) = x := by simp [Adj, OU, cel, uI]
structure OJ where
  Params : Int
  Slots : (List Pb)
  Code : (List OM)
deriving DecidableEq, Inhabited
def PO (x : OJ) : D := .agg [.int .i64 x.Params, .sl (x.Slots.map OV), .sl (x.Code.map OU)]
def Anu (x : OJ) : Prop := (QE .i64) x.Params ∧ (qL Anv) x.Slots ∧ (qL Anm) x.Code
def RV (d : D) : OJ := ⟨uI (cel d 0), (uL Zh) (cel d 1), (uL Adj) (cel d 2)⟩
@[simp] theorem AmQ (x : OJ) : RV (PO x) = x := by simp [RV, PO, cel, uI, PQ (u := Zh) (en := OV) AeW, PQ (u := Adj) (en := OU) Aml]
structure OL where
  a0 : Int
  a1 : Int
  a2 : Int
  a3 : Int
  a4 : Int
  a5 : Int
  a6 : Int
  a7 : Int
deriving DecidableEq, Inhabited
def OL.toList (x : OL) : List Int := [x.a0, x.a1, x.a2, x.a3, x.a4, x.a5, x.a6, x.a7]
def OL.set (x : OL) (j : Nat) (v : Int) : OL := ⟨(x.toList.set j v).getD 0 x.a0, (x.toList.set j v).getD 1 x.a1, (x.toList.set j v).getD 2 x.a2, (x.toList.set j v).getD 3 x.a3, (x.toList.set j v).getD 4 x.a4, (x.toList.set j v).getD 5 x.a5, (x.toList.set j v).getD 6 x.a6, (x.toList.set j v).getD 7 x.a7⟩
theorem QZ (x : OL) (j : Nat) (v : Int) : (x.set j v).toList = x.toList.set j v := by
  match j with
  | 0 => rfl
  | 1 => rfl
  | 2 => rfl
  | 3 => rfl
  | 4 => rfl
  | 5 => rfl
  | 6 => rfl
  | 7 => rfl
  | _ + 8 => rfl
def Po (x : OL) : D := .agg [.int .u64 x.a0, .int .u64 x.a1, .int .u64 x.a2, .int .u64 x.a3, .int .u64 x.a4, .int .u64 x.a5, .int .u64 x.a6, .int .u64 x.a7]
def Amg (x : OL) : Prop := (QE .u64) x.a0 ∧ (QE .u64) x.a1 ∧ (QE .u64) x.a2 ∧ (QE .u64) x.a3 ∧ (QE .u64) x.a4 ∧ (QE .u64) x.a5 ∧ (QE .u64) x.a6 ∧ (QE .u64) x.a7
def QV (d : D) : OL := ⟨uI (cel d 0), uI (cel d 1), uI (cel d 2), uI (cel d 3), uI (cel d 4), uI (cel d 5), uI (cel d 6), uI (cel d 7)⟩
@[simp] theorem AlG (x : OL) : QV (Po x) = x := by simp [QV, Po, cel, uI]
structure Pf where
  Funcs : (List OJ)
deriving DecidableEq, Inhabited
def Ss (x : Pf) : D := .agg [.sl (x.Funcs.map PO)]
def AnG (x : Pf) : Prop := (qL Anu) x.Funcs
def Zm (d : D) : Pf := ⟨(uL RV) (cel d 0)⟩
@[simp] theorem Anw (x : Pf) : Zm (Ss x) = x := by simp [Zm, Ss, cel, PQ (u := RV) (en := PO) AmQ]
structure Mk where
  list : (List Int)
  at_ : Int
deriving DecidableEq, Inhabited
def Pl (x : Mk) : D := .agg [.sl (x.list.map eU8), .int .i64 x.at_]
def Anq (x : Mk) : Prop := (qL (QE .u8)) x.list ∧ (QE .i64) x.at_
def RN (d : D) : Mk := ⟨(uL uI) (cel d 0), uI (cel d 1)⟩
@[simp] theorem AmV (x : Mk) : RN (Pl x) = x := by simp [RN, Pl, cel, uI, PQ (u := uI) (en := eU8) (fun _ => rfl)]
structure QI where
  Args : Int
  Size : Int
  Off : (List Int)
deriving DecidableEq, Inhabited
def Zv (x : QI) : D := .agg [.int .i64 x.Args, .int .i64 x.Size, .sl (x.Off.map OK)]
def AmI (x : QI) : Prop := (QE .i64) x.Args ∧ (QE .i64) x.Size ∧ (qL (QE .i64)) x.Off
def AkE (d : D) : QI := ⟨uI (cel d 0), uI (cel d 1), (uL uI) (cel d 2)⟩
@[simp] theorem AnB (x : QI) : AkE (Zv x) = x := by simp [AkE, Zv, cel, uI, PQ (u := uI) (en := OK) (fun _ => rfl)]
structure SU where
  Live : OO
  Rename : OP
  LiveAfter : OO
  Layout : QI
deriving DecidableEq, Inhabited
def AaR (x : SU) : D := .agg [.sl (x.Live.Out.map (eL OK)), .sl (x.Rename.To.map OK), .sl (x.Rename.Keep.map D.bool), .sl (x.LiveAfter.Out.map (eL OK)), .int .i64 x.Layout.Args, .int .i64 x.Layout.Size, .sl (x.Layout.Off.map OK)]
def Anz (x : SU) : Prop := AgD x.Live ∧ Ahp x.Rename ∧ AgD x.LiveAfter ∧ AmI x.Layout
def Aid (d : D) : SU := ⟨⟨(uL (uL uI)) (cel d 0)⟩, ⟨(uL uI) (cel d 1), (uL uBo) (cel d 2)⟩, ⟨(uL (uL uI)) (cel d 3)⟩, ⟨uI (cel d 4), uI (cel d 5), (uL uI) (cel d 6)⟩⟩
@[simp] theorem Anr (x : SU) : Aid (AaR x) = x := by simp [Aid, AaR, cel, uI, PQ (u := (uL uI)) (en := (eL OK)) (PQ (u := uI) (en := OK) (fun _ => rfl)), PQ (u := uI) (en := OK) (fun _ => rfl), PQ (u := uBo) (en := D.bool) (fun _ => rfl)]
structure PG where
  a0 : Int
  a1 : Int
deriving DecidableEq, Inhabited
def Tl (x : PG) : D := .agg [.int .i64 x.a0, .int .i64 x.a1]
def AnM (x : PG) : Prop := (QE .i64) x.a0 ∧ (QE .i64) x.a1
def AkD (d : D) : PG := ⟨uI (cel d 0), uI (cel d 1)⟩
@[simp] theorem AnA (x : PG) : AkD (Tl x) = x := by simp [AkD, Tl, cel, uI]
structure Pc where
  Off : Int
  Size : Int
deriving DecidableEq, Inhabited
def Qc (x : Pc) : D := .agg [.int .i64 x.Off, .int .i64 x.Size]
def Anx (x : Pc) : Prop := (QE .i64) x.Off ∧ (QE .i64) x.Size
def TK (d : D) : Pc := ⟨uI (cel d 0), uI (cel d 1)⟩
@[simp] theorem AfJ (x : Pc) : TK (Qc x) = x := by simp [TK, Qc, cel, uI]
instance : TyE 5 eU8 := ⟨⟩
instance : TyE 40 PO := ⟨⟩
instance : TyE 30 (eL OK) := ⟨⟩
instance : TyE 3 OK := ⟨⟩
instance : TyE 4 D.bool := ⟨⟩
instance : TyE 67 OV := ⟨⟩
instance : TyE 69 OU := ⟨⟩
instance : TyE 29 PX := ⟨⟩
instance : TyE 33 RD := ⟨⟩
instance : TyE 55 Yt := ⟨⟩
instance : TyE 149 Tl := ⟨⟩
instance : TyE 157 Qc := ⟨⟩
end Go.Proofs.YtpagjjmondojpaaGreatDoor
