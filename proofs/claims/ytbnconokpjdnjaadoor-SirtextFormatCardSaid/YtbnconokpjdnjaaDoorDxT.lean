/-
  The types of the data; written by a program (dx.py).
-/
import Derived.Test.YtbnconokpjdnjaaDoorProg
import Derived.Test.YtbnconokpjdnjaaDoorDd
import Derived.KernelRfl
namespace Go.Proofs.YtbnconokpjdnjaaDoor
open Go Go.Dw Go.Proofs
set_option maxRecDepth 100000
set_option maxHeartbeats 40000000
abbrev eI8 (n : Int) : D := .int .i8 n
abbrev AcN (n : Int) : D := .int .i16 n
abbrev AcO (n : Int) : D := .int .i32 n
abbrev Su (n : Int) : D := .int .i64 n
abbrev eU8 (n : Int) : D := .int .u8 n
abbrev AcP (n : Int) : D := .int .u16 n
abbrev AcQ (n : Int) : D := .int .u32 n
abbrev AcR (n : Int) : D := .int .u64 n
structure Ed where
  Op : Int
  A : Int
  B : Int
  C : Int
  Imm : Int
 deriving DecidableEq, Inhabited
def QZ (x : Ed) : D := .agg [.int .i64 x.Op, .int .i64 x.A, .int .i64 x.B, .int .i64 x.C, .int .u64 x.Imm]
def Acl (x : Ed) : Prop := (Sv .i64) x.Op /\ (Sv .i64) x.A /\ (Sv .i64) x.B /\ (Sv .i64) x.C /\ (Sv .u64) x.Imm
def Wv (d : D) : Ed := ⟨uI (cel d 0), uI (cel d 1), uI (cel d 2), uI (cel d 3), uI (cel d 4)⟩
@[simp] theorem Abr (x : Ed) : Wv (QZ x) = x := by simp [Wv, QZ, cel, uI]
structure RA where
  a0 : Int
  a1 : Int
  a2 : Int
 deriving DecidableEq, Inhabited
def RA.toList (x : RA) : List Int := [x.a0, x.a1, x.a2]
def RA.set (x : RA) (j : Nat) (v : Int) : RA := ⟨(x.toList.set j v).getD 0 x.a0, (x.toList.set j v).getD 1 x.a1, (x.toList.set j v).getD 2 x.a2⟩
theorem Acm (x : RA) (j : Nat) (v : Int) : (x.set j v).toList = x.toList.set j v := by
  match j with
  | 0 => rfl
  | 1 => rfl
  | 2 => rfl
  | _ + 3 => rfl
def Aag (x : RA) : D := .agg [.int .i64 x.a0, .int .i64 x.a1, .int .i64 x.a2]
def AcG (x : RA) : Prop := (Sv .i64) x.a0 /\ (Sv .i64) x.a1 /\ (Sv .i64) x.a2
def Aan (d : D) : RA := ⟨uI (cel d 0), uI (cel d 1), uI (cel d 2)⟩
@[simp] theorem Acx (x : RA) : Aan (Aag x) = x := by simp [Aan, Aag, cel, uI]
structure Av where
  list : (List Int)
  at_ : Int
 deriving DecidableEq, Inhabited
def Ro (x : Av) : D := .agg [.sl (x.list.map eU8), .int .i64 x.at_]
def Acp (x : Av) : Prop := (qL (Sv .u8)) x.list /\ (Sv .i64) x.at_
def SP (d : D) : Av := ⟨(uL uI) (cel d 0), uI (cel d 1)⟩
@[simp] theorem AbY (x : Av) : SP (Ro x) = x := by simp [SP, Ro, cel, uI, VX (u := uI) (en := eU8) (λ_ => rfl)]
structure QO where
  Size : Int
  Align : Int
 deriving DecidableEq, Inhabited
def RJ (x : QO) : D := .agg [.int .i64 x.Size, .int .i64 x.Align]
def Acu (x : QO) : Prop := (Sv .i64) x.Size /\ (Sv .i64) x.Align
def VG (d : D) : QO := ⟨uI (cel d 0), uI (cel d 1)⟩
@[simp] theorem YX (x : QO) : VG (RJ x) = x := by simp [VG, RJ, cel, uI]
structure QT where
  Params : Int
  Slots : (List QO)
  Code : (List Ed)
 deriving DecidableEq, Inhabited
def Re (x : QT) : D := .agg [.int .i64 x.Params, .sl (x.Slots.map RJ), .sl (x.Code.map QZ)]
def Acs (x : QT) : Prop := (Sv .i64) x.Params /\ (qL Acu) x.Slots /\ (qL Acl) x.Code
def Wb (d : D) : QT := ⟨uI (cel d 0), (uL VG) (cel d 1), (uL Wv) (cel d 2)⟩
@[simp] theorem AbV (x : QT) : Wb (Re x) = x := by simp [Wb, Re, cel, uI, VX (u := VG) (en := RJ) YX, VX (u := Wv) (en := QZ) Abr]
structure Mk where
  Funcs : (List QT)
 deriving DecidableEq, Inhabited
def Sn (x : Mk) : D := .agg [.sl (x.Funcs.map Re)]
def AcD (x : Mk) : Prop := (qL Acs) x.Funcs
def UA (d : D) : Mk := ⟨(uL Wb) (cel d 0)⟩
@[simp] theorem Acw (x : Mk) : UA (Sn x) = x := by simp [UA, Sn, cel, VX (u := Wb) (en := Re) AbV]
structure RU where
  a : Int
  b : Int
  c : Int
  imm : Bool
 deriving DecidableEq, Inhabited
def UL (x : RU) : D := .agg [.int .i64 x.a, .int .i64 x.b, .int .i64 x.c, .bool x.imm]
def Aco (x : RU) : Prop := (Sv .i64) x.a /\ (Sv .i64) x.b /\ (Sv .i64) x.c /\ AcC x.imm
def XW (d : D) : RU := ⟨uI (cel d 0), uI (cel d 1), uI (cel d 2), uBo (cel d 3)⟩
@[simp] theorem AbX (x : RU) : XW (UL x) = x := by simp [XW, UL, cel, uI, uBo]
structure Ra where
  a0 : Int
  a1 : Int
  a2 : Int
  a3 : Int
  a4 : Int
  a5 : Int
  a6 : Int
 deriving DecidableEq, Inhabited
def Ra.toList (x : Ra) : List Int := [x.a0, x.a1, x.a2, x.a3, x.a4, x.a5, x.a6]
def Ra.set (x : Ra) (j : Nat) (v : Int) : Ra := ⟨(x.toList.set j v).getD 0 x.a0, (x.toList.set j v).getD 1 x.a1, (x.toList.set j v).getD 2 x.a2, (x.toList.set j v).getD 3 x.a3, (x.toList.set j v).getD 4 x.a4, (x.toList.set j v).getD 5 x.a5, (x.toList.set j v).getD 6 x.a6⟩
theorem Acn (x : Ra) (j : Nat) (v : Int) : (x.set j v).toList = x.toList.set j v := by
  match j with
  | 0 => rfl
  | 1 => rfl
  | 2 => rfl
  | 3 => rfl
  | 4 => rfl
  | 5 => rfl
  | 6 => rfl
  | _ + 7 => rfl
def Xs (x : Ra) : D := .agg [.int .i64 x.a0, .int .i64 x.a1, .int .i64 x.a2, .int .i64 x.a3, .int .i64 x.a4, .int .i64 x.a5, .int .i64 x.a6]
def AcH (x : Ra) : Prop := (Sv .i64) x.a0 /\ (Sv .i64) x.a1 /\ (Sv .i64) x.a2 /\ (Sv .i64) x.a3 /\ (Sv .i64) x.a4 /\ (Sv .i64) x.a5 /\ (Sv .i64) x.a6
def Aao (d : D) : Ra := ⟨uI (cel d 0), uI (cel d 1), uI (cel d 2), uI (cel d 3), uI (cel d 4), uI (cel d 5), uI (cel d 6)⟩
@[simp] theorem Acy (x : Ra) : Aao (Xs x) = x := by simp [Aao, Xs, cel, uI]
instance : TyE 5 eU8 := ⟨⟩
instance : TyE 69 Re := ⟨⟩
instance : TyE 33 Sn := ⟨⟩
instance : TyE 24 QZ := ⟨⟩
instance : TyE 9 D.str := ⟨⟩
instance : TyE 3 Su := ⟨⟩
instance : TyE 74 RJ := ⟨⟩
end Go.Proofs.YtbnconokpjdnjaaDoor
