/-
  The types of the data; written by a program (dx.py).
-/
import Derived.Test.YtgebpjgohchohaaProg
import Derived.Test.YtgebpjgohchohaaDd
import Derived.KernelRfl
namespace Go.Proofs.Ytgebpjgohchohaa
open Go Go.Dw Go.Proofs
set_option maxRecDepth 100000
set_option maxHeartbeats 40000000
abbrev eI8 (n : Int) : D := .int .i8 n
abbrev Yx (n : Int) : D := .int .i16 n
abbrev Yy (n : Int) : D := .int .i32 n
abbrev OJ (n : Int) : D := .int .i64 n
abbrev eU8 (n : Int) : D := .int .u8 n
abbrev Yz (n : Int) : D := .int .u16 n
abbrev YA (n : Int) : D := .int .u32 n
abbrev YB (n : Int) : D := .int .u64 n
structure Mk where
  Op : Int
  A : Int
  B : Int
  C : Int
  Imm : Int
 deriving DecidableEq, Inhabited
def Pc (x : Mk) : D := .agg [.int .i64 x.Op, .int .i64 x.A, .int .i64 x.B, .int .i64 x.C, .int .u64 x.Imm]
def Ya (x : Mk) : Prop := (Rg .i64) x.Op /\ (Rg .i64) x.A /\ (Rg .i64) x.B /\ (Rg .i64) x.C /\ (Rg .u64) x.Imm
def Vt (d : D) : Mk := ⟨uI (cel d 0), uI (cel d 1), uI (cel d 2), uI (cel d 3), uI (cel d 4)⟩
@[simp] theorem Xs (x : Mk) : Vt (Pc x) = x := by simp [Vt, Pc, cel, uI]
structure Pp where
  Size : Int
  Align : Int
 deriving DecidableEq, Inhabited
def Rf (x : Pp) : D := .agg [.int .i64 x.Size, .int .i64 x.Align]
def Yf (x : Pp) : Prop := (Rg .i64) x.Size /\ (Rg .i64) x.Align
def VQ (d : D) : Pp := ⟨uI (cel d 0), uI (cel d 1)⟩
@[simp] theorem XJ (x : Pp) : VQ (Rf x) = x := by simp [VQ, Rf, cel, uI]
structure OI where
  Params : Int
  Slots : (List Pp)
  Code : (List Mk)
 deriving DecidableEq, Inhabited
def OK (x : OI) : D := .agg [.int .i64 x.Params, .sl (x.Slots.map Rf), .sl (x.Code.map Pc)]
def Ye (x : OI) : Prop := (Rg .i64) x.Params /\ (qL Yf) x.Slots /\ (qL Ya) x.Code
def Tw (d : D) : OI := ⟨uI (cel d 0), (uL VQ) (cel d 1), (uL Vt) (cel d 2)⟩
@[simp] theorem XH (x : OI) : Tw (OK x) = x := by simp [Tw, OK, cel, uI, QY (u := VQ) (en := Rf) XJ, QY (u := Vt) (en := Pc) Xs]
structure Av where
  k : Int
  rest : (List Int)
 deriving DecidableEq, Inhabited
def OE (x : Av) : D := .agg [.int .i64 x.k, .sl (x.rest.map OJ)]
def Xo (x : Av) : Prop := (Rg .i64) x.k /\ (qL (Rg .i64)) x.rest
def Tp (d : D) : Av := ⟨uI (cel d 0), (uL uI) (cel d 1)⟩
@[simp] theorem Xf (x : Av) : Tp (OE x) = x := by simp [Tp, OE, cel, uI, QY (u := uI) (en := OJ) (λ_ => rfl)]
structure Ed where
  list : (List Int)
  at_ : Int
 deriving DecidableEq, Inhabited
def Pd (x : Ed) : D := .agg [.sl (x.list.map eU8), .int .i64 x.at_]
def Yc (x : Ed) : Prop := (qL (Rg .u8)) x.list /\ (Rg .i64) x.at_
def QG (d : D) : Ed := ⟨(uL uI) (cel d 0), uI (cel d 1)⟩
@[simp] theorem XL (x : Ed) : QG (Pd x) = x := by simp [QG, Pd, cel, uI, QY (u := uI) (en := eU8) (λ_ => rfl)]
structure QI where
  Funcs : (List OI)
 deriving DecidableEq, Inhabited
def Va (x : QI) : D := .agg [.sl (x.Funcs.map OK)]
def Yp (x : QI) : Prop := (qL Ye) x.Funcs
def Wi (d : D) : QI := ⟨(uL Tw) (cel d 0)⟩
@[simp] theorem Yh (x : QI) : Wi (Va x) = x := by simp [Wi, Va, cel, QY (u := Tw) (en := OK) XH]
structure OL where
  a0 : Int
  a1 : Int
 deriving DecidableEq, Inhabited
def PW (x : OL) : D := .agg [.int .i64 x.a0, .int .i64 x.a1]
def Ys (x : OL) : Prop := (Rg .i64) x.a0 /\ (Rg .i64) x.a1
def Wy (d : D) : OL := ⟨uI (cel d 0), uI (cel d 1)⟩
@[simp] theorem Yi (x : OL) : Wy (PW x) = x := by simp [Wy, PW, cel, uI]
instance : TyE 5 eU8 := ⟨⟩
instance : TyE 89 Rf := ⟨⟩
instance : TyE 43 Pc := ⟨⟩
instance : TyE 3 OJ := ⟨⟩
instance : TyE 35 PW := ⟨⟩
instance : TyE 4 D.bool := ⟨⟩
instance : TyE 36 (eL D.bool) := ⟨⟩
instance : TyE 27 OK := ⟨⟩
instance : TyE 56 OE := ⟨⟩
instance : TyE 30 (eL OJ) := ⟨⟩
end Go.Proofs.Ytgebpjgohchohaa
