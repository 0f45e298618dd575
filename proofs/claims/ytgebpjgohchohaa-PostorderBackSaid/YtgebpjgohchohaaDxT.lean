/-
  The types of the data; written by a program (dx.py).
-/
import Derived.Test.YtgebpjgohchohaaProg
import Derived.Test.YtgebpjgohchohaaDd
import Derived.KernelRfl
namespace Go.Proofs.Ytgebpjgohchohaa
open Go Go.Dw Go.Proofs
set_option maxRecDepth 100000
set_option maxHeartbeats 40000000
abbrev eI8 (n : Int) : D := .int .i8 n
abbrev YP (n : Int) : D := .int .i16 n
abbrev YQ (n : Int) : D := .int .i32 n
abbrev OJ (n : Int) : D := .int .i64 n
abbrev eU8 (n : Int) : D := .int .u8 n
abbrev YR (n : Int) : D := .int .u16 n
abbrev YS (n : Int) : D := .int .u32 n
abbrev YT (n : Int) : D := .int .u64 n
structure Mk where
  Op : Int
  A : Int
  B : Int
  C : Int
  Imm : Int
 deriving DecidableEq, Inhabited
def OP (x : Mk) : D := .agg [.int .i64 x.Op, .int .i64 x.A, .int .i64 x.B, .int .i64 x.C, .int .u64 x.Imm]
def Yu (x : Mk) : Prop := (Rg .i64) x.Op /\ (Rg .i64) x.A /\ (Rg .i64) x.B /\ (Rg .i64) x.C /\ (Rg .u64) x.Imm
def SL (d : D) : Mk := ⟨uI (cel d 0), uI (cel d 1), uI (cel d 2), uI (cel d 3), uI (cel d 4)⟩
@[simp] theorem Us (x : Mk) : SL (OP x) = x := by simp [SL, OP, cel, uI]
structure Pd where
  Size : Int
  Align : Int
 deriving DecidableEq, Inhabited
def Pg (x : Pd) : D := .agg [.int .i64 x.Size, .int .i64 x.Align]
def Yx (x : Pd) : Prop := (Rg .i64) x.Size /\ (Rg .i64) x.Align
def Th (d : D) : Pd := ⟨uI (cel d 0), uI (cel d 1)⟩
@[simp] theorem UW (x : Pd) : Th (Pg x) = x := by simp [Th, Pg, cel, uI]
structure OI where
  Params : Int
  Slots : (List Pd)
  Code : (List Mk)
 deriving DecidableEq, Inhabited
def OQ (x : OI) : D := .agg [.int .i64 x.Params, .sl (x.Slots.map Pg), .sl (x.Code.map OP)]
def XP (x : OI) : Prop := (Rg .i64) x.Params /\ (qL Yx) x.Slots /\ (qL Yu) x.Code
def TG (d : D) : OI := ⟨uI (cel d 0), (uL Th) (cel d 1), (uL SL) (cel d 2)⟩
@[simp] theorem Yb (x : OI) : TG (OQ x) = x := by simp [TG, OQ, cel, uI, QY (u := Th) (en := Pg) UW, QY (u := SL) (en := OP) Us]
structure Av where
  k : Int
  rest : (List Int)
 deriving DecidableEq, Inhabited
def OE (x : Av) : D := .agg [.int .i64 x.k, .sl (x.rest.map OJ)]
def XE (x : Av) : Prop := (Rg .i64) x.k /\ (qL (Rg .i64)) x.rest
def Ty (d : D) : Av := ⟨uI (cel d 0), (uL uI) (cel d 1)⟩
@[simp] theorem Xt (x : Av) : Ty (OE x) = x := by simp [Ty, OE, cel, uI, QY (u := uI) (en := OJ) (λ_ => rfl)]
structure Ed where
  list : (List Int)
  at_ : Int
 deriving DecidableEq, Inhabited
def OY (x : Ed) : D := .agg [.sl (x.list.map eU8), .int .i64 x.at_]
def Yv (x : Ed) : Prop := (qL (Rg .u8)) x.list /\ (Rg .i64) x.at_
def QD (d : D) : Ed := ⟨(uL uI) (cel d 0), uI (cel d 1)⟩
@[simp] theorem Ye (x : Ed) : QD (OY x) = x := by simp [QD, OY, cel, uI, QY (u := uI) (en := eU8) (λ_ => rfl)]
structure QE where
  Funcs : (List OI)
 deriving DecidableEq, Inhabited
def VD (x : QE) : D := .agg [.sl (x.Funcs.map OQ)]
def YG (x : QE) : Prop := (qL XP) x.Funcs
def WT (d : D) : QE := ⟨(uL TG) (cel d 0)⟩
@[simp] theorem Yz (x : QE) : WT (VD x) = x := by simp [WT, VD, cel, QY (u := TG) (en := OQ) Yb]
structure OK where
  a0 : Int
  a1 : Int
 deriving DecidableEq, Inhabited
def Qa (x : OK) : D := .agg [.int .i64 x.a0, .int .i64 x.a1]
def YJ (x : OK) : Prop := (Rg .i64) x.a0 /\ (Rg .i64) x.a1
def Xh (d : D) : OK := ⟨uI (cel d 0), uI (cel d 1)⟩
@[simp] theorem YA (x : OK) : Xh (Qa x) = x := by simp [Xh, Qa, cel, uI]
structure OL where
  f : OI
  seen : (List Bool)
  left : (List Int)
 deriving DecidableEq, Inhabited
def Ut (x : OL) : D := .agg [.int .i64 x.f.Params, .sl (x.f.Slots.map Pg), .sl (x.f.Code.map OP), .sl (x.seen.map D.bool), .sl (x.left.map OJ)]
def Yc (x : OL) : Prop := XP x.f /\ (qL Yk) x.seen /\ (qL (Rg .i64)) x.left
def Ux (d : D) : OL := ⟨⟨uI (cel d 0), (uL Th) (cel d 1), (uL SL) (cel d 2)⟩, (uL uBo) (cel d 3), (uL uI) (cel d 4)⟩
@[simp] theorem XQ (x : OL) : Ux (Ut x) = x := by simp [Ux, Ut, cel, uI, QY (u := Th) (en := Pg) UW, QY (u := SL) (en := OP) Us, QY (u := uBo) (en := D.bool) (λ_ => rfl), QY (u := uI) (en := OJ) (λ_ => rfl)]
instance : TyE 5 eU8 := ⟨⟩
instance : TyE 89 Pg := ⟨⟩
instance : TyE 43 OP := ⟨⟩
instance : TyE 3 OJ := ⟨⟩
instance : TyE 35 Qa := ⟨⟩
instance : TyE 4 D.bool := ⟨⟩
instance : TyE 36 (eL D.bool) := ⟨⟩
instance : TyE 27 OQ := ⟨⟩
instance : TyE 56 OE := ⟨⟩
instance : TyE 30 (eL OJ) := ⟨⟩
end Go.Proofs.Ytgebpjgohchohaa
