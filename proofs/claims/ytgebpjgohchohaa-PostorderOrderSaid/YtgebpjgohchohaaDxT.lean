/-
  The types of the data; written by a program (dx.py).
-/
import Derived.Test.YtgebpjgohchohaaProg
import Derived.Test.YtgebpjgohchohaaDd
import Derived.KernelRfl
namespace Go.Proofs.Ytgebpjgohchohaa
open Go Go.Dw Go.Proofs
set_option maxRecDepth 100000
set_option maxHeartbeats 40000000
abbrev eI8 (n : Int) : D := .int .i8 n
abbrev Yt (n : Int) : D := .int .i16 n
abbrev Yu (n : Int) : D := .int .i32 n
abbrev OJ (n : Int) : D := .int .i64 n
abbrev eU8 (n : Int) : D := .int .u8 n
abbrev Yv (n : Int) : D := .int .u16 n
abbrev Yw (n : Int) : D := .int .u32 n
abbrev Yx (n : Int) : D := .int .u64 n
structure Mk where
  Op : Int
  A : Int
  B : Int
  C : Int
  Imm : Int
 deriving DecidableEq, Inhabited
def OL (x : Mk) : D := .agg [.int .i64 x.Op, .int .i64 x.A, .int .i64 x.B, .int .i64 x.C, .int .u64 x.Imm]
def Ya (x : Mk) : Prop := (Rg .i64) x.Op /\ (Rg .i64) x.A /\ (Rg .i64) x.B /\ (Rg .i64) x.C /\ (Rg .u64) x.Imm
def Su (d : D) : Mk := ⟨uI (cel d 0), uI (cel d 1), uI (cel d 2), uI (cel d 3), uI (cel d 4)⟩
@[simp] theorem TY (x : Mk) : Su (OL x) = x := by simp [Su, OL, cel, uI]
structure Pb where
  Size : Int
  Align : Int
 deriving DecidableEq, Inhabited
def Pc (x : Pb) : D := .agg [.int .i64 x.Size, .int .i64 x.Align]
def Yd (x : Pb) : Prop := (Rg .i64) x.Size /\ (Rg .i64) x.Align
def SO (d : D) : Pb := ⟨uI (cel d 0), uI (cel d 1)⟩
@[simp] theorem UE (x : Pb) : SO (Pc x) = x := by simp [SO, Pc, cel, uI]
structure OI where
  Params : Int
  Slots : (List Pb)
  Code : (List Mk)
 deriving DecidableEq, Inhabited
def OP (x : OI) : D := .agg [.int .i64 x.Params, .sl (x.Slots.map Pc), .sl (x.Code.map OL)]
def Xr (x : OI) : Prop := (Rg .i64) x.Params /\ (qL Yd) x.Slots /\ (qL Ya) x.Code
def Tl (d : D) : OI := ⟨uI (cel d 0), (uL SO) (cel d 1), (uL Su) (cel d 2)⟩
@[simp] theorem XH (x : OI) : Tl (OP x) = x := by simp [Tl, OP, cel, uI, QY (u := SO) (en := Pc) UE, QY (u := Su) (en := OL) TY]
structure Av where
  k : Int
  rest : (List Int)
 deriving DecidableEq, Inhabited
def OE (x : Av) : D := .agg [.int .i64 x.k, .sl (x.rest.map OJ)]
def Xh (x : Av) : Prop := (Rg .i64) x.k /\ (qL (Rg .i64)) x.rest
def Tf (d : D) : Av := ⟨uI (cel d 0), (uL uI) (cel d 1)⟩
@[simp] theorem WW (x : Av) : Tf (OE x) = x := by simp [Tf, OE, cel, uI, QY (u := uI) (en := OJ) (λ_ => rfl)]
structure Ed where
  list : (List Int)
  at_ : Int
 deriving DecidableEq, Inhabited
def OW (x : Ed) : D := .agg [.sl (x.list.map eU8), .int .i64 x.at_]
def Yb (x : Ed) : Prop := (qL (Rg .u8)) x.list /\ (Rg .i64) x.at_
def Qu (d : D) : Ed := ⟨(uL uI) (cel d 0), uI (cel d 1)⟩
@[simp] theorem XL (x : Ed) : Qu (OW x) = x := by simp [Qu, OW, cel, uI, QY (u := uI) (en := eU8) (λ_ => rfl)]
structure Qv where
  Funcs : (List OI)
 deriving DecidableEq, Inhabited
def Vc (x : Qv) : D := .agg [.sl (x.Funcs.map OP)]
def Yl (x : Qv) : Prop := (qL Xr) x.Funcs
def Wp (d : D) : Qv := ⟨(uL Tl) (cel d 0)⟩
@[simp] theorem Ye (x : Qv) : Wp (Vc x) = x := by simp [Wp, Vc, cel, QY (u := Tl) (en := OP) XH]
structure OK where
  f : OI
  seen : (List Bool)
  left : (List Int)
 deriving DecidableEq, Inhabited
def TZ (x : OK) : D := .agg [.int .i64 x.f.Params, .sl (x.f.Slots.map Pc), .sl (x.f.Code.map OL), .sl (x.seen.map D.bool), .sl (x.left.map OJ)]
def XJ (x : OK) : Prop := Xr x.f /\ (qL Yk) x.seen /\ (qL (Rg .i64)) x.left
def Ub (d : D) : OK := ⟨⟨uI (cel d 0), (uL SO) (cel d 1), (uL Su) (cel d 2)⟩, (uL uBo) (cel d 3), (uL uI) (cel d 4)⟩
@[simp] theorem Xs (x : OK) : Ub (TZ x) = x := by simp [Ub, TZ, cel, uI, QY (u := SO) (en := Pc) UE, QY (u := Su) (en := OL) TY, QY (u := uBo) (en := D.bool) (λ_ => rfl), QY (u := uI) (en := OJ) (λ_ => rfl)]
instance : TyE 5 eU8 := ⟨⟩
instance : TyE 89 Pc := ⟨⟩
instance : TyE 43 OL := ⟨⟩
instance : TyE 3 OJ := ⟨⟩
instance : TyE 4 D.bool := ⟨⟩
instance : TyE 36 (eL D.bool) := ⟨⟩
instance : TyE 27 OP := ⟨⟩
instance : TyE 56 OE := ⟨⟩
instance : TyE 30 (eL OJ) := ⟨⟩
end Go.Proofs.Ytgebpjgohchohaa
