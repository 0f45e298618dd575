/-
  The types of the data; written by a program (dx.py).
-/
import Derived.Test.YtgebpjgohchohaaProg
import Derived.Test.YtgebpjgohchohaaDd
import Derived.KernelRfl
namespace Go.Proofs.Ytgebpjgohchohaa
open Go Go.Dw Go.Proofs
set_option maxRecDepth 100000
set_option maxHeartbeats 40000000
abbrev eI8 (n : Int) : D := .int .i8 n
abbrev ZU (n : Int) : D := .int .i16 n
abbrev ZV (n : Int) : D := .int .i32 n
abbrev OK (n : Int) : D := .int .i64 n
abbrev eU8 (n : Int) : D := .int .u8 n
abbrev ZW (n : Int) : D := .int .u16 n
abbrev ZX (n : Int) : D := .int .u32 n
abbrev ZY (n : Int) : D := .int .u64 n
structure OE where
  Op : Int
  A : Int
  B : Int
  C : Int
  Imm : Int
 deriving DecidableEq, Inhabited
def OY (x : OE) : D := .agg [.int .i64 x.Op, .int .i64 x.A, .int .i64 x.B, .int .i64 x.C, .int .u64 x.Imm]
def Zy (x : OE) : Prop := (Rg .i64) x.Op /\ (Rg .i64) x.A /\ (Rg .i64) x.B /\ (Rg .i64) x.C /\ (Rg .u64) x.Imm
def WW (d : D) : OE := ⟨uI (cel d 0), uI (cel d 1), uI (cel d 2), uI (cel d 3), uI (cel d 4)⟩
@[simp] theorem YN (x : OE) : WW (OY x) = x := by simp [WW, OY, cel, uI]
structure Pj where
  Size : Int
  Align : Int
 deriving DecidableEq, Inhabited
def Rr (x : Pj) : D := .agg [.int .i64 x.Size, .int .i64 x.Align]
def ZF (x : Pj) : Prop := (Rg .i64) x.Size /\ (Rg .i64) x.Align
def Xz (d : D) : Pj := ⟨uI (cel d 0), uI (cel d 1)⟩
@[simp] theorem Ze (x : Pj) : Xz (Rr x) = x := by simp [Xz, Rr, cel, uI]
structure OG where
  Params : Int
  Slots : (List Pj)
  Code : (List OE)
 deriving DecidableEq, Inhabited
def OL (x : OG) : D := .agg [.int .i64 x.Params, .sl (x.Slots.map Rr), .sl (x.Code.map OY)]
def ZE (x : OG) : Prop := (Rg .i64) x.Params /\ (qL ZF) x.Slots /\ (qL Zy) x.Code
def Ux (d : D) : OG := ⟨uI (cel d 0), (uL Xz) (cel d 1), (uL WW) (cel d 2)⟩
@[simp] theorem Zd (x : OG) : Ux (OL x) = x := by simp [Ux, OL, cel, uI, QY (u := Xz) (en := Rr) Ze, QY (u := WW) (en := OY) YN]
structure Ed where
  k : Int
  rest : (List Int)
 deriving DecidableEq, Inhabited
def OI (x : Ed) : D := .agg [.int .i64 x.k, .sl (x.rest.map OK)]
def YI (x : Ed) : Prop := (Rg .i64) x.k /\ (qL (Rg .i64)) x.rest
def Un (d : D) : Ed := ⟨uI (cel d 0), (uL uI) (cel d 1)⟩
@[simp] theorem Yw (x : Ed) : Un (OI x) = x := by simp [Un, OI, cel, uI, QY (u := uI) (en := OK) (λ_ => rfl)]
structure Mk where
  list : (List Int)
  at_ : Int
 deriving DecidableEq, Inhabited
def OZ (x : Mk) : D := .agg [.sl (x.list.map eU8), .int .i64 x.at_]
def ZB (x : Mk) : Prop := (qL (Rg .u8)) x.list /\ (Rg .i64) x.at_
def QG (d : D) : Mk := ⟨(uL uI) (cel d 0), uI (cel d 1)⟩
@[simp] theorem Zh (x : Mk) : QG (OZ x) = x := by simp [QG, OZ, cel, uI, QY (u := uI) (en := eU8) (λ_ => rfl)]
structure QH where
  Funcs : (List OG)
 deriving DecidableEq, Inhabited
def Wu (x : QH) : D := .agg [.sl (x.Funcs.map OL)]
def ZN (x : QH) : Prop := (qL ZE) x.Funcs
def XQ (d : D) : QH := ⟨(uL Ux) (cel d 0)⟩
@[simp] theorem ZG (x : QH) : XQ (Wu x) = x := by simp [XQ, Wu, cel, QY (u := Ux) (en := OL) Zd]
instance : TyE 5 eU8 := ⟨⟩
instance : TyE 89 Rr := ⟨⟩
instance : TyE 43 OY := ⟨⟩
instance : TyE 3 OK := ⟨⟩
instance : TyE 4 D.bool := ⟨⟩
instance : TyE 36 (eL D.bool) := ⟨⟩
instance : TyE 27 OL := ⟨⟩
instance : TyE 56 OI := ⟨⟩
instance : TyE 30 (eL OK) := ⟨⟩
end Go.Proofs.Ytgebpjgohchohaa
