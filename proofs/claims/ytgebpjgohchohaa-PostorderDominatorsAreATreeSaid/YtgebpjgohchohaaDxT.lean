/-
  The types of the data; written by a program (dx.py).
-/
import Derived.Test.YtgebpjgohchohaaProg
import Derived.Test.YtgebpjgohchohaaDd
import Derived.KernelRfl
namespace Go.Proofs.Ytgebpjgohchohaa
open Go Go.Dw Go.Proofs
set_option maxRecDepth 100000
set_option maxHeartbeats 40000000
abbrev eI8 (n : Int) : D := .int .i8 n
abbrev ZH (n : Int) : D := .int .i16 n
abbrev ZI (n : Int) : D := .int .i32 n
abbrev OK (n : Int) : D := .int .i64 n
abbrev eU8 (n : Int) : D := .int .u8 n
abbrev ZJ (n : Int) : D := .int .u16 n
abbrev ZK (n : Int) : D := .int .u32 n
abbrev ZL (n : Int) : D := .int .u64 n
structure OE where
  Op : Int
  A : Int
  B : Int
  C : Int
  Imm : Int
 deriving DecidableEq, Inhabited
def Pa (x : OE) : D := .agg [.int .i64 x.Op, .int .i64 x.A, .int .i64 x.B, .int .i64 x.C, .int .u64 x.Imm]
def Zl (x : OE) : Prop := (Rg .i64) x.Op /\ (Rg .i64) x.A /\ (Rg .i64) x.B /\ (Rg .i64) x.C /\ (Rg .u64) x.Imm
def WH (d : D) : OE := ⟨uI (cel d 0), uI (cel d 1), uI (cel d 2), uI (cel d 3), uI (cel d 4)⟩
@[simp] theorem YA (x : OE) : WH (Pa x) = x := by simp [WH, Pa, cel, uI]
structure Pp where
  Size : Int
  Align : Int
 deriving DecidableEq, Inhabited
def Rs (x : Pp) : D := .agg [.int .i64 x.Size, .int .i64 x.Align]
def Zr (x : Pp) : Prop := (Rg .i64) x.Size /\ (Rg .i64) x.Align
def Xk (d : D) : Pp := ⟨uI (cel d 0), uI (cel d 1)⟩
@[simp] theorem YR (x : Pp) : Xk (Rs x) = x := by simp [Xk, Rs, cel, uI]
structure OG where
  Params : Int
  Slots : (List Pp)
  Code : (List OE)
 deriving DecidableEq, Inhabited
def OL (x : OG) : D := .agg [.int .i64 x.Params, .sl (x.Slots.map Rs), .sl (x.Code.map Pa)]
def Zq (x : OG) : Prop := (Rg .i64) x.Params /\ (qL Zr) x.Slots /\ (qL Zl) x.Code
def Un (d : D) : OG := ⟨uI (cel d 0), (uL Xk) (cel d 1), (uL WH) (cel d 2)⟩
@[simp] theorem YQ (x : OG) : Un (OL x) = x := by simp [Un, OL, cel, uI, QY (u := Xk) (en := Rs) YR, QY (u := WH) (en := Pa) YA]
structure Ed where
  k : Int
  rest : (List Int)
 deriving DecidableEq, Inhabited
def OI (x : Ed) : D := .agg [.int .i64 x.k, .sl (x.rest.map OK)]
def Yv (x : Ed) : Prop := (Rg .i64) x.k /\ (qL (Rg .i64)) x.rest
def Uh (d : D) : Ed := ⟨uI (cel d 0), (uL uI) (cel d 1)⟩
@[simp] theorem Yj (x : Ed) : Uh (OI x) = x := by simp [Uh, OI, cel, uI, QY (u := uI) (en := OK) (λ_ => rfl)]
structure Mk where
  list : (List Int)
  at_ : Int
 deriving DecidableEq, Inhabited
def Pb (x : Mk) : D := .agg [.sl (x.list.map eU8), .int .i64 x.at_]
def Zn (x : Mk) : Prop := (qL (Rg .u8)) x.list /\ (Rg .i64) x.at_
def QK (d : D) : Mk := ⟨(uL uI) (cel d 0), uI (cel d 1)⟩
@[simp] theorem YU (x : Mk) : QK (Pb x) = x := by simp [QK, Pb, cel, uI, QY (u := uI) (en := eU8) (λ_ => rfl)]
structure QM where
  Funcs : (List OG)
 deriving DecidableEq, Inhabited
def Wg (x : QM) : D := .agg [.sl (x.Funcs.map OL)]
def ZA (x : QM) : Prop := (qL Zq) x.Funcs
def XC (d : D) : QM := ⟨(uL Un) (cel d 0)⟩
@[simp] theorem Zt (x : QM) : XC (Wg x) = x := by simp [XC, Wg, cel, QY (u := Un) (en := OL) YQ]
instance : TyE 5 eU8 := ⟨⟩
instance : TyE 89 Rs := ⟨⟩
instance : TyE 43 Pa := ⟨⟩
instance : TyE 3 OK := ⟨⟩
instance : TyE 4 D.bool := ⟨⟩
instance : TyE 36 (eL D.bool) := ⟨⟩
instance : TyE 27 OL := ⟨⟩
instance : TyE 56 OI := ⟨⟩
instance : TyE 30 (eL OK) := ⟨⟩
end Go.Proofs.Ytgebpjgohchohaa
