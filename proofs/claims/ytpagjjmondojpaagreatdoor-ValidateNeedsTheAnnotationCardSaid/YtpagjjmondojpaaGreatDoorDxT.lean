/-
  The types of the data; written by a program (dx.py).
-/
import Derived.Test.YtpagjjmondojpaaGreatDoorProg
import Derived.Test.YtpagjjmondojpaaGreatDoorDc
import Derived.KernelRfl
namespace Go.Proofs.YtpagjjmondojpaaGreatDoor
open Go Go.Dw Go.Proofs
set_option maxRecDepth 100000
set_option maxHeartbeats 4000000
abbrev eI8 (n : Int) : D := .int .i8 n
abbrev AmX (n : Int) : D := .int .i16 n
abbrev AmY (n : Int) : D := .int .i32 n
abbrev OB (n : Int) : D := .int .i64 n
abbrev eU8 (n : Int) : D := .int .u8 n
abbrev AmZ (n : Int) : D := .int .u16 n
abbrev Ana (n : Int) : D := .int .u32 n
abbrev XW (n : Int) : D := .int .u64 n
structure OO where
  Size : Int
  Align : Int
deriving DecidableEq, Inhabited
def OK (x : OO) : D := .agg [.int .i64 x.Size, .int .i64 x.Align]
def AmE (x : OO) : Prop := (QP .i64) x.Size ∧ (QP .i64) x.Align
def YI (d : D) : OO := ⟨uI (cel d 0), uI (cel d 1)⟩
@[simp] theorem Aeh (x : OO) : YI (OK x) = x := by simp [YI, OK, cel, uI]
structure OA where
  Op : Int
  A : Int
  B : Int
  C : Int
  Imm : Int
deriving DecidableEq, Inhabited
def OI (x : OA) : D := .agg [.int .i64 x.Op, .int .i64 x.A, .int .i64 x.B, .int .i64 x.C, .int .u64 x.Imm]
def Amw (x : OA) : Prop := (QP .i64) x.Op ∧ (QP .i64) x.A ∧ (QP .i64) x.B ∧ (QP .i64) x.C ∧ (QP .u64) x.Imm
def Acw (d : D) : OA := ⟨uI (cel d 0), uI (cel d 1), uI (cel d 2), uI (cel d 3), uI (cel d 4)⟩
@[simp] theorem Alu (x : OA) : Acw (OI x) = x := by simp [Acw, OI, cel, uI]
structure Oy where
  Params : Int
  Slots : (List OO)
  Code : (List OA)
deriving DecidableEq, Inhabited
def PH (x : Oy) : D := .agg [.int .i64 x.Params, .sl (x.Slots.map OK), .sl (x.Code.map OI)]
def AmD (x : Oy) : Prop := (QP .i64) x.Params ∧ (qL AmE) x.Slots ∧ (qL Amw) x.Code
def RU (d : D) : Oy := ⟨uI (cel d 0), (uL YI) (cel d 1), (uL Acw) (cel d 2)⟩
@[simp] theorem Amb (x : Oy) : RU (PH x) = x := by simp [RU, PH, cel, uI, PD (u := YI) (en := OK) Aeh, PD (u := Acw) (en := OI) Alu]
structure OG where
  Out : (List (List Int))
deriving DecidableEq, Inhabited
def Qe (x : OG) : D := .agg [.sl (x.Out.map (eL OB))]
def Alz (x : OG) : Prop := (qL (qL (QP .i64))) x.Out
def VA (d : D) : OG := ⟨(uL (uL uI)) (cel d 0)⟩
@[simp] theorem AmS (x : OG) : VA (Qe x) = x := by simp [VA, Qe, cel, PD (u := (uL uI)) (en := (eL OB)) (PD (u := uI) (en := OB) (fun _ => rfl))]
structure OJ where
  To : (List Int)
  Keep : (List Bool)
deriving DecidableEq, Inhabited
def TP (x : OJ) : D := .agg [.sl (x.To.map OB), .sl (x.Keep.map D.bool)]
def AlS (x : OJ) : Prop := (qL (QP .i64)) x.To ∧ (qL AmO) x.Keep
def Aag (d : D) : OJ := ⟨(uL uI) (cel d 0), (uL uBo) (cel d 1)⟩
@[simp] theorem AmK (x : OJ) : Aag (TP x) = x := by simp [Aag, TP, cel, PD (u := uI) (en := OB) (fun _ => rfl), PD (u := uBo) (en := D.bool) (fun _ => rfl)]
structure Oz where
  a0 : Int
  a1 : Int
  a2 : Int
  a3 : Int
  a4 : Int
  a5 : Int
  a6 : Int
  a7 : Int
deriving DecidableEq, Inhabited
def Oz.toList (x : Oz) : List Int := [x.a0, x.a1, x.a2, x.a3, x.a4, x.a5, x.a6, x.a7]
def Oz.set (x : Oz) (j : Nat) (v : Int) : Oz := ⟨(x.toList.set j v).getD 0 x.a0, (x.toList.set j v).getD 1 x.a1, (x.toList.set j v).getD 2 x.a2, (x.toList.set j v).getD 3 x.a3, (x.toList.set j v).getD 4 x.a4, (x.toList.set j v).getD 5 x.a5, (x.toList.set j v).getD 6 x.a6, (x.toList.set j v).getD 7 x.a7⟩
theorem QJ (x : Oz) (j : Nat) (v : Int) : (x.set j v).toList = x.toList.set j v := by
  match j with
  | 0 => rfl
  | 1 => rfl
  | 2 => rfl
  | 3 => rfl
  | 4 => rfl
  | 5 => rfl
  | 6 => rfl
  | 7 => rfl
  | _ + 8 => rfl
def Pd (x : Oz) : D := .agg [.int .u64 x.a0, .int .u64 x.a1, .int .u64 x.a2, .int .u64 x.a3, .int .u64 x.a4, .int .u64 x.a5, .int .u64 x.a6, .int .u64 x.a7]
def Alo (x : Oz) : Prop := (QP .u64) x.a0 ∧ (QP .u64) x.a1 ∧ (QP .u64) x.a2 ∧ (QP .u64) x.a3 ∧ (QP .u64) x.a4 ∧ (QP .u64) x.a5 ∧ (QP .u64) x.a6 ∧ (QP .u64) x.a7
def QF (d : D) : Oz := ⟨uI (cel d 0), uI (cel d 1), uI (cel d 2), uI (cel d 3), uI (cel d 4), uI (cel d 5), uI (cel d 6), uI (cel d 7)⟩
@[simp] theorem AkO (x : Oz) : QF (Pd x) = x := by simp [QF, Pd, cel, uI]
structure OV where
  Funcs : (List Oy)
deriving DecidableEq, Inhabited
def RZ (x : OV) : D := .agg [.sl (x.Funcs.map PH)]
def AmP (x : OV) : Prop := (qL AmD) x.Funcs
def YM (d : D) : OV := ⟨(uL RU) (cel d 0)⟩
@[simp] theorem AmF (x : OV) : YM (RZ x) = x := by simp [YM, RZ, cel, PD (u := RU) (en := PH) Amb]
structure Mk where
  list : (List Int)
  at_ : Int
deriving DecidableEq, Inhabited
def Pa (x : Mk) : D := .agg [.sl (x.list.map eU8), .int .i64 x.at_]
def Amz (x : Mk) : Prop := (qL (QP .u8)) x.list ∧ (QP .i64) x.at_
def RB (d : D) : Mk := ⟨(uL uI) (cel d 0), uI (cel d 1)⟩
@[simp] theorem Amg (x : Mk) : RB (Pa x) = x := by simp [RB, Pa, cel, uI, PD (u := uI) (en := eU8) (fun _ => rfl)]
structure Qu where
  Args : Int
  Size : Int
  Off : (List Int)
deriving DecidableEq, Inhabited
def YV (x : Qu) : D := .agg [.int .i64 x.Args, .int .i64 x.Size, .sl (x.Off.map OB)]
def AlR (x : Qu) : Prop := (QP .i64) x.Args ∧ (QP .i64) x.Size ∧ (qL (QP .i64)) x.Off
def AjN (d : D) : Qu := ⟨uI (cel d 0), uI (cel d 1), (uL uI) (cel d 2)⟩
@[simp] theorem AmJ (x : Qu) : AjN (YV x) = x := by simp [AjN, YV, cel, uI, PD (u := uI) (en := OB) (fun _ => rfl)]
structure Sx where
  Live : OG
  Rename : OJ
  LiveAfter : OG
  Layout : Qu
deriving DecidableEq, Inhabited
def Aan (x : Sx) : D := .agg [.sl (x.Live.Out.map (eL OB)), .sl (x.Rename.To.map OB), .sl (x.Rename.Keep.map D.bool), .sl (x.LiveAfter.Out.map (eL OB)), .int .i64 x.Layout.Args, .int .i64 x.Layout.Size, .sl (x.Layout.Off.map OB)]
def AmH (x : Sx) : Prop := Alz x.Live ∧ AlS x.Rename ∧ Alz x.LiveAfter ∧ AlR x.Layout
def Aho (d : D) : Sx := ⟨⟨(uL (uL uI)) (cel d 0)⟩, ⟨(uL uI) (cel d 1), (uL uBo) (cel d 2)⟩, ⟨(uL (uL uI)) (cel d 3)⟩, ⟨uI (cel d 4), uI (cel d 5), (uL uI) (cel d 6)⟩⟩
@[simp] theorem AmA (x : Sx) : Aho (Aan x) = x := by simp [Aho, Aan, cel, uI, PD (u := (uL uI)) (en := (eL OB)) (PD (u := uI) (en := OB) (fun _ => rfl)), PD (u := uI) (en := OB) (fun _ => rfl), PD (u := uBo) (en := D.bool) (fun _ => rfl)]
structure Pq where
  a0 : Int
  a1 : Int
deriving DecidableEq, Inhabited
def SN (x : Pq) : D := .agg [.int .i64 x.a0, .int .i64 x.a1]
def AmR (x : Pq) : Prop := (QP .i64) x.a0 ∧ (QP .i64) x.a1
def AjM (d : D) : Pq := ⟨uI (cel d 0), uI (cel d 1)⟩
@[simp] theorem AmI (x : Pq) : AjM (SN x) = x := by simp [AjM, SN, cel, uI]
structure OQ where
  Off : Int
  Size : Int
deriving DecidableEq, Inhabited
def PO (x : OQ) : D := .agg [.int .i64 x.Off, .int .i64 x.Size]
def AmG (x : OQ) : Prop := (QP .i64) x.Off ∧ (QP .i64) x.Size
def Tp (d : D) : OQ := ⟨uI (cel d 0), uI (cel d 1)⟩
@[simp] theorem AeS (x : OQ) : Tp (PO x) = x := by simp [Tp, PO, cel, uI]
instance : TyE 5 eU8 := ⟨⟩
instance : TyE 40 PH := ⟨⟩
instance : TyE 30 (eL OB) := ⟨⟩
instance : TyE 3 OB := ⟨⟩
instance : TyE 4 D.bool := ⟨⟩
instance : TyE 67 OK := ⟨⟩
instance : TyE 69 OI := ⟨⟩
instance : TyE 29 Qe := ⟨⟩
instance : TyE 33 TP := ⟨⟩
instance : TyE 55 XW := ⟨⟩
instance : TyE 149 SN := ⟨⟩
instance : TyE 157 PO := ⟨⟩
end Go.Proofs.YtpagjjmondojpaaGreatDoor
