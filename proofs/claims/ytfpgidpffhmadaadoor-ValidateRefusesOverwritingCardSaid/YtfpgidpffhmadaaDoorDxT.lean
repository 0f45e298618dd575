/-
  The types of the data; written by a program (dx.py).
-/
import Derived.Test.YtfpgidpffhmadaaDoorProg
import Derived.Test.YtfpgidpffhmadaaDoorDc
import Derived.KernelRfl
namespace Go.Proofs.YtfpgidpffhmadaaDoor
open Go Go.Dw Go.Proofs
set_option maxRecDepth 100000
abbrev eI8 (n : Int) : D := .int .i8 n
abbrev AkH (n : Int) : D := .int .i16 n
abbrev AkI (n : Int) : D := .int .i32 n
abbrev LR (n : Int) : D := .int .i64 n
abbrev eU8 (n : Int) : D := .int .u8 n
abbrev AkJ (n : Int) : D := .int .u16 n
abbrev AkK (n : Int) : D := .int .u32 n
abbrev UQ (n : Int) : D := .int .u64 n
structure Mq where
  Size : Int
  Align : Int
deriving DecidableEq, Inhabited
def LY (x : Mq) : D := .agg [.int .i64 x.Size, .int .i64 x.Align]
def Akr (x : Mq) : Prop := (Pk .i64) x.Size ∧ (Pk .i64) x.Align
def Adx (d : D) : Mq := ⟨uI (cel d 0), uI (cel d 1)⟩
@[simp] theorem Ahq (x : Mq) : Adx (LY x) = x := by simp [Adx, LY, cel, uI]
structure LS where
  Op : Int
  A : Int
  B : Int
  C : Int
  Imm : Int
deriving DecidableEq, Inhabited
def LV (x : LS) : D := .agg [.int .i64 x.Op, .int .i64 x.A, .int .i64 x.B, .int .i64 x.C, .int .u64 x.Imm]
def AjZ (x : LS) : Prop := (Pk .i64) x.Op ∧ (Pk .i64) x.A ∧ (Pk .i64) x.B ∧ (Pk .i64) x.C ∧ (Pk .u64) x.Imm
def Sv (d : D) : LS := ⟨uI (cel d 0), uI (cel d 1), uI (cel d 2), uI (cel d 3), uI (cel d 4)⟩
@[simp] theorem AgQ (x : LS) : Sv (LV x) = x := by simp [Sv, LV, cel, uI]
structure LX where
  Params : Int
  Slots : (List Mq)
  Code : (List LS)
deriving DecidableEq, Inhabited
def MF (x : LX) : D := .agg [.int .i64 x.Params, .sl (x.Slots.map LY), .sl (x.Code.map LV)]
def Akq (x : LX) : Prop := (Pk .i64) x.Params ∧ (qL Akr) x.Slots ∧ (qL AjZ) x.Code
def NJ (d : D) : LX := ⟨uI (cel d 0), (uL Adx) (cel d 1), (uL Sv) (cel d 2)⟩
@[simp] theorem Ahp (x : LX) : NJ (MF x) = x := by simp [NJ, MF, cel, uI, NF (u := Adx) (en := LY) Ahq, NF (u := Sv) (en := LV) AgQ]
structure Me where
  Out : (List (List Int))
deriving DecidableEq, Inhabited
def Nl (x : Me) : D := .agg [.sl (x.Out.map (eL LR))]
def AkG (x : Me) : Prop := (qL (qL (Pk .i64))) x.Out
def Pb (d : D) : Me := ⟨(uL (uL uI)) (cel d 0)⟩
@[simp] theorem AkB (x : Me) : Pb (Nl x) = x := by simp [Pb, Nl, cel, NF (u := (uL uI)) (en := (eL LR)) (NF (u := uI) (en := LR) (fun _ => rfl))]
structure MD where
  To : (List Int)
  Keep : (List Bool)
deriving DecidableEq, Inhabited
def Sw (x : MD) : D := .agg [.sl (x.To.map LR), .sl (x.Keep.map D.bool)]
def AkA (x : MD) : Prop := (qL (Pk .i64)) x.To ∧ (qL KQ) x.Keep
def Yw (d : D) : MD := ⟨(uL uI) (cel d 0), (uL uBo) (cel d 1)⟩
@[simp] theorem Akt (x : MD) : Yw (Sw x) = x := by simp [Yw, Sw, cel, NF (u := uI) (en := LR) (fun _ => rfl), NF (u := uBo) (en := D.bool) (fun _ => rfl)]
structure LW where
  a0 : Int
  a1 : Int
  a2 : Int
  a3 : Int
  a4 : Int
  a5 : Int
  a6 : Int
  a7 : Int
deriving DecidableEq, Inhabited
def LW.toList (x : LW) : List Int := [x.a0, x.a1, x.a2, x.a3, x.a4, x.a5, x.a6, x.a7]
def LW.set (x : LW) (j : Nat) (v : Int) : LW := ⟨(x.toList.set j v).getD 0 x.a0, (x.toList.set j v).getD 1 x.a1, (x.toList.set j v).getD 2 x.a2, (x.toList.set j v).getD 3 x.a3, (x.toList.set j v).getD 4 x.a4, (x.toList.set j v).getD 5 x.a5, (x.toList.set j v).getD 6 x.a6, (x.toList.set j v).getD 7 x.a7⟩
theorem Ob (x : LW) (j : Nat) (v : Int) : (x.set j v).toList = x.toList.set j v := by
  match j with
  | 0 => rfl
  | 1 => rfl
  | 2 => rfl
  | 3 => rfl
  | 4 => rfl
  | 5 => rfl
  | 6 => rfl
  | 7 => rfl
  | _ + 8 => rfl
def MC (x : LW) : D := .agg [.int .u64 x.a0, .int .u64 x.a1, .int .u64 x.a2, .int .u64 x.a3, .int .u64 x.a4, .int .u64 x.a5, .int .u64 x.a6, .int .u64 x.a7]
def AgK (x : LW) : Prop := (Pk .u64) x.a0 ∧ (Pk .u64) x.a1 ∧ (Pk .u64) x.a2 ∧ (Pk .u64) x.a3 ∧ (Pk .u64) x.a4 ∧ (Pk .u64) x.a5 ∧ (Pk .u64) x.a6 ∧ (Pk .u64) x.a7
def NW (d : D) : LW := ⟨uI (cel d 0), uI (cel d 1), uI (cel d 2), uI (cel d 3), uI (cel d 4), uI (cel d 5), uI (cel d 6), uI (cel d 7)⟩
@[simp] theorem Afh (x : LW) : NW (MC x) = x := by simp [NW, MC, cel, uI]
structure LU where
  list : (List Int)
  at_ : Int
deriving DecidableEq, Inhabited
def MI (x : LU) : D := .agg [.sl (x.list.map eU8), .int .i64 x.at_]
def Akb (x : LU) : Prop := (qL (Pk .u8)) x.list ∧ (Pk .i64) x.at_
def NZ (d : D) : LU := ⟨(uL uI) (cel d 0), uI (cel d 1)⟩
@[simp] theorem Ahu (x : LU) : NZ (MI x) = x := by simp [NZ, MI, cel, uI, NF (u := uI) (en := eU8) (fun _ => rfl)]
structure PO where
  Funcs : (List LX)
deriving DecidableEq, Inhabited
def Aco (x : PO) : D := .agg [.sl (x.Funcs.map MF)]
def Aky (x : PO) : Prop := (qL Akq) x.Funcs
def Aej (d : D) : PO := ⟨(uL NJ) (cel d 0)⟩
@[simp] theorem Aks (x : PO) : Aej (Aco x) = x := by simp [Aej, Aco, cel, NF (u := NJ) (en := MF) Ahp]
end Go.Proofs.YtfpgidpffhmadaaDoor
