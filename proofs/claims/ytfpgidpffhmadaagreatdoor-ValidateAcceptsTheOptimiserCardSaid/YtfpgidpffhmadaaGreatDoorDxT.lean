/-
  The types of the data; written by a program (dx.py).
-/
import Derived.Test.YtfpgidpffhmadaaGreatDoorProg
import Derived.Test.YtfpgidpffhmadaaGreatDoorDc
import Derived.KernelRfl
namespace Go.Proofs.YtfpgidpffhmadaaGreatDoor
open Go Go.Dw Go.Proofs
set_option maxRecDepth 100000
abbrev eI8 (n : Int) : D := .int .i8 n
abbrev Amx (n : Int) : D := .int .i16 n
abbrev Amy (n : Int) : D := .int .i32 n
abbrev LS (n : Int) : D := .int .i64 n
abbrev eU8 (n : Int) : D := .int .u8 n
abbrev Amz (n : Int) : D := .int .u16 n
abbrev AmA (n : Int) : D := .int .u32 n
abbrev VB (n : Int) : D := .int .u64 n
structure Mt where
  Size : Int
  Align : Int
deriving DecidableEq, Inhabited
def LZ (x : Mt) : D := .agg [.int .i64 x.Size, .int .i64 x.Align]
def Amf (x : Mt) : Prop := (Pl .i64) x.Size ∧ (Pl .i64) x.Align
def AeL (d : D) : Mt := ⟨uI (cel d 0), uI (cel d 1)⟩
@[simp] theorem AiP (x : Mt) : AeL (LZ x) = x := by simp [AeL, LZ, cel, uI]
structure LU where
  Op : Int
  A : Int
  B : Int
  C : Int
  Imm : Int
deriving DecidableEq, Inhabited
def LW (x : LU) : D := .agg [.int .i64 x.Op, .int .i64 x.A, .int .i64 x.B, .int .i64 x.C, .int .u64 x.Imm]
def AlL (x : LU) : Prop := (Pl .i64) x.Op ∧ (Pl .i64) x.A ∧ (Pl .i64) x.B ∧ (Pl .i64) x.C ∧ (Pl .u64) x.Imm
def SS (d : D) : LU := ⟨uI (cel d 0), uI (cel d 1), uI (cel d 2), uI (cel d 3), uI (cel d 4)⟩
@[simp] theorem Aio (x : LU) : SS (LW x) = x := by simp [SS, LW, cel, uI]
structure LY where
  Params : Int
  Slots : (List Mt)
  Code : (List LU)
deriving DecidableEq, Inhabited
def ME (x : LY) : D := .agg [.int .i64 x.Params, .sl (x.Slots.map LZ), .sl (x.Code.map LW)]
def Ame (x : LY) : Prop := (Pl .i64) x.Params ∧ (qL Amf) x.Slots ∧ (qL AlL) x.Code
def Ny (d : D) : LY := ⟨uI (cel d 0), (uL AeL) (cel d 1), (uL SS) (cel d 2)⟩
@[simp] theorem AiO (x : LY) : Ny (ME x) = x := by simp [Ny, ME, cel, uI, Nt (u := AeL) (en := LZ) AiP, Nt (u := SS) (en := LW) Aio]
structure Mf where
  Out : (List (List Int))
deriving DecidableEq, Inhabited
def Nf (x : Mf) : D := .agg [.sl (x.Out.map (eL LS))]
def Amw (x : Mf) : Prop := (qL (qL (Pl .i64))) x.Out
def OL (d : D) : Mf := ⟨(uL (uL uI)) (cel d 0)⟩
@[simp] theorem Amr (x : Mf) : OL (Nf x) = x := by simp [OL, Nf, cel, Nt (u := (uL uI)) (en := (eL LS)) (Nt (u := uI) (en := LS) (fun _ => rfl))]
structure ML where
  To : (List Int)
  Keep : (List Bool)
deriving DecidableEq, Inhabited
def Um (x : ML) : D := .agg [.sl (x.To.map LS), .sl (x.Keep.map D.bool)]
def Amq (x : ML) : Prop := (qL (Pl .i64)) x.To ∧ (qL KQ) x.Keep
def Zo (d : D) : ML := ⟨(uL uI) (cel d 0), (uL uBo) (cel d 1)⟩
@[simp] theorem Ami (x : ML) : Zo (Um x) = x := by simp [Zo, Um, cel, Nt (u := uI) (en := LS) (fun _ => rfl), Nt (u := uBo) (en := D.bool) (fun _ => rfl)]
structure LX where
  a0 : Int
  a1 : Int
  a2 : Int
  a3 : Int
  a4 : Int
  a5 : Int
  a6 : Int
  a7 : Int
deriving DecidableEq, Inhabited
def LX.toList (x : LX) : List Int := [x.a0, x.a1, x.a2, x.a3, x.a4, x.a5, x.a6, x.a7]
def LX.set (x : LX) (j : Nat) (v : Int) : LX := ⟨(x.toList.set j v).getD 0 x.a0, (x.toList.set j v).getD 1 x.a1, (x.toList.set j v).getD 2 x.a2, (x.toList.set j v).getD 3 x.a3, (x.toList.set j v).getD 4 x.a4, (x.toList.set j v).getD 5 x.a5, (x.toList.set j v).getD 6 x.a6, (x.toList.set j v).getD 7 x.a7⟩
theorem Oe (x : LX) (j : Nat) (v : Int) : (x.set j v).toList = x.toList.set j v := by
  match j with
  | 0 => rfl
  | 1 => rfl
  | 2 => rfl
  | 3 => rfl
  | 4 => rfl
  | 5 => rfl
  | 6 => rfl
  | 7 => rfl
  | _ + 8 => rfl
def MG (x : LX) : D := .agg [.int .u64 x.a0, .int .u64 x.a1, .int .u64 x.a2, .int .u64 x.a3, .int .u64 x.a4, .int .u64 x.a5, .int .u64 x.a6, .int .u64 x.a7]
def Aii (x : LX) : Prop := (Pl .u64) x.a0 ∧ (Pl .u64) x.a1 ∧ (Pl .u64) x.a2 ∧ (Pl .u64) x.a3 ∧ (Pl .u64) x.a4 ∧ (Pl .u64) x.a5 ∧ (Pl .u64) x.a6 ∧ (Pl .u64) x.a7
def Oa (d : D) : LX := ⟨uI (cel d 0), uI (cel d 1), uI (cel d 2), uI (cel d 3), uI (cel d 4), uI (cel d 5), uI (cel d 6), uI (cel d 7)⟩
@[simp] theorem Agy (x : LX) : Oa (MG x) = x := by simp [Oa, MG, cel, uI]
structure LV where
  list : (List Int)
  at_ : Int
deriving DecidableEq, Inhabited
def MK (x : LV) : D := .agg [.sl (x.list.map eU8), .int .i64 x.at_]
def AlN (x : LV) : Prop := (qL (Pl .u8)) x.list ∧ (Pl .i64) x.at_
def Oc (d : D) : LV := ⟨(uL uI) (cel d 0), uI (cel d 1)⟩
@[simp] theorem AiT (x : LV) : Oc (MK x) = x := by simp [Oc, MK, cel, uI, Nt (u := uI) (en := eU8) (fun _ => rfl)]
structure PZ where
  Funcs : (List LY)
deriving DecidableEq, Inhabited
def Adz (x : PZ) : D := .agg [.sl (x.Funcs.map ME)]
def Amn (x : PZ) : Prop := (qL Ame) x.Funcs
def Afv (d : D) : PZ := ⟨(uL Ny) (cel d 0)⟩
@[simp] theorem Amg (x : PZ) : Afv (Adz x) = x := by simp [Afv, Adz, cel, Nt (u := Ny) (en := ME) AiO]
structure MH where
  a0 : Int
  a1 : Int
deriving DecidableEq, Inhabited
def Nk (x : MH) : D := .agg [.int .i64 x.a0, .int .i64 x.a1]
def Amp (x : MH) : Prop := (Pl .i64) x.a0 ∧ (Pl .i64) x.a1
def AfN (d : D) : MH := ⟨uI (cel d 0), uI (cel d 1)⟩
@[simp] theorem Amh (x : MH) : AfN (Nk x) = x := by simp [AfN, Nk, cel, uI]
end Go.Proofs.YtfpgidpffhmadaaGreatDoor
