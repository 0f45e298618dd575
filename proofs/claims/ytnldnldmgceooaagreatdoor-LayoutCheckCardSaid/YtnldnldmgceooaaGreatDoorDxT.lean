/-
  The types of the data; written by a program (dx.py).
-/
import Derived.Test.YtnldnldmgceooaaGreatDoorProg
import Derived.Test.YtnldnldmgceooaaGreatDoorDd
import Derived.KernelRfl
namespace Go.Proofs.YtnldnldmgceooaaGreatDoor
open Go Go.Dw Go.Proofs
set_option maxRecDepth 100000
set_option maxHeartbeats 4000000
abbrev eI8 (n : Int) : D := .int .i8 n
abbrev AqK (n : Int) : D := .int .i16 n
abbrev AqL (n : Int) : D := .int .i32 n
abbrev OZ (n : Int) : D := .int .i64 n
abbrev eU8 (n : Int) : D := .int .u8 n
abbrev AqM (n : Int) : D := .int .u16 n
abbrev AqN (n : Int) : D := .int .u32 n
abbrev Aax (n : Int) : D := .int .u64 n
structure Pc where
  Args : Int
  Size : Int
  Off : (List Int)
deriving DecidableEq, Inhabited
def PR (x : Pc) : D := .agg [.int .i64 x.Args, .int .i64 x.Size, .sl (x.Off.map OZ)]
def AgU (x : Pc) : Prop := (QY .i64) x.Args ∧ (QY .i64) x.Size ∧ (qL (QY .i64)) x.Off
def AbZ (d : D) : Pc := ⟨uI (cel d 0), uI (cel d 1), (uL uI) (cel d 2)⟩
@[simp] theorem Aqv (x : Pc) : AbZ (PR x) = x := by simp [AbZ, PR, cel, uI, PV (u := uI) (en := OZ) (fun _ => rfl)]
structure Pg where
  Out : (List (List Int))
deriving DecidableEq, Inhabited
def Qi (x : Pg) : D := .agg [.sl (x.Out.map (eL OZ))]
def AiO (x : Pg) : Prop := (qL (qL (QY .i64))) x.Out
def UW (d : D) : Pg := ⟨(uL (uL uI)) (cel d 0)⟩
@[simp] theorem AqF (x : Pg) : UW (Qi x) = x := by simp [UW, Qi, cel, PV (u := (uL uI)) (en := (eL OZ)) (PV (u := uI) (en := OZ) (fun _ => rfl))]
structure Po where
  Size : Int
  Align : Int
deriving DecidableEq, Inhabited
def Pn (x : Po) : D := .agg [.int .i64 x.Size, .int .i64 x.Align]
def Aqq (x : Po) : Prop := (QY .i64) x.Size ∧ (QY .i64) x.Align
def XY (d : D) : Po := ⟨uI (cel d 0), uI (cel d 1)⟩
@[simp] theorem Afe (x : Po) : XY (Pn x) = x := by simp [XY, Pn, cel, uI]
structure Pa where
  Op : Int
  A : Int
  B : Int
  C : Int
  Imm : Int
deriving DecidableEq, Inhabited
def Pm (x : Pa) : D := .agg [.int .i64 x.Op, .int .i64 x.A, .int .i64 x.B, .int .i64 x.C, .int .u64 x.Imm]
def Aqj (x : Pa) : Prop := (QY .i64) x.Op ∧ (QY .i64) x.A ∧ (QY .i64) x.B ∧ (QY .i64) x.C ∧ (QY .u64) x.Imm
def Aco (d : D) : Pa := ⟨uI (cel d 0), uI (cel d 1), uI (cel d 2), uI (cel d 3), uI (cel d 4)⟩
@[simp] theorem AmG (x : Pa) : Aco (Pm x) = x := by simp [Aco, Pm, cel, uI]
structure OX where
  Params : Int
  Slots : (List Po)
  Code : (List Pa)
deriving DecidableEq, Inhabited
def PI (x : OX) : D := .agg [.int .i64 x.Params, .sl (x.Slots.map Pn), .sl (x.Code.map Pm)]
def Apn (x : OX) : Prop := (QY .i64) x.Params ∧ (qL Aqq) x.Slots ∧ (qL Aqj) x.Code
def Ss (d : D) : OX := ⟨uI (cel d 0), (uL XY) (cel d 1), (uL Aco) (cel d 2)⟩
@[simp] theorem Anu (x : OX) : Ss (PI x) = x := by simp [Ss, PI, cel, uI, PV (u := XY) (en := Pn) Afe, PV (u := Aco) (en := Pm) AmG]
structure Ph where
  Funcs : (List OX)
deriving DecidableEq, Inhabited
def Rv (x : Ph) : D := .agg [.sl (x.Funcs.map PI)]
def Apg (x : Ph) : Prop := (qL Apn) x.Funcs
def VQ (d : D) : Ph := ⟨(uL Ss) (cel d 0)⟩
@[simp] theorem Aqr (x : Ph) : VQ (Rv x) = x := by simp [VQ, Rv, cel, PV (u := Ss) (en := PI) Anu]
structure Pr where
  p : Ph
  i : Int
  align : Int
  f : OX
  y : Pc
deriving DecidableEq, Inhabited
def TB (x : Pr) : D := .agg [.sl (x.p.Funcs.map PI), .int .i64 x.i, .int .i64 x.align, .int .i64 x.f.Params, .sl (x.f.Slots.map Pn), .sl (x.f.Code.map Pm), .int .i64 x.y.Args, .int .i64 x.y.Size, .sl (x.y.Off.map OZ)]
def Apo (x : Pr) : Prop := Apg x.p ∧ (QY .i64) x.i ∧ (QY .i64) x.align ∧ Apn x.f ∧ AgU x.y
def TL (d : D) : Pr := ⟨⟨(uL Ss) (cel d 0)⟩, uI (cel d 1), uI (cel d 2), ⟨uI (cel d 3), (uL XY) (cel d 4), (uL Aco) (cel d 5)⟩, ⟨uI (cel d 6), uI (cel d 7), (uL uI) (cel d 8)⟩⟩
@[simp] theorem AoJ (x : Pr) : TL (TB x) = x := by simp [TL, TB, cel, uI, PV (u := Ss) (en := PI) Anu, PV (u := XY) (en := Pn) Afe, PV (u := Aco) (en := Pm) AmG, PV (u := uI) (en := OZ) (fun _ => rfl)]
structure Pj where
  Off : Int
  Size : Int
deriving DecidableEq, Inhabited
def Qd (x : Pj) : D := .agg [.int .i64 x.Off, .int .i64 x.Size]
def Aqs (x : Pj) : Prop := (QY .i64) x.Off ∧ (QY .i64) x.Size
def Tu (d : D) : Pj := ⟨uI (cel d 0), uI (cel d 1)⟩
@[simp] theorem AhL (x : Pj) : Tu (Qd x) = x := by simp [Tu, Qd, cel, uI]
structure Mk where
  list : (List Int)
  at_ : Int
deriving DecidableEq, Inhabited
def Pz (x : Mk) : D := .agg [.sl (x.list.map eU8), .int .i64 x.at_]
def Aqn (x : Mk) : Prop := (qL (QY .u8)) x.list ∧ (QY .i64) x.at_
def Sc (d : D) : Mk := ⟨(uL uI) (cel d 0), uI (cel d 1)⟩
@[simp] theorem ApV (x : Mk) : Sc (Pz x) = x := by simp [Sc, Pz, cel, uI, PV (u := uI) (en := eU8) (fun _ => rfl)]
structure Pw where
  To : (List Int)
  Keep : (List Bool)
deriving DecidableEq, Inhabited
def AeI (x : Pw) : D := .agg [.sl (x.To.map OZ), .sl (x.Keep.map D.bool)]
def ApJ (x : Pw) : Prop := (qL (QY .i64)) x.To ∧ (qL Aqd) x.Keep
def Afd (d : D) : Pw := ⟨(uL uI) (cel d 0), (uL uBo) (cel d 1)⟩
@[simp] theorem Aqw (x : Pw) : Afd (AeI x) = x := by simp [Afd, AeI, cel, PV (u := uI) (en := OZ) (fun _ => rfl), PV (u := uBo) (en := D.bool) (fun _ => rfl)]
structure Ul where
  Live : Pg
  Rename : Pw
  LiveAfter : Pg
  Layout : Pc
deriving DecidableEq, Inhabited
def Acg (x : Ul) : D := .agg [.sl (x.Live.Out.map (eL OZ)), .sl (x.Rename.To.map OZ), .sl (x.Rename.Keep.map D.bool), .sl (x.LiveAfter.Out.map (eL OZ)), .int .i64 x.Layout.Args, .int .i64 x.Layout.Size, .sl (x.Layout.Off.map OZ)]
def Aqt (x : Ul) : Prop := AiO x.Live ∧ ApJ x.Rename ∧ AiO x.LiveAfter ∧ AgU x.Layout
def Aky (d : D) : Ul := ⟨⟨(uL (uL uI)) (cel d 0)⟩, ⟨(uL uI) (cel d 1), (uL uBo) (cel d 2)⟩, ⟨(uL (uL uI)) (cel d 3)⟩, ⟨uI (cel d 4), uI (cel d 5), (uL uI) (cel d 6)⟩⟩
@[simp] theorem Aqo (x : Ul) : Aky (Acg x) = x := by simp [Aky, Acg, cel, uI, PV (u := (uL uI)) (en := (eL OZ)) (PV (u := uI) (en := OZ) (fun _ => rfl)), PV (u := uI) (en := OZ) (fun _ => rfl), PV (u := uBo) (en := D.bool) (fun _ => rfl)]
structure PS where
  a0 : Int
  a1 : Int
deriving DecidableEq, Inhabited
def TA (x : PS) : D := .agg [.int .i64 x.a0, .int .i64 x.a1]
def AqE (x : PS) : Prop := (QY .i64) x.a0 ∧ (QY .i64) x.a1
def Ant (d : D) : PS := ⟨uI (cel d 0), uI (cel d 1)⟩
@[simp] theorem Aqu (x : PS) : Ant (TA x) = x := by simp [Ant, TA, cel, uI]
structure OY where
  a0 : Int
  a1 : Int
  a2 : Int
  a3 : Int
  a4 : Int
  a5 : Int
  a6 : Int
  a7 : Int
deriving DecidableEq, Inhabited
def OY.toList (x : OY) : List Int := [x.a0, x.a1, x.a2, x.a3, x.a4, x.a5, x.a6, x.a7]
def OY.set (x : OY) (j : Nat) (v : Int) : OY := ⟨(x.toList.set j v).getD 0 x.a0, (x.toList.set j v).getD 1 x.a1, (x.toList.set j v).getD 2 x.a2, (x.toList.set j v).getD 3 x.a3, (x.toList.set j v).getD 4 x.a4, (x.toList.set j v).getD 5 x.a5, (x.toList.set j v).getD 6 x.a6, (x.toList.set j v).getD 7 x.a7⟩
theorem Rl (x : OY) (j : Nat) (v : Int) : (x.set j v).toList = x.toList.set j v := by
  match j with
  | 0 => rfl
  | 1 => rfl
  | 2 => rfl
  | 3 => rfl
  | 4 => rfl
  | 5 => rfl
  | 6 => rfl
  | 7 => rfl
  | _ + 8 => rfl
def PD (x : OY) : D := .agg [.int .u64 x.a0, .int .u64 x.a1, .int .u64 x.a2, .int .u64 x.a3, .int .u64 x.a4, .int .u64 x.a5, .int .u64 x.a6, .int .u64 x.a7]
def Aph (x : OY) : Prop := (QY .u64) x.a0 ∧ (QY .u64) x.a1 ∧ (QY .u64) x.a2 ∧ (QY .u64) x.a3 ∧ (QY .u64) x.a4 ∧ (QY .u64) x.a5 ∧ (QY .u64) x.a6 ∧ (QY .u64) x.a7
def Rh (d : D) : OY := ⟨uI (cel d 0), uI (cel d 1), uI (cel d 2), uI (cel d 3), uI (cel d 4), uI (cel d 5), uI (cel d 6), uI (cel d 7)⟩
@[simp] theorem AoG (x : OY) : Rh (PD x) = x := by simp [Rh, PD, cel, uI]
instance : TyE 5 eU8 := ⟨⟩
instance : TyE 40 PI := ⟨⟩
instance : TyE 30 (eL OZ) := ⟨⟩
instance : TyE 3 OZ := ⟨⟩
instance : TyE 54 Pn := ⟨⟩
instance : TyE 50 Pm := ⟨⟩
instance : TyE 32 PR := ⟨⟩
instance : TyE 29 Qi := ⟨⟩
instance : TyE 4 D.bool := ⟨⟩
instance : TyE 56 Qd := ⟨⟩
instance : TyE 135 TA := ⟨⟩
end Go.Proofs.YtnldnldmgceooaaGreatDoor
