/-
  The types of the data; written by a program (dx.py).
-/
import Derived.Test.YtnldnldmgceooaaGreatDoorProg
import Derived.Test.YtnldnldmgceooaaGreatDoorDd
import Derived.KernelRfl
namespace Go.Proofs.YtnldnldmgceooaaGreatDoor
open Go Go.Dw Go.Proofs
set_option maxRecDepth 100000
set_option maxHeartbeats 4000000
abbrev eI8 (n : Int) : D := .int .i8 n
abbrev Aqa (n : Int) : D := .int .i16 n
abbrev Aqb (n : Int) : D := .int .i32 n
abbrev Pa (n : Int) : D := .int .i64 n
abbrev eU8 (n : Int) : D := .int .u8 n
abbrev Aqc (n : Int) : D := .int .u16 n
abbrev Aqd (n : Int) : D := .int .u32 n
abbrev ZU (n : Int) : D := .int .u64 n
structure Po where
  Size : Int
  Align : Int
deriving DecidableEq, Inhabited
def Pn (x : Po) : D := .agg [.int .i64 x.Size, .int .i64 x.Align]
def ApI (x : Po) : Prop := (QU .i64) x.Size ∧ (QU .i64) x.Align
def XI (d : D) : Po := ⟨uI (cel d 0), uI (cel d 1)⟩
@[simp] theorem Aev (x : Po) : XI (Pn x) = x := by simp [XI, Pn, cel, uI]
structure OZ where
  Op : Int
  A : Int
  B : Int
  C : Int
  Imm : Int
deriving DecidableEq, Inhabited
def Pm (x : OZ) : D := .agg [.int .i64 x.Op, .int .i64 x.A, .int .i64 x.B, .int .i64 x.C, .int .u64 x.Imm]
def ApA (x : OZ) : Prop := (QU .i64) x.Op ∧ (QU .i64) x.A ∧ (QU .i64) x.B ∧ (QU .i64) x.C ∧ (QU .u64) x.Imm
def AbI (d : D) : OZ := ⟨uI (cel d 0), uI (cel d 1), uI (cel d 2), uI (cel d 3), uI (cel d 4)⟩
@[simp] theorem AlR (x : OZ) : AbI (Pm x) = x := by simp [AbI, Pm, cel, uI]
structure OX where
  Params : Int
  Slots : (List Po)
  Code : (List OZ)
deriving DecidableEq, Inhabited
def PN (x : OX) : D := .agg [.int .i64 x.Params, .sl (x.Slots.map Pn), .sl (x.Code.map Pm)]
def AoD (x : OX) : Prop := (QU .i64) x.Params ∧ (qL ApI) x.Slots ∧ (qL ApA) x.Code
def SI (d : D) : OX := ⟨uI (cel d 0), (uL XI) (cel d 1), (uL AbI) (cel d 2)⟩
@[simp] theorem AmF (x : OX) : SI (PN x) = x := by simp [SI, PN, cel, uI, PV (u := XI) (en := Pn) Aev, PV (u := AbI) (en := Pm) AlR]
structure Ph where
  Funcs : (List OX)
deriving DecidableEq, Inhabited
def Rv (x : Ph) : D := .agg [.sl (x.Funcs.map PN)]
def Aot (x : Ph) : Prop := (qL AoD) x.Funcs
def Vy (d : D) : Ph := ⟨(uL SI) (cel d 0)⟩
@[simp] theorem ApJ (x : Ph) : Vy (Rv x) = x := by simp [Vy, Rv, cel, PV (u := SI) (en := PN) AmF]
structure Pf where
  Args : Int
  Size : Int
  Off : (List Int)
deriving DecidableEq, Inhabited
def Qh (x : Pf) : D := .agg [.int .i64 x.Args, .int .i64 x.Size, .sl (x.Off.map Pa)]
def AmB (x : Pf) : Prop := (QU .i64) x.Args ∧ (QU .i64) x.Size ∧ (qL (QU .i64)) x.Off
def Aet (d : D) : Pf := ⟨uI (cel d 0), uI (cel d 1), (uL uI) (cel d 2)⟩
@[simp] theorem ApN (x : Pf) : Aet (Qh x) = x := by simp [Aet, Qh, cel, uI, PV (u := uI) (en := Pa) (fun _ => rfl)]
structure Pp where
  p : Ph
  i : Int
  align : Int
  f : OX
  y : Pf
deriving DecidableEq, Inhabited
def Tx (x : Pp) : D := .agg [.sl (x.p.Funcs.map PN), .int .i64 x.i, .int .i64 x.align, .int .i64 x.f.Params, .sl (x.f.Slots.map Pn), .sl (x.f.Code.map Pm), .int .i64 x.y.Args, .int .i64 x.y.Size, .sl (x.y.Off.map Pa)]
def AoF (x : Pp) : Prop := Aot x.p ∧ (QU .i64) x.i ∧ (QU .i64) x.align ∧ AoD x.f ∧ AmB x.y
def TE (d : D) : Pp := ⟨⟨(uL SI) (cel d 0)⟩, uI (cel d 1), uI (cel d 2), ⟨uI (cel d 3), (uL XI) (cel d 4), (uL AbI) (cel d 5)⟩, ⟨uI (cel d 6), uI (cel d 7), (uL uI) (cel d 8)⟩⟩
@[simp] theorem AnU (x : Pp) : TE (Tx x) = x := by simp [TE, Tx, cel, uI, PV (u := SI) (en := PN) AmF, PV (u := XI) (en := Pn) Aev, PV (u := AbI) (en := Pm) AlR, PV (u := uI) (en := Pa) (fun _ => rfl)]
structure Pj where
  Off : Int
  Size : Int
deriving DecidableEq, Inhabited
def Qc (x : Pj) : D := .agg [.int .i64 x.Off, .int .i64 x.Size]
def ApK (x : Pj) : Prop := (QU .i64) x.Off ∧ (QU .i64) x.Size
def Tp (d : D) : Pj := ⟨uI (cel d 0), uI (cel d 1)⟩
@[simp] theorem AgV (x : Pj) : Tp (Qc x) = x := by simp [Tp, Qc, cel, uI]
structure Pg where
  Out : (List (List Int))
deriving DecidableEq, Inhabited
def Qv (x : Pg) : D := .agg [.sl (x.Out.map (eL Pa))]
def AoE (x : Pg) : Prop := (qL (qL (QU .i64))) x.Out
def VN (d : D) : Pg := ⟨(uL (uL uI)) (cel d 0)⟩
@[simp] theorem ApV (x : Pg) : VN (Qv x) = x := by simp [VN, Qv, cel, PV (u := (uL uI)) (en := (eL Pa)) (PV (u := uI) (en := Pa) (fun _ => rfl))]
structure Mk where
  list : (List Int)
  at_ : Int
deriving DecidableEq, Inhabited
def Pz (x : Mk) : D := .agg [.sl (x.list.map eU8), .int .i64 x.at_]
def ApD (x : Mk) : Prop := (qL (QU .u8)) x.list ∧ (QU .i64) x.at_
def Sa (d : D) : Mk := ⟨(uL uI) (cel d 0), uI (cel d 1)⟩
@[simp] theorem Apk (x : Mk) : Sa (Pz x) = x := by simp [Sa, Pz, cel, uI, PV (u := uI) (en := eU8) (fun _ => rfl)]
structure Pw where
  To : (List Int)
  Keep : (List Bool)
deriving DecidableEq, Inhabited
def Aea (x : Pw) : D := .agg [.sl (x.To.map Pa), .sl (x.Keep.map D.bool)]
def AoY (x : Pw) : Prop := (qL (QU .i64)) x.To ∧ (qL ApS) x.Keep
def Aeu (d : D) : Pw := ⟨(uL uI) (cel d 0), (uL uBo) (cel d 1)⟩
@[simp] theorem ApO (x : Pw) : Aeu (Aea x) = x := by simp [Aeu, Aea, cel, PV (u := uI) (en := Pa) (fun _ => rfl), PV (u := uBo) (en := D.bool) (fun _ => rfl)]
structure TX where
  Live : Pg
  Rename : Pw
  LiveAfter : Pg
  Layout : Pf
deriving DecidableEq, Inhabited
def AbA (x : TX) : D := .agg [.sl (x.Live.Out.map (eL Pa)), .sl (x.Rename.To.map Pa), .sl (x.Rename.Keep.map D.bool), .sl (x.LiveAfter.Out.map (eL Pa)), .int .i64 x.Layout.Args, .int .i64 x.Layout.Size, .sl (x.Layout.Off.map Pa)]
def ApL (x : TX) : Prop := AoE x.Live ∧ AoY x.Rename ∧ AoE x.LiveAfter ∧ AmB x.Layout
def AjR (d : D) : TX := ⟨⟨(uL (uL uI)) (cel d 0)⟩, ⟨(uL uI) (cel d 1), (uL uBo) (cel d 2)⟩, ⟨(uL (uL uI)) (cel d 3)⟩, ⟨uI (cel d 4), uI (cel d 5), (uL uI) (cel d 6)⟩⟩
@[simp] theorem ApF (x : TX) : AjR (AbA x) = x := by simp [AjR, AbA, cel, uI, PV (u := (uL uI)) (en := (eL Pa)) (PV (u := uI) (en := Pa) (fun _ => rfl)), PV (u := uI) (en := Pa) (fun _ => rfl), PV (u := uBo) (en := D.bool) (fun _ => rfl)]
structure PR where
  a0 : Int
  a1 : Int
deriving DecidableEq, Inhabited
def Tw (x : PR) : D := .agg [.int .i64 x.a0, .int .i64 x.a1]
def ApU (x : PR) : Prop := (QU .i64) x.a0 ∧ (QU .i64) x.a1
def AmE (d : D) : PR := ⟨uI (cel d 0), uI (cel d 1)⟩
@[simp] theorem ApM (x : PR) : AmE (Tw x) = x := by simp [AmE, Tw, cel, uI]
structure OY where
  a0 : Int
  a1 : Int
  a2 : Int
  a3 : Int
  a4 : Int
  a5 : Int
  a6 : Int
  a7 : Int
deriving DecidableEq, Inhabited
def OY.toList (x : OY) : List Int := [x.a0, x.a1, x.a2, x.a3, x.a4, x.a5, x.a6, x.a7]
def OY.set (x : OY) (j : Nat) (v : Int) : OY := ⟨(x.toList.set j v).getD 0 x.a0, (x.toList.set j v).getD 1 x.a1, (x.toList.set j v).getD 2 x.a2, (x.toList.set j v).getD 3 x.a3, (x.toList.set j v).getD 4 x.a4, (x.toList.set j v).getD 5 x.a5, (x.toList.set j v).getD 6 x.a6, (x.toList.set j v).getD 7 x.a7⟩
theorem Rl (x : OY) (j : Nat) (v : Int) : (x.set j v).toList = x.toList.set j v := by
  match j with
  | 0 => rfl
  | 1 => rfl
  | 2 => rfl
  | 3 => rfl
  | 4 => rfl
  | 5 => rfl
  | 6 => rfl
  | 7 => rfl
  | _ + 8 => rfl
def PD (x : OY) : D := .agg [.int .u64 x.a0, .int .u64 x.a1, .int .u64 x.a2, .int .u64 x.a3, .int .u64 x.a4, .int .u64 x.a5, .int .u64 x.a6, .int .u64 x.a7]
def Aou (x : OY) : Prop := (QU .u64) x.a0 ∧ (QU .u64) x.a1 ∧ (QU .u64) x.a2 ∧ (QU .u64) x.a3 ∧ (QU .u64) x.a4 ∧ (QU .u64) x.a5 ∧ (QU .u64) x.a6 ∧ (QU .u64) x.a7
def Rh (d : D) : OY := ⟨uI (cel d 0), uI (cel d 1), uI (cel d 2), uI (cel d 3), uI (cel d 4), uI (cel d 5), uI (cel d 6), uI (cel d 7)⟩
@[simp] theorem AnR (x : OY) : Rh (PD x) = x := by simp [Rh, PD, cel, uI]
instance : TyE 5 eU8 := ⟨⟩
instance : TyE 40 PN := ⟨⟩
instance : TyE 30 (eL Pa) := ⟨⟩
instance : TyE 3 Pa := ⟨⟩
instance : TyE 54 Pn := ⟨⟩
instance : TyE 50 Pm := ⟨⟩
instance : TyE 32 Qh := ⟨⟩
instance : TyE 29 Qv := ⟨⟩
instance : TyE 4 D.bool := ⟨⟩
instance : TyE 56 Qc := ⟨⟩
instance : TyE 135 Tw := ⟨⟩
end Go.Proofs.YtnldnldmgceooaaGreatDoor
