/-
  The types of the data; written by a program (dx.py).
-/
import Derived.Test.YtnldnldmgceooaaGreatDoorProg
import Derived.Test.YtnldnldmgceooaaGreatDoorDd
import Derived.KernelRfl
namespace Go.Proofs.YtnldnldmgceooaaGreatDoor
open Go Go.Dw Go.Proofs
set_option maxRecDepth 100000
set_option maxHeartbeats 4000000
abbrev eI8 (n : Int) : D := .int .i8 n
abbrev AqE (n : Int) : D := .int .i16 n
abbrev AqF (n : Int) : D := .int .i32 n
abbrev Pa (n : Int) : D := .int .i64 n
abbrev eU8 (n : Int) : D := .int .u8 n
abbrev AqG (n : Int) : D := .int .u16 n
abbrev AqH (n : Int) : D := .int .u32 n
abbrev Aat (n : Int) : D := .int .u64 n
structure Po where
  Size : Int
  Align : Int
deriving DecidableEq, Inhabited
def Pn (x : Po) : D := .agg [.int .i64 x.Size, .int .i64 x.Align]
def Aqm (x : Po) : Prop := (Ra .i64) x.Size ∧ (Ra .i64) x.Align
def XX (d : D) : Po := ⟨uI (cel d 0), uI (cel d 1)⟩
@[simp] theorem Afa (x : Po) : XX (Pn x) = x := by simp [XX, Pn, cel, uI]
structure OZ where
  Op : Int
  A : Int
  B : Int
  C : Int
  Imm : Int
deriving DecidableEq, Inhabited
def Pm (x : OZ) : D := .agg [.int .i64 x.Op, .int .i64 x.A, .int .i64 x.B, .int .i64 x.C, .int .u64 x.Imm]
def Aqf (x : OZ) : Prop := (Ra .i64) x.Op ∧ (Ra .i64) x.A ∧ (Ra .i64) x.B ∧ (Ra .i64) x.C ∧ (Ra .u64) x.Imm
def Aco (d : D) : OZ := ⟨uI (cel d 0), uI (cel d 1), uI (cel d 2), uI (cel d 3), uI (cel d 4)⟩
@[simp] theorem Amy (x : OZ) : Aco (Pm x) = x := by simp [Aco, Pm, cel, uI]
structure OX where
  Params : Int
  Slots : (List Po)
  Code : (List OZ)
deriving DecidableEq, Inhabited
def PL (x : OX) : D := .agg [.int .i64 x.Params, .sl (x.Slots.map Pn), .sl (x.Code.map Pm)]
def Apj (x : OX) : Prop := (Ra .i64) x.Params ∧ (qL Aqm) x.Slots ∧ (qL Aqf) x.Code
def Sy (d : D) : OX := ⟨uI (cel d 0), (uL XX) (cel d 1), (uL Aco) (cel d 2)⟩
@[simp] theorem Ann (x : OX) : Sy (PL x) = x := by simp [Sy, PL, cel, uI, PX (u := XX) (en := Pn) Afa, PX (u := Aco) (en := Pm) Amy]
structure Ph where
  Funcs : (List OX)
deriving DecidableEq, Inhabited
def RB (x : Ph) : D := .agg [.sl (x.Funcs.map PL)]
def Apb (x : Ph) : Prop := (qL Apj) x.Funcs
def VM (d : D) : Ph := ⟨(uL Sy) (cel d 0)⟩
@[simp] theorem Aqn (x : Ph) : VM (RB x) = x := by simp [VM, RB, cel, PX (u := Sy) (en := PL) Ann]
structure Pe where
  Args : Int
  Size : Int
  Off : (List Int)
deriving DecidableEq, Inhabited
def Qh (x : Pe) : D := .agg [.int .i64 x.Args, .int .i64 x.Size, .sl (x.Off.map Pa)]
def Anj (x : Pe) : Prop := (Ra .i64) x.Args ∧ (Ra .i64) x.Size ∧ (qL (Ra .i64)) x.Off
def AcU (d : D) : Pe := ⟨uI (cel d 0), uI (cel d 1), (uL uI) (cel d 2)⟩
@[simp] theorem Aqr (x : Pe) : AcU (Qh x) = x := by simp [AcU, Qh, cel, uI, PX (u := uI) (en := Pa) (fun _ => rfl)]
structure Pr where
  p : Ph
  i : Int
  align : Int
  f : OX
  y : Pe
deriving DecidableEq, Inhabited
def TJ (x : Pr) : D := .agg [.sl (x.p.Funcs.map PL), .int .i64 x.i, .int .i64 x.align, .int .i64 x.f.Params, .sl (x.f.Slots.map Pn), .sl (x.f.Code.map Pm), .int .i64 x.y.Args, .int .i64 x.y.Size, .sl (x.y.Off.map Pa)]
def Apl (x : Pr) : Prop := Apb x.p ∧ (Ra .i64) x.i ∧ (Ra .i64) x.align ∧ Apj x.f ∧ Anj x.y
def TQ (d : D) : Pr := ⟨⟨(uL Sy) (cel d 0)⟩, uI (cel d 1), uI (cel d 2), ⟨uI (cel d 3), (uL XX) (cel d 4), (uL Aco) (cel d 5)⟩, ⟨uI (cel d 6), uI (cel d 7), (uL uI) (cel d 8)⟩⟩
@[simp] theorem AoD (x : Pr) : TQ (TJ x) = x := by simp [TQ, TJ, cel, uI, PX (u := Sy) (en := PL) Ann, PX (u := XX) (en := Pn) Afa, PX (u := Aco) (en := Pm) Amy, PX (u := uI) (en := Pa) (fun _ => rfl)]
structure Pj where
  Off : Int
  Size : Int
deriving DecidableEq, Inhabited
def Qe (x : Pj) : D := .agg [.int .i64 x.Off, .int .i64 x.Size]
def Aqo (x : Pj) : Prop := (Ra .i64) x.Off ∧ (Ra .i64) x.Size
def TC (d : D) : Pj := ⟨uI (cel d 0), uI (cel d 1)⟩
@[simp] theorem AhA (x : Pj) : TC (Qe x) = x := by simp [TC, Qe, cel, uI]
structure Pg where
  Out : (List (List Int))
deriving DecidableEq, Inhabited
def Qv (x : Pg) : D := .agg [.sl (x.Out.map (eL Pa))]
def Apk (x : Pg) : Prop := (qL (qL (Ra .i64))) x.Out
def VA (d : D) : Pg := ⟨(uL (uL uI)) (cel d 0)⟩
@[simp] theorem Aqz (x : Pg) : VA (Qv x) = x := by simp [VA, Qv, cel, PX (u := (uL uI)) (en := (eL Pa)) (PX (u := uI) (en := Pa) (fun _ => rfl))]
structure Mk where
  list : (List Int)
  at_ : Int
deriving DecidableEq, Inhabited
def Pz (x : Mk) : D := .agg [.sl (x.list.map eU8), .int .i64 x.at_]
def Aqi (x : Mk) : Prop := (qL (Ra .u8)) x.list ∧ (Ra .i64) x.at_
def Sh (d : D) : Mk := ⟨(uL uI) (cel d 0), uI (cel d 1)⟩
@[simp] theorem ApQ (x : Mk) : Sh (Pz x) = x := by simp [Sh, Pz, cel, uI, PX (u := uI) (en := eU8) (fun _ => rfl)]
structure Pw where
  To : (List Int)
  Keep : (List Bool)
deriving DecidableEq, Inhabited
def AeD (x : Pw) : D := .agg [.sl (x.To.map Pa), .sl (x.Keep.map D.bool)]
def ApF (x : Pw) : Prop := (qL (Ra .i64)) x.To ∧ (qL Aqw) x.Keep
def AeZ (d : D) : Pw := ⟨(uL uI) (cel d 0), (uL uBo) (cel d 1)⟩
@[simp] theorem Aqs (x : Pw) : AeZ (AeD x) = x := by simp [AeZ, AeD, cel, PX (u := uI) (en := Pa) (fun _ => rfl), PX (u := uBo) (en := D.bool) (fun _ => rfl)]
structure Ul where
  Live : Pg
  Rename : Pw
  LiveAfter : Pg
  Layout : Pe
deriving DecidableEq, Inhabited
def Acf (x : Ul) : D := .agg [.sl (x.Live.Out.map (eL Pa)), .sl (x.Rename.To.map Pa), .sl (x.Rename.Keep.map D.bool), .sl (x.LiveAfter.Out.map (eL Pa)), .int .i64 x.Layout.Args, .int .i64 x.Layout.Size, .sl (x.Layout.Off.map Pa)]
def Aqp (x : Ul) : Prop := Apk x.Live ∧ ApF x.Rename ∧ Apk x.LiveAfter ∧ Anj x.Layout
def Akr (d : D) : Ul := ⟨⟨(uL (uL uI)) (cel d 0)⟩, ⟨(uL uI) (cel d 1), (uL uBo) (cel d 2)⟩, ⟨(uL (uL uI)) (cel d 3)⟩, ⟨uI (cel d 4), uI (cel d 5), (uL uI) (cel d 6)⟩⟩
@[simp] theorem Aqj (x : Ul) : Akr (Acf x) = x := by simp [Akr, Acf, cel, uI, PX (u := (uL uI)) (en := (eL Pa)) (PX (u := uI) (en := Pa) (fun _ => rfl)), PX (u := uI) (en := Pa) (fun _ => rfl), PX (u := uBo) (en := D.bool) (fun _ => rfl)]
structure PT where
  a0 : Int
  a1 : Int
deriving DecidableEq, Inhabited
def TI (x : PT) : D := .agg [.int .i64 x.a0, .int .i64 x.a1]
def Aqy (x : PT) : Prop := (Ra .i64) x.a0 ∧ (Ra .i64) x.a1
def Anm (d : D) : PT := ⟨uI (cel d 0), uI (cel d 1)⟩
@[simp] theorem Aqq (x : PT) : Anm (TI x) = x := by simp [Anm, TI, cel, uI]
structure OY where
  a0 : Int
  a1 : Int
  a2 : Int
  a3 : Int
  a4 : Int
  a5 : Int
  a6 : Int
  a7 : Int
deriving DecidableEq, Inhabited
def OY.toList (x : OY) : List Int := [x.a0, x.a1, x.a2, x.a3, x.a4, x.a5, x.a6, x.a7]
def OY.set (x : OY) (j : Nat) (v : Int) : OY := ⟨(x.toList.set j v).getD 0 x.a0, (x.toList.set j v).getD 1 x.a1, (x.toList.set j v).getD 2 x.a2, (x.toList.set j v).getD 3 x.a3, (x.toList.set j v).getD 4 x.a4, (x.toList.set j v).getD 5 x.a5, (x.toList.set j v).getD 6 x.a6, (x.toList.set j v).getD 7 x.a7⟩
theorem Rq (x : OY) (j : Nat) (v : Int) : (x.set j v).toList = x.toList.set j v := by
  match j with
  | 0 => rfl
  | 1 => rfl
  | 2 => rfl
  | 3 => rfl
  | 4 => rfl
  | 5 => rfl
  | 6 => rfl
  | 7 => rfl
  | _ + 8 => rfl
def PD (x : OY) : D := .agg [.int .u64 x.a0, .int .u64 x.a1, .int .u64 x.a2, .int .u64 x.a3, .int .u64 x.a4, .int .u64 x.a5, .int .u64 x.a6, .int .u64 x.a7]
def Apc (x : OY) : Prop := (Ra .u64) x.a0 ∧ (Ra .u64) x.a1 ∧ (Ra .u64) x.a2 ∧ (Ra .u64) x.a3 ∧ (Ra .u64) x.a4 ∧ (Ra .u64) x.a5 ∧ (Ra .u64) x.a6 ∧ (Ra .u64) x.a7
def Rn (d : D) : OY := ⟨uI (cel d 0), uI (cel d 1), uI (cel d 2), uI (cel d 3), uI (cel d 4), uI (cel d 5), uI (cel d 6), uI (cel d 7)⟩
@[simp] theorem AoA (x : OY) : Rn (PD x) = x := by simp [Rn, PD, cel, uI]
instance : TyE 5 eU8 := ⟨⟩
instance : TyE 40 PL := ⟨⟩
instance : TyE 30 (eL Pa) := ⟨⟩
instance : TyE 3 Pa := ⟨⟩
instance : TyE 54 Pn := ⟨⟩
instance : TyE 50 Pm := ⟨⟩
instance : TyE 32 Qh := ⟨⟩
instance : TyE 29 Qv := ⟨⟩
instance : TyE 4 D.bool := ⟨⟩
instance : TyE 56 Qe := ⟨⟩
instance : TyE 135 TI := ⟨⟩
end Go.Proofs.YtnldnldmgceooaaGreatDoor
