/-
  The types of the data; written by a program (dx.py).
-/
import Derived.Test.YtpagjjmondojpaaGreatDoorProg
import Derived.Test.YtpagjjmondojpaaGreatDoorDd
import Derived.KernelRfl
namespace Go.Proofs.YtpagjjmondojpaaGreatDoor
open Go Go.Dw Go.Proofs
set_option maxRecDepth 100000
set_option maxHeartbeats 40000000
abbrev eI8 (n : Int) : D := .int .i8 n
abbrev Atc (n : Int) : D := .int .i16 n
abbrev Atd (n : Int) : D := .int .i32 n
abbrev NH (n : Int) : D := .int .i64 n
abbrev eU8 (n : Int) : D := .int .u8 n
abbrev Ate (n : Int) : D := .int .u16 n
abbrev Atf (n : Int) : D := .int .u32 n
abbrev Pt (n : Int) : D := .int .u64 n
structure NV where
  Size : Int
  Align : Int
deriving DecidableEq, Inhabited
def OM (x : NV) : D := .agg [.int .i64 x.Size, .int .i64 x.Align]
def AsJ (x : NV) : Prop := (Pu .i64) x.Size /\ (Pu .i64) x.Align
def AaB (d : D) : NV := ⟨uI (cel d 0), uI (cel d 1)⟩
@[simp] theorem Aib (x : NV) : AaB (OM x) = x := by simp [AaB, OM, cel, uI]
structure NC where
  Op : Int
  A : Int
  B : Int
  C : Int
  Imm : Int
deriving DecidableEq, Inhabited
def Oo (x : NC) : D := .agg [.int .i64 x.Op, .int .i64 x.A, .int .i64 x.B, .int .i64 x.C, .int .u64 x.Imm]
def Asz (x : NC) : Prop := (Pu .i64) x.Op /\ (Pu .i64) x.A /\ (Pu .i64) x.B /\ (Pu .i64) x.C /\ (Pu .u64) x.Imm
def AbQ (d : D) : NC := ⟨uI (cel d 0), uI (cel d 1), uI (cel d 2), uI (cel d 3), uI (cel d 4)⟩
@[simp] theorem Arp (x : NC) : AbQ (Oo x) = x := by simp [AbQ, Oo, cel, uI]
structure Nz where
  Params : Int
  Slots : (List NV)
  Code : (List NC)
deriving DecidableEq, Inhabited
def NP (x : Nz) : D := .agg [.int .i64 x.Params, .sl (x.Slots.map OM), .sl (x.Code.map Oo)]
def AsI (x : Nz) : Prop := (Pu .i64) x.Params /\ (qL AsJ) x.Slots /\ (qL Asz) x.Code
def QZ (d : D) : Nz := ⟨uI (cel d 0), (uL AaB) (cel d 1), (uL AbQ) (cel d 2)⟩
@[simp] theorem Apj (x : Nz) : QZ (NP x) = x := by simp [QZ, NP, cel, uI, OY (u := AaB) (en := OM) Aib, OY (u := AbQ) (en := Oo) Arp]
structure NQ where
  Out : (List (List Int))
deriving DecidableEq, Inhabited
def PO (x : NQ) : D := .agg [.sl (x.Out.map (eL NH))]
def Arw (x : NQ) : Prop := (qL (qL (Pu .i64))) x.Out
def VQ (d : D) : NQ := ⟨(uL (uL uI)) (cel d 0)⟩
@[simp] theorem AsX (x : NQ) : VQ (PO x) = x := by simp [VQ, PO, cel, OY (u := (uL uI)) (en := (eL NH)) (OY (u := uI) (en := NH) (λ_ => rfl))]
structure NM where
  To : (List Int)
  Keep : (List Bool)
deriving DecidableEq, Inhabited
def TL (x : NM) : D := .agg [.sl (x.To.map NH), .sl (x.Keep.map D.bool)]
def ArV (x : NM) : Prop := (qL (Pu .i64)) x.To /\ (qL Are) x.Keep
def AaW (d : D) : NM := ⟨(uL uI) (cel d 0), (uL uBo) (cel d 1)⟩
@[simp] theorem AsQ (x : NM) : AaW (TL x) = x := by simp [AaW, TL, cel, OY (u := uI) (en := NH) (λ_ => rfl), OY (u := uBo) (en := D.bool) (λ_ => rfl)]
structure ND where
  a0 : Int
  a1 : Int
  a2 : Int
  a3 : Int
  a4 : Int
  a5 : Int
  a6 : Int
  a7 : Int
deriving DecidableEq, Inhabited
def ND.toList (x : ND) : List Int := [x.a0, x.a1, x.a2, x.a3, x.a4, x.a5, x.a6, x.a7]
def ND.set (x : ND) (j : Nat) (v : Int) : ND := ⟨(x.toList.set j v).getD 0 x.a0, (x.toList.set j v).getD 1 x.a1, (x.toList.set j v).getD 2 x.a2, (x.toList.set j v).getD 3 x.a3, (x.toList.set j v).getD 4 x.a4, (x.toList.set j v).getD 5 x.a5, (x.toList.set j v).getD 6 x.a6, (x.toList.set j v).getD 7 x.a7⟩
theorem QG (x : ND) (j : Nat) (v : Int) : (x.set j v).toList = x.toList.set j v := by
  match j with
  | 0 => rfl
  | 1 => rfl
  | 2 => rfl
  | 3 => rfl
  | 4 => rfl
  | 5 => rfl
  | 6 => rfl
  | 7 => rfl
  | _ + 8 => rfl
def Oc (x : ND) : D := .agg [.int .u64 x.a0, .int .u64 x.a1, .int .u64 x.a2, .int .u64 x.a3, .int .u64 x.a4, .int .u64 x.a5, .int .u64 x.a6, .int .u64 x.a7]
def Ark (x : ND) : Prop := (Pu .u64) x.a0 /\ (Pu .u64) x.a1 /\ (Pu .u64) x.a2 /\ (Pu .u64) x.a3 /\ (Pu .u64) x.a4 /\ (Pu .u64) x.a5 /\ (Pu .u64) x.a6 /\ (Pu .u64) x.a7
def Qx (d : D) : ND := ⟨uI (cel d 0), uI (cel d 1), uI (cel d 2), uI (cel d 3), uI (cel d 4), uI (cel d 5), uI (cel d 6), uI (cel d 7)⟩
@[simp] theorem AqB (x : ND) : Qx (Oc x) = x := by simp [Qx, Oc, cel, uI]
structure NN where
  Funcs : (List Nz)
deriving DecidableEq, Inhabited
def QT (x : NN) : D := .agg [.sl (x.Funcs.map NP)]
def Arj (x : NN) : Prop := (qL AsI) x.Funcs
def Vy (d : D) : NN := ⟨(uL QZ) (cel d 0)⟩
@[simp] theorem AsL (x : NN) : Vy (QT x) = x := by simp [Vy, QT, cel, OY (u := QZ) (en := NP) Apj]
structure Mk where
  list : (List Int)
  at_ : Int
deriving DecidableEq, Inhabited
def Oy (x : Mk) : D := .agg [.sl (x.list.map eU8), .int .i64 x.at_]
def AsF (x : Mk) : Prop := (qL (Pu .u8)) x.list /\ (Pu .i64) x.at_
def RH (d : D) : Mk := ⟨(uL uI) (cel d 0), uI (cel d 1)⟩
@[simp] theorem Asl (x : Mk) : RH (Oy x) = x := by simp [RH, Oy, cel, uI, OY (u := uI) (en := eU8) (λ_ => rfl)]
structure Qm where
  Args : Int
  Size : Int
  Off : (List Int)
deriving DecidableEq, Inhabited
def AaO (x : Qm) : D := .agg [.int .i64 x.Args, .int .i64 x.Size, .sl (x.Off.map NH)]
def ArU (x : Qm) : Prop := (Pu .i64) x.Args /\ (Pu .i64) x.Size /\ (qL (Pu .i64)) x.Off
def Apk (d : D) : Qm := ⟨uI (cel d 0), uI (cel d 1), (uL uI) (cel d 2)⟩
@[simp] theorem AsP (x : Qm) : Apk (AaO x) = x := by simp [Apk, AaO, cel, uI, OY (u := uI) (en := NH) (λ_ => rfl)]
structure SP where
  Live : NQ
  Rename : NM
  LiveAfter : NQ
  Layout : Qm
deriving DecidableEq, Inhabited
def AcH (x : SP) : D := .agg [.sl (x.Live.Out.map (eL NH)), .sl (x.Rename.To.map NH), .sl (x.Rename.Keep.map D.bool), .sl (x.LiveAfter.Out.map (eL NH)), .int .i64 x.Layout.Args, .int .i64 x.Layout.Size, .sl (x.Layout.Off.map NH)]
def AsN (x : SP) : Prop := Arw x.Live /\ ArV x.Rename /\ Arw x.LiveAfter /\ ArU x.Layout
def AlW (d : D) : SP := ⟨⟨(uL (uL uI)) (cel d 0)⟩, ⟨(uL uI) (cel d 1), (uL uBo) (cel d 2)⟩, ⟨(uL (uL uI)) (cel d 3)⟩, ⟨uI (cel d 4), uI (cel d 5), (uL uI) (cel d 6)⟩⟩
@[simp] theorem AsG (x : SP) : AlW (AcH x) = x := by simp [AlW, AcH, cel, uI, OY (u := (uL uI)) (en := (eL NH)) (OY (u := uI) (en := NH) (λ_ => rfl)), OY (u := uI) (en := NH) (λ_ => rfl), OY (u := uBo) (en := D.bool) (λ_ => rfl)]
structure Pe where
  a0 : Int
  a1 : Int
deriving DecidableEq, Inhabited
def Tg (x : Pe) : D := .agg [.int .i64 x.a0, .int .i64 x.a1]
def AsW (x : Pe) : Prop := (Pu .i64) x.a0 /\ (Pu .i64) x.a1
def Api (d : D) : Pe := ⟨uI (cel d 0), uI (cel d 1)⟩
@[simp] theorem AsO (x : Pe) : Api (Tg x) = x := by simp [Api, Tg, cel, uI]
structure Oa where
  Off : Int
  Size : Int
deriving DecidableEq, Inhabited
def Pz (x : Oa) : D := .agg [.int .i64 x.Off, .int .i64 x.Size]
def AsM (x : Oa) : Prop := (Pu .i64) x.Off /\ (Pu .i64) x.Size
def TK (d : D) : Oa := ⟨uI (cel d 0), uI (cel d 1)⟩
@[simp] theorem Ajf (x : Oa) : TK (Pz x) = x := by simp [TK, Pz, cel, uI]
structure NF where
  Lo : Int
  Hi : Int
deriving DecidableEq, Inhabited
def Oe (x : NF) : D := .agg [.int .u64 x.Lo, .int .u64 x.Hi]
def Yu (x : NF) : Prop := (Pu .u64) x.Lo /\ (Pu .u64) x.Hi
def Ta (d : D) : NF := ⟨uI (cel d 0), uI (cel d 1)⟩
@[simp] theorem Agg (x : NF) : Ta (Oe x) = x := by simp [Ta, Oe, cel, uI]
structure Oz where
  Kind : Int
  Code : Int
  Result : NF
  Trace : (List NF)
  Steps : Int
deriving DecidableEq, Inhabited
def Vu (x : Oz) : D := .agg [.int .i64 x.Kind, .int .u64 x.Code, .int .u64 x.Result.Lo, .int .u64 x.Result.Hi, .sl (x.Trace.map Oe), .int .i64 x.Steps]
def Ari (x : Oz) : Prop := (Pu .i64) x.Kind /\ (Pu .u64) x.Code /\ Yu x.Result /\ (qL Yu) x.Trace /\ (Pu .i64) x.Steps
def AjT (d : D) : Oz := ⟨uI (cel d 0), uI (cel d 1), ⟨uI (cel d 2), uI (cel d 3)⟩, (uL Ta) (cel d 4), uI (cel d 5)⟩
@[simp] theorem AsK (x : Oz) : AjT (Vu x) = x := by simp [AjT, Vu, cel, uI, OY (u := Ta) (en := Oe) Agg]
structure OB where
  a0 : NF
  a1 : NF
  a2 : NF
  a3 : NF
  a4 : NF
  a5 : NF
  a6 : NF
  a7 : NF
deriving DecidableEq, Inhabited
def OB.toList (x : OB) : List NF := [x.a0, x.a1, x.a2, x.a3, x.a4, x.a5, x.a6, x.a7]
def OB.set (x : OB) (j : Nat) (v : NF) : OB := ⟨(x.toList.set j v).getD 0 x.a0, (x.toList.set j v).getD 1 x.a1, (x.toList.set j v).getD 2 x.a2, (x.toList.set j v).getD 3 x.a3, (x.toList.set j v).getD 4 x.a4, (x.toList.set j v).getD 5 x.a5, (x.toList.set j v).getD 6 x.a6, (x.toList.set j v).getD 7 x.a7⟩
theorem QF (x : OB) (j : Nat) (v : NF) : (x.set j v).toList = x.toList.set j v := by
  match j with
  | 0 => rfl
  | 1 => rfl
  | 2 => rfl
  | 3 => rfl
  | 4 => rfl
  | 5 => rfl
  | 6 => rfl
  | 7 => rfl
  | _ + 8 => rfl
def Oq (x : OB) : D := .agg [.int .u64 x.a0.Lo, .int .u64 x.a0.Hi, .int .u64 x.a1.Lo, .int .u64 x.a1.Hi, .int .u64 x.a2.Lo, .int .u64 x.a2.Hi, .int .u64 x.a3.Lo, .int .u64 x.a3.Hi, .int .u64 x.a4.Lo, .int .u64 x.a4.Hi, .int .u64 x.a5.Lo, .int .u64 x.a5.Hi, .int .u64 x.a6.Lo, .int .u64 x.a6.Hi, .int .u64 x.a7.Lo, .int .u64 x.a7.Hi]
def ApI (x : OB) : Prop := Yu x.a0 /\ Yu x.a1 /\ Yu x.a2 /\ Yu x.a3 /\ Yu x.a4 /\ Yu x.a5 /\ Yu x.a6 /\ Yu x.a7
def Agf (d : D) : OB := ⟨⟨uI (cel d 0), uI (cel d 1)⟩, ⟨uI (cel d 2), uI (cel d 3)⟩, ⟨uI (cel d 4), uI (cel d 5)⟩, ⟨uI (cel d 6), uI (cel d 7)⟩, ⟨uI (cel d 8), uI (cel d 9)⟩, ⟨uI (cel d 10), uI (cel d 11)⟩, ⟨uI (cel d 12), uI (cel d 13)⟩, ⟨uI (cel d 14), uI (cel d 15)⟩⟩
@[simp] theorem AsD (x : OB) : Agf (Oq x) = x := by simp [Agf, Oq, cel, uI]
structure NL where
  v : NF
  ok : Bool
deriving DecidableEq, Inhabited
def Pv (x : NL) : D := .agg [.int .u64 x.v.Lo, .int .u64 x.v.Hi, .bool x.ok]
def AiW (x : NL) : Prop := Yu x.v /\ Are x.ok
def XC (d : D) : NL := ⟨⟨uI (cel d 0), uI (cel d 1)⟩, uBo (cel d 2)⟩
@[simp] theorem AmV (x : NL) : XC (Pv x) = x := by simp [XC, Pv, cel, uI, uBo]
structure NB where
  f : Int
  at_ : Int
  slots : (List NL)
  args : (List NL)
deriving DecidableEq, Inhabited
def NR (x : NB) : D := .agg [.int .i64 x.f, .int .i64 x.at_, .sl (x.slots.map Pv), .sl (x.args.map Pv)]
def AiA (x : NB) : Prop := (Pu .i64) x.f /\ (Pu .i64) x.at_ /\ (qL AiW) x.slots /\ (qL AiW) x.args
def VR (d : D) : NB := ⟨uI (cel d 0), uI (cel d 1), (uL XC) (cel d 2), (uL XC) (cel d 3)⟩
@[simp] theorem AgX (x : NB) : VR (NR x) = x := by simp [VR, NR, cel, uI, OY (u := XC) (en := Pv) AmV]
structure NI where
  p : NN
  regs : OB
  acts : (List NB)
  input : (List Int)
  deep : Int
  done : Bool
  out : Oz
deriving DecidableEq, Inhabited
def Pp (x : NI) : D := .agg [.sl (x.p.Funcs.map NP), .int .u64 x.regs.a0.Lo, .int .u64 x.regs.a0.Hi, .int .u64 x.regs.a1.Lo, .int .u64 x.regs.a1.Hi, .int .u64 x.regs.a2.Lo, .int .u64 x.regs.a2.Hi, .int .u64 x.regs.a3.Lo, .int .u64 x.regs.a3.Hi, .int .u64 x.regs.a4.Lo, .int .u64 x.regs.a4.Hi, .int .u64 x.regs.a5.Lo, .int .u64 x.regs.a5.Hi, .int .u64 x.regs.a6.Lo, .int .u64 x.regs.a6.Hi, .int .u64 x.regs.a7.Lo, .int .u64 x.regs.a7.Hi, .sl (x.acts.map NR), .sl (x.input.map Pt), .int .i64 x.deep, .bool x.done, .int .i64 x.out.Kind, .int .u64 x.out.Code, .int .u64 x.out.Result.Lo, .int .u64 x.out.Result.Hi, .sl (x.out.Trace.map Oe), .int .i64 x.out.Steps]
def ArW (x : NI) : Prop := Arj x.p /\ ApI x.regs /\ (qL AiA) x.acts /\ (qL (Pu .u64)) x.input /\ (Pu .i64) x.deep /\ Are x.done /\ Ari x.out
def TV (d : D) : NI := ⟨⟨(uL QZ) (cel d 0)⟩, ⟨⟨uI (cel d 1), uI (cel d 2)⟩, ⟨uI (cel d 3), uI (cel d 4)⟩, ⟨uI (cel d 5), uI (cel d 6)⟩, ⟨uI (cel d 7), uI (cel d 8)⟩, ⟨uI (cel d 9), uI (cel d 10)⟩, ⟨uI (cel d 11), uI (cel d 12)⟩, ⟨uI (cel d 13), uI (cel d 14)⟩, ⟨uI (cel d 15), uI (cel d 16)⟩⟩, (uL VR) (cel d 17), (uL uI) (cel d 18), uI (cel d 19), uBo (cel d 20), ⟨uI (cel d 21), uI (cel d 22), ⟨uI (cel d 23), uI (cel d 24)⟩, (uL Ta) (cel d 25), uI (cel d 26)⟩⟩
@[simp] theorem Arq (x : NI) : TV (Pp x) = x := by simp [TV, Pp, cel, uI, uBo, OY (u := QZ) (en := NP) Apj, OY (u := VR) (en := NR) AgX, OY (u := uI) (en := Pt) (λ_ => rfl), OY (u := Ta) (en := Oe) Agg]
instance : TyE 5 eU8 := ⟨⟩
instance : TyE 40 NP := ⟨⟩
instance : TyE 30 (eL NH) := ⟨⟩
instance : TyE 3 NH := ⟨⟩
instance : TyE 4 D.bool := ⟨⟩
instance : TyE 67 OM := ⟨⟩
instance : TyE 69 Oo := ⟨⟩
instance : TyE 29 PO := ⟨⟩
instance : TyE 33 TL := ⟨⟩
instance : TyE 55 Pt := ⟨⟩
instance : TyE 57 Oe := ⟨⟩
instance : TyE 142 NR := ⟨⟩
instance : TyE 174 Pv := ⟨⟩
instance : TyE 149 Tg := ⟨⟩
instance : TyE 157 Pz := ⟨⟩
end Go.Proofs.YtpagjjmondojpaaGreatDoor
