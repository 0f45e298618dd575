/-
  The types of the data; written by a program (dx.py).
-/
import Derived.Test.YtcelninhkmhjkaaDoorProg
import Derived.Test.YtcelninhkmhjkaaDoorDc
import Derived.KernelRfl
namespace Go.Proofs.YtcelninhkmhjkaaDoor
open Go Go.Dw Go.Proofs
set_option maxRecDepth 100000
abbrev eI8 (n : Int) : D := .int .i8 n
abbrev AiI (n : Int) : D := .int .i16 n
abbrev AiJ (n : Int) : D := .int .i32 n
abbrev Ed (n : Int) : D := .int .i64 n
abbrev eU8 (n : Int) : D := .int .u8 n
abbrev AiK (n : Int) : D := .int .u16 n
abbrev AiL (n : Int) : D := .int .u32 n
abbrev SG (n : Int) : D := .int .u64 n
structure JP where
  Out : (List (List Int))
deriving DecidableEq, Inhabited
def KF (x : JP) : D := .agg [.sl (x.Out.map (eL Ed))]
def AcT (x : JP) : Prop := (qL (qL (MU .i64))) x.Out
def Mp (d : D) : JP := ⟨(uL (uL uI)) (cel d 0)⟩
@[simp] theorem AiD (x : JP) : Mp (KF x) = x := by simp [Mp, KF, cel, Lr (u := (uL uI)) (en := (eL Ed)) (Lr (u := uI) (en := Ed) (fun _ => rfl))]
structure Ko where
  Size : Int
  Align : Int
deriving DecidableEq, Inhabited
def JQ (x : Ko) : D := .agg [.int .i64 x.Size, .int .i64 x.Align]
def Air (x : Ko) : Prop := (MU .i64) x.Size ∧ (MU .i64) x.Align
def AbB (d : D) : Ko := ⟨uI (cel d 0), uI (cel d 1)⟩
@[simp] theorem AfX (x : Ko) : AbB (JQ x) = x := by simp [AbB, JQ, cel, uI]
structure JK where
  Op : Int
  A : Int
  B : Int
  C : Int
  Imm : Int
deriving DecidableEq, Inhabited
def JM (x : JK) : D := .agg [.int .i64 x.Op, .int .i64 x.A, .int .i64 x.B, .int .i64 x.C, .int .u64 x.Imm]
def Ain (x : JK) : Prop := (MU .i64) x.Op ∧ (MU .i64) x.A ∧ (MU .i64) x.B ∧ (MU .i64) x.C ∧ (MU .u64) x.Imm
def RW (d : D) : JK := ⟨uI (cel d 0), uI (cel d 1), uI (cel d 2), uI (cel d 3), uI (cel d 4)⟩
@[simp] theorem AeS (x : JK) : RW (JM x) = x := by simp [RW, JM, cel, uI]
structure JN where
  Params : Int
  Slots : (List Ko)
  Code : (List JK)
deriving DecidableEq, Inhabited
def Ku (x : JN) : D := .agg [.int .i64 x.Params, .sl (x.Slots.map JQ), .sl (x.Code.map JM)]
def Aiq (x : JN) : Prop := (MU .i64) x.Params ∧ (qL Air) x.Slots ∧ (qL Ain) x.Code
def Mi (d : D) : JN := ⟨uI (cel d 0), (uL AbB) (cel d 1), (uL RW) (cel d 2)⟩
@[simp] theorem AfW (x : JN) : Mi (Ku x) = x := by simp [Mi, Ku, cel, uI, Lr (u := AbB) (en := JQ) AfX, Lr (u := RW) (en := JM) AeS]
structure JL where
  a0 : Int
  a1 : Int
  a2 : Int
  a3 : Int
  a4 : Int
  a5 : Int
  a6 : Int
  a7 : Int
deriving DecidableEq, Inhabited
def JL.toList (x : JL) : List Int := [x.a0, x.a1, x.a2, x.a3, x.a4, x.a5, x.a6, x.a7]
def JL.set (x : JL) (j : Nat) (v : Int) : JL := ⟨(x.toList.set j v).getD 0 x.a0, (x.toList.set j v).getD 1 x.a1, (x.toList.set j v).getD 2 x.a2, (x.toList.set j v).getD 3 x.a3, (x.toList.set j v).getD 4 x.a4, (x.toList.set j v).getD 5 x.a5, (x.toList.set j v).getD 6 x.a6, (x.toList.set j v).getD 7 x.a7⟩
theorem Ma (x : JL) (j : Nat) (v : Int) : (x.set j v).toList = x.toList.set j v := by
  match j with
  | 0 => rfl
  | 1 => rfl
  | 2 => rfl
  | 3 => rfl
  | 4 => rfl
  | 5 => rfl
  | 6 => rfl
  | 7 => rfl
  | _ + 8 => rfl
def Kj (x : JL) : D := .agg [.int .u64 x.a0, .int .u64 x.a1, .int .u64 x.a2, .int .u64 x.a3, .int .u64 x.a4, .int .u64 x.a5, .int .u64 x.a6, .int .u64 x.a7]
def AeN (x : JL) : Prop := (MU .u64) x.a0 ∧ (MU .u64) x.a1 ∧ (MU .u64) x.a2 ∧ (MU .u64) x.a3 ∧ (MU .u64) x.a4 ∧ (MU .u64) x.a5 ∧ (MU .u64) x.a6 ∧ (MU .u64) x.a7
def KO (d : D) : JL := ⟨uI (cel d 0), uI (cel d 1), uI (cel d 2), uI (cel d 3), uI (cel d 4), uI (cel d 5), uI (cel d 6), uI (cel d 7)⟩
@[simp] theorem Adx (x : JL) : KO (Kj x) = x := by simp [KO, Kj, cel, uI]
structure JJ where
  list : (List Int)
  at_ : Int
deriving DecidableEq, Inhabited
def Kp (x : JJ) : D := .agg [.sl (x.list.map eU8), .int .i64 x.at_]
def Aio (x : JJ) : Prop := (qL (MU .u8)) x.list ∧ (MU .i64) x.at_
def LG (d : D) : JJ := ⟨(uL uI) (cel d 0), uI (cel d 1)⟩
@[simp] theorem Aga (x : JJ) : LG (Kp x) = x := by simp [LG, Kp, cel, uI, Lr (u := uI) (en := eU8) (fun _ => rfl)]
structure NZ where
  Funcs : (List JN)
deriving DecidableEq, Inhabited
def AaB (x : NZ) : D := .agg [.sl (x.Funcs.map Ku)]
def Aix (x : NZ) : Prop := (qL Aiq) x.Funcs
def Acf (d : D) : NZ := ⟨(uL Mi) (cel d 0)⟩
@[simp] theorem Ais (x : NZ) : Acf (AaB x) = x := by simp [Acf, AaB, cel, Lr (u := Mi) (en := Ku) AfW]
end Go.Proofs.YtcelninhkmhjkaaDoor
