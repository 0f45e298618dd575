/-
  The types of the data; written by a program (dx.py).
-/
import Derived.Test.YtcelninhkmhjkaaDoorProg
import Derived.Test.YtcelninhkmhjkaaDoorDc
import Derived.KernelRfl
namespace Go.Proofs.YtcelninhkmhjkaaDoor
open Go Go.Dw Go.Proofs
set_option maxRecDepth 100000
abbrev eI8 (n : Int) : D := .int .i8 n
abbrev AjW (n : Int) : D := .int .i16 n
abbrev AjX (n : Int) : D := .int .i32 n
abbrev JJ (n : Int) : D := .int .i64 n
abbrev eU8 (n : Int) : D := .int .u8 n
abbrev AjY (n : Int) : D := .int .u16 n
abbrev AjZ (n : Int) : D := .int .u32 n
abbrev TL (n : Int) : D := .int .u64 n
structure JR where
  Out : (List (List Int))
deriving DecidableEq, Inhabited
def KJ (x : JR) : D := .agg [.sl (x.Out.map (eL JJ))]
def AdX (x : JR) : Prop := (qL (qL (ME .i64))) x.Out
def MA (d : D) : JR := ⟨(uL (uL uI)) (cel d 0)⟩
@[simp] theorem AjR (x : JR) : MA (KJ x) = x := by simp [MA, KJ, cel, Lw (u := (uL uI)) (en := (eL JJ)) (Lw (u := uI) (en := JJ) (fun _ => rfl))]
structure Kh where
  a0 : Int
  a1 : Int
deriving DecidableEq, Inhabited
def Ls (x : Kh) : D := .agg [.int .i64 x.a0, .int .i64 x.a1]
def AjQ (x : Kh) : Prop := (ME .i64) x.a0 ∧ (ME .i64) x.a1
def Ul (d : D) : Kh := ⟨uI (cel d 0), uI (cel d 1)⟩
@[simp] theorem Acm (x : Kh) : Ul (Ls x) = x := by simp [Ul, Ls, cel, uI]
structure Kr where
  Size : Int
  Align : Int
deriving DecidableEq, Inhabited
def JP (x : Kr) : D := .agg [.int .i64 x.Size, .int .i64 x.Align]
def AjG (x : Kr) : Prop := (ME .i64) x.Size ∧ (ME .i64) x.Align
def Acy (d : D) : Kr := ⟨uI (cel d 0), uI (cel d 1)⟩
@[simp] theorem AgZ (x : Kr) : Acy (JP x) = x := by simp [Acy, JP, cel, uI]
structure JL where
  Op : Int
  A : Int
  B : Int
  C : Int
  Imm : Int
deriving DecidableEq, Inhabited
def JM (x : JL) : D := .agg [.int .i64 x.Op, .int .i64 x.A, .int .i64 x.B, .int .i64 x.C, .int .u64 x.Imm]
def AjA (x : JL) : Prop := (ME .i64) x.Op ∧ (ME .i64) x.A ∧ (ME .i64) x.B ∧ (ME .i64) x.C ∧ (ME .u64) x.Imm
def QB (d : D) : JL := ⟨uI (cel d 0), uI (cel d 1), uI (cel d 2), uI (cel d 3), uI (cel d 4)⟩
@[simp] theorem Agd (x : JL) : QB (JM x) = x := by simp [QB, JM, cel, uI]
structure JO where
  Params : Int
  Slots : (List Kr)
  Code : (List JL)
deriving DecidableEq, Inhabited
def Kv (x : JO) : D := .agg [.int .i64 x.Params, .sl (x.Slots.map JP), .sl (x.Code.map JM)]
def AjF (x : JO) : Prop := (ME .i64) x.Params ∧ (qL AjG) x.Slots ∧ (qL AjA) x.Code
def LA (d : D) : JO := ⟨uI (cel d 0), (uL Acy) (cel d 1), (uL QB) (cel d 2)⟩
@[simp] theorem AgY (x : JO) : LA (Kv x) = x := by simp [LA, Kv, cel, uI, Lw (u := Acy) (en := JP) AgZ, Lw (u := QB) (en := JM) Agd]
structure JK where
  list : (List Int)
  at_ : Int
deriving DecidableEq, Inhabited
def Kq (x : JK) : D := .agg [.sl (x.list.map eU8), .int .i64 x.at_]
def AjC (x : JK) : Prop := (qL (ME .u8)) x.list ∧ (ME .i64) x.at_
def LD (d : D) : JK := ⟨(uL uI) (cel d 0), uI (cel d 1)⟩
@[simp] theorem Ahd (x : JK) : LD (Kq x) = x := by simp [LD, Kq, cel, uI, Lw (u := uI) (en := eU8) (fun _ => rfl)]
structure Ou where
  Funcs : (List JO)
deriving DecidableEq, Inhabited
def Abt (x : Ou) : D := .agg [.sl (x.Funcs.map Kv)]
def AjL (x : Ou) : Prop := (qL AjF) x.Funcs
def Adh (d : D) : Ou := ⟨(uL LA) (cel d 0)⟩
@[simp] theorem AjH (x : Ou) : Adh (Abt x) = x := by simp [Adh, Abt, cel, Lw (u := LA) (en := Kv) AgY]
structure JN where
  a0 : Int
  a1 : Int
  a2 : Int
  a3 : Int
  a4 : Int
  a5 : Int
  a6 : Int
  a7 : Int
deriving DecidableEq, Inhabited
def JN.toList (x : JN) : List Int := [x.a0, x.a1, x.a2, x.a3, x.a4, x.a5, x.a6, x.a7]
def JN.set (x : JN) (j : Nat) (v : Int) : JN := ⟨(x.toList.set j v).getD 0 x.a0, (x.toList.set j v).getD 1 x.a1, (x.toList.set j v).getD 2 x.a2, (x.toList.set j v).getD 3 x.a3, (x.toList.set j v).getD 4 x.a4, (x.toList.set j v).getD 5 x.a5, (x.toList.set j v).getD 6 x.a6, (x.toList.set j v).getD 7 x.a7⟩
theorem Mf (x : JN) (j : Nat) (v : Int) : (x.set j v).toList = x.toList.set j v := by
  match j with
  | 0 => rfl
  | 1 => rfl
  | 2 => rfl
  | 3 => rfl
  | 4 => rfl
  | 5 => rfl
  | 6 => rfl
  | 7 => rfl
  | _ + 8 => rfl
def Ku (x : JN) : D := .agg [.int .u64 x.a0, .int .u64 x.a1, .int .u64 x.a2, .int .u64 x.a3, .int .u64 x.a4, .int .u64 x.a5, .int .u64 x.a6, .int .u64 x.a7]
def AfZ (x : JN) : Prop := (ME .u64) x.a0 ∧ (ME .u64) x.a1 ∧ (ME .u64) x.a2 ∧ (ME .u64) x.a3 ∧ (ME .u64) x.a4 ∧ (ME .u64) x.a5 ∧ (ME .u64) x.a6 ∧ (ME .u64) x.a7
def Mc (d : D) : JN := ⟨uI (cel d 0), uI (cel d 1), uI (cel d 2), uI (cel d 3), uI (cel d 4), uI (cel d 5), uI (cel d 6), uI (cel d 7)⟩
@[simp] theorem Aez (x : JN) : Mc (Ku x) = x := by simp [Mc, Ku, cel, uI]
end Go.Proofs.YtcelninhkmhjkaaDoor
