/-
  The types of the data; written by a program (dx.py).
-/
import Derived.Test.YtcelninhkmhjkaaDoorProg
import Derived.Test.YtcelninhkmhjkaaDoorDc
import Derived.KernelRfl
namespace Go.Proofs.YtcelninhkmhjkaaDoor
open Go Go.Dw Go.Proofs
set_option maxRecDepth 100000
abbrev eI8 (n : Int) : D := .int .i8 n
abbrev Aih (n : Int) : D := .int .i16 n
abbrev Aii (n : Int) : D := .int .i32 n
abbrev JK (n : Int) : D := .int .i64 n
abbrev eU8 (n : Int) : D := .int .u8 n
abbrev Aij (n : Int) : D := .int .u16 n
abbrev Aik (n : Int) : D := .int .u32 n
abbrev Tw (n : Int) : D := .int .u64 n
structure JY where
  a0 : Int
  a1 : Int
deriving DecidableEq, Inhabited
def KB (x : JY) : D := .agg [.int .i64 x.a0, .int .i64 x.a1]
def Aia (x : JY) : Prop := (Np .i64) x.a0 ∧ (Np .i64) x.a1
def TR (d : D) : JY := ⟨uI (cel d 0), uI (cel d 1)⟩
@[simp] theorem AaO (x : JY) : TR (KB x) = x := by simp [TR, KB, cel, uI]
structure Ko where
  Size : Int
  Align : Int
deriving DecidableEq, Inhabited
def JP (x : Ko) : D := .agg [.int .i64 x.Size, .int .i64 x.Align]
def AhT (x : Ko) : Prop := (Np .i64) x.Size ∧ (Np .i64) x.Align
def Abd (d : D) : Ko := ⟨uI (cel d 0), uI (cel d 1)⟩
@[simp] theorem Afz (x : Ko) : Abd (JP x) = x := by simp [Abd, JP, cel, uI]
structure JL where
  Op : Int
  A : Int
  B : Int
  C : Int
  Imm : Int
deriving DecidableEq, Inhabited
def JN (x : JL) : D := .agg [.int .i64 x.Op, .int .i64 x.A, .int .i64 x.B, .int .i64 x.C, .int .u64 x.Imm]
def AhN (x : JL) : Prop := (Np .i64) x.Op ∧ (Np .i64) x.A ∧ (Np .i64) x.B ∧ (Np .i64) x.C ∧ (Np .u64) x.Imm
def Qs (d : D) : JL := ⟨uI (cel d 0), uI (cel d 1), uI (cel d 2), uI (cel d 3), uI (cel d 4)⟩
@[simp] theorem AeB (x : JL) : Qs (JN x) = x := by simp [Qs, JN, cel, uI]
structure JO where
  Params : Int
  Slots : (List Ko)
  Code : (List JL)
deriving DecidableEq, Inhabited
def Kv (x : JO) : D := .agg [.int .i64 x.Params, .sl (x.Slots.map JP), .sl (x.Code.map JN)]
def AhS (x : JO) : Prop := (Np .i64) x.Params ∧ (qL AhT) x.Slots ∧ (qL AhN) x.Code
def MP (d : D) : JO := ⟨uI (cel d 0), (uL Abd) (cel d 1), (uL Qs) (cel d 2)⟩
@[simp] theorem Afy (x : JO) : MP (Kv x) = x := by simp [MP, Kv, cel, uI, LH (u := Abd) (en := JP) Afz, LH (u := Qs) (en := JN) AeB]
structure JV where
  Out : (List (List Int))
deriving DecidableEq, Inhabited
def Lt (x : JV) : D := .agg [.sl (x.Out.map (eL JK))]
def Aig (x : JV) : Prop := (qL (qL (Np .i64))) x.Out
def PE (d : D) : JV := ⟨(uL (uL uI)) (cel d 0)⟩
@[simp] theorem Aib (x : JV) : PE (Lt x) = x := by simp [PE, Lt, cel, LH (u := (uL uI)) (en := (eL JK)) (LH (u := uI) (en := JK) (fun _ => rfl))]
structure JJ where
  list : (List Int)
  at_ : Int
deriving DecidableEq, Inhabited
def Kk (x : JJ) : D := .agg [.sl (x.list.map eU8), .int .i64 x.at_]
def AhO (x : JJ) : Prop := (qL (Np .u8)) x.list ∧ (Np .i64) x.at_
def Lv (d : D) : JJ := ⟨(uL uI) (cel d 0), uI (cel d 1)⟩
@[simp] theorem AfD (x : JJ) : Lv (Kk x) = x := by simp [Lv, Kk, cel, uI, LH (u := uI) (en := eU8) (fun _ => rfl)]
structure On where
  Funcs : (List JO)
deriving DecidableEq, Inhabited
def Aad (x : On) : D := .agg [.sl (x.Funcs.map Kv)]
def AhY (x : On) : Prop := (qL AhS) x.Funcs
def AbK (d : D) : On := ⟨(uL MP) (cel d 0)⟩
@[simp] theorem AhU (x : On) : AbK (Aad x) = x := by simp [AbK, Aad, cel, LH (u := MP) (en := Kv) Afy]
structure JM where
  a0 : Int
  a1 : Int
  a2 : Int
  a3 : Int
  a4 : Int
  a5 : Int
  a6 : Int
  a7 : Int
deriving DecidableEq, Inhabited
def JM.toList (x : JM) : List Int := [x.a0, x.a1, x.a2, x.a3, x.a4, x.a5, x.a6, x.a7]
def JM.set (x : JM) (j : Nat) (v : Int) : JM := ⟨(x.toList.set j v).getD 0 x.a0, (x.toList.set j v).getD 1 x.a1, (x.toList.set j v).getD 2 x.a2, (x.toList.set j v).getD 3 x.a3, (x.toList.set j v).getD 4 x.a4, (x.toList.set j v).getD 5 x.a5, (x.toList.set j v).getD 6 x.a6, (x.toList.set j v).getD 7 x.a7⟩
theorem Me (x : JM) (j : Nat) (v : Int) : (x.set j v).toList = x.toList.set j v := by
  match j with
  | 0 => rfl
  | 1 => rfl
  | 2 => rfl
  | 3 => rfl
  | 4 => rfl
  | 5 => rfl
  | 6 => rfl
  | 7 => rfl
  | _ + 8 => rfl
def Kt (x : JM) : D := .agg [.int .u64 x.a0, .int .u64 x.a1, .int .u64 x.a2, .int .u64 x.a3, .int .u64 x.a4, .int .u64 x.a5, .int .u64 x.a6, .int .u64 x.a7]
def Aex (x : JM) : Prop := (Np .u64) x.a0 ∧ (Np .u64) x.a1 ∧ (Np .u64) x.a2 ∧ (Np .u64) x.a3 ∧ (Np .u64) x.a4 ∧ (Np .u64) x.a5 ∧ (Np .u64) x.a6 ∧ (Np .u64) x.a7
def LZ (d : D) : JM := ⟨uI (cel d 0), uI (cel d 1), uI (cel d 2), uI (cel d 3), uI (cel d 4), uI (cel d 5), uI (cel d 6), uI (cel d 7)⟩
@[simp] theorem Adf (x : JM) : LZ (Kt x) = x := by simp [LZ, Kt, cel, uI]
end Go.Proofs.YtcelninhkmhjkaaDoor
