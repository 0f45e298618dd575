/-
  The types of the data; written by a program (dx.py).
-/
import Derived.Test.YtfpgidpffhmadaaDoorProg
import Derived.Test.YtfpgidpffhmadaaDoorDc
import Derived.KernelRfl
namespace Go.Proofs.YtfpgidpffhmadaaDoor
open Go Go.Dw Go.Proofs
set_option maxRecDepth 100000
abbrev eI8 (n : Int) : D := .int .i8 n
abbrev Akn (n : Int) : D := .int .i16 n
abbrev Ako (n : Int) : D := .int .i32 n
abbrev Jc (n : Int) : D := .int .i64 n
abbrev eU8 (n : Int) : D := .int .u8 n
abbrev Akp (n : Int) : D := .int .u16 n
abbrev Akq (n : Int) : D := .int .u32 n
abbrev TO (n : Int) : D := .int .u64 n
structure JB where
  a0 : Int
  a1 : Int
deriving DecidableEq, Inhabited
def KT (x : JB) : D := .agg [.int .i64 x.a0, .int .i64 x.a1]
def Akg (x : JB) : Prop := (MS .i64) x.a0 ∧ (MS .i64) x.a1
def Un (d : D) : JB := ⟨uI (cel d 0), uI (cel d 1)⟩
@[simp] theorem Ach (x : JB) : Un (KT x) = x := by simp [Un, KT, cel, uI]
structure JK where
  Size : Int
  Align : Int
deriving DecidableEq, Inhabited
def Jj (x : JK) : D := .agg [.int .i64 x.Size, .int .i64 x.Align]
def AjZ (x : JK) : Prop := (MS .i64) x.Size ∧ (MS .i64) x.Align
def Acw (d : D) : JK := ⟨uI (cel d 0), uI (cel d 1)⟩
@[simp] theorem AgI (x : JK) : Acw (Jj x) = x := by simp [Acw, Jj, cel, uI]
structure Je where
  Op : Int
  A : Int
  B : Int
  C : Int
  Imm : Int
deriving DecidableEq, Inhabited
def Jg (x : Je) : D := .agg [.int .i64 x.Op, .int .i64 x.A, .int .i64 x.B, .int .i64 x.C, .int .u64 x.Imm]
def AjG (x : Je) : Prop := (MS .i64) x.Op ∧ (MS .i64) x.A ∧ (MS .i64) x.B ∧ (MS .i64) x.C ∧ (MS .u64) x.Imm
def Qr (d : D) : Je := ⟨uI (cel d 0), uI (cel d 1), uI (cel d 2), uI (cel d 3), uI (cel d 4)⟩
@[simp] theorem Agl (x : Je) : Qr (Jg x) = x := by simp [Qr, Jg, cel, uI]
structure Jh where
  Params : Int
  Slots : (List JK)
  Code : (List Je)
deriving DecidableEq, Inhabited
def JS (x : Jh) : D := .agg [.int .i64 x.Params, .sl (x.Slots.map Jj), .sl (x.Code.map Jg)]
def AjY (x : Jh) : Prop := (MS .i64) x.Params ∧ (qL AjZ) x.Slots ∧ (qL AjG) x.Code
def Mn (d : D) : Jh := ⟨uI (cel d 0), (uL Acw) (cel d 1), (uL Qr) (cel d 2)⟩
@[simp] theorem AgH (x : Jh) : Mn (JS x) = x := by simp [Mn, JS, cel, uI, KE (u := Acw) (en := Jj) AgI, KE (u := Qr) (en := Jg) Agl]
structure Jp where
  Out : (List (List Int))
deriving DecidableEq, Inhabited
def KL (x : Jp) : D := .agg [.sl (x.Out.map (eL Jc))]
def Akm (x : Jp) : Prop := (qL (qL (MS .i64))) x.Out
def Px (d : D) : Jp := ⟨(uL (uL uI)) (cel d 0)⟩
@[simp] theorem Akh (x : Jp) : Px (KL x) = x := by simp [Px, KL, cel, KE (u := (uL uI)) (en := (eL Jc)) (KE (u := uI) (en := Jc) (fun _ => rfl))]
structure Jd where
  list : (List Int)
  at_ : Int
deriving DecidableEq, Inhabited
def JF (x : Jd) : D := .agg [.sl (x.list.map eU8), .int .i64 x.at_]
def AjH (x : Jd) : Prop := (qL (MS .u8)) x.list ∧ (MS .i64) x.at_
def KN (d : D) : Jd := ⟨(uL uI) (cel d 0), uI (cel d 1)⟩
@[simp] theorem AgM (x : Jd) : KN (JF x) = x := by simp [KN, JF, cel, uI, KE (u := uI) (en := eU8) (fun _ => rfl)]
structure NT where
  Funcs : (List Jh)
deriving DecidableEq, Inhabited
def Abk (x : NT) : D := .agg [.sl (x.Funcs.map JS)]
def Ake (x : NT) : Prop := (qL AjY) x.Funcs
def Adh (d : D) : NT := ⟨(uL Mn) (cel d 0)⟩
@[simp] theorem Aka (x : NT) : Adh (Abk x) = x := by simp [Adh, Abk, cel, KE (u := Mn) (en := JS) AgH]
structure Jf where
  a0 : Int
  a1 : Int
  a2 : Int
  a3 : Int
  a4 : Int
  a5 : Int
  a6 : Int
  a7 : Int
deriving DecidableEq, Inhabited
def Jf.toList (x : Jf) : List Int := [x.a0, x.a1, x.a2, x.a3, x.a4, x.a5, x.a6, x.a7]
def Jf.set (x : Jf) (j : Nat) (v : Int) : Jf := ⟨(x.toList.set j v).getD 0 x.a0, (x.toList.set j v).getD 1 x.a1, (x.toList.set j v).getD 2 x.a2, (x.toList.set j v).getD 3 x.a3, (x.toList.set j v).getD 4 x.a4, (x.toList.set j v).getD 5 x.a5, (x.toList.set j v).getD 6 x.a6, (x.toList.set j v).getD 7 x.a7⟩
theorem Ly (x : Jf) (j : Nat) (v : Int) : (x.set j v).toList = x.toList.set j v := by
  match j with
  | 0 => rfl
  | 1 => rfl
  | 2 => rfl
  | 3 => rfl
  | 4 => rfl
  | 5 => rfl
  | 6 => rfl
  | 7 => rfl
  | _ + 8 => rfl
def JO (x : Jf) : D := .agg [.int .u64 x.a0, .int .u64 x.a1, .int .u64 x.a2, .int .u64 x.a3, .int .u64 x.a4, .int .u64 x.a5, .int .u64 x.a6, .int .u64 x.a7]
def Agh (x : Jf) : Prop := (MS .u64) x.a0 ∧ (MS .u64) x.a1 ∧ (MS .u64) x.a2 ∧ (MS .u64) x.a3 ∧ (MS .u64) x.a4 ∧ (MS .u64) x.a5 ∧ (MS .u64) x.a6 ∧ (MS .u64) x.a7
def Lu (d : D) : Jf := ⟨uI (cel d 0), uI (cel d 1), uI (cel d 2), uI (cel d 3), uI (cel d 4), uI (cel d 5), uI (cel d 6), uI (cel d 7)⟩
@[simp] theorem Aew (x : Jf) : Lu (JO x) = x := by simp [Lu, JO, cel, uI]
end Go.Proofs.YtfpgidpffhmadaaDoor
