/-
  The types of the data; written by a program (dx.py).
-/
import Derived.Test.YtjjmcedpoolghaaDoorProg
import Derived.Test.YtjjmcedpoolghaaDoorDc
import Derived.KernelRfl
namespace Go.Proofs.YtjjmcedpoolghaaDoor
open Go Go.Dw Go.Proofs
set_option maxRecDepth 100000
abbrev eI8 (n : Int) : D := .int .i8 n
abbrev Aee (n : Int) : D := .int .i16 n
abbrev Aef (n : Int) : D := .int .i32 n
abbrev Kp (n : Int) : D := .int .i64 n
abbrev eU8 (n : Int) : D := .int .u8 n
abbrev Aeg (n : Int) : D := .int .u16 n
abbrev Aeh (n : Int) : D := .int .u32 n
abbrev TE (n : Int) : D := .int .u64 n
structure KL where
  Out : (List (List Int))
deriving DecidableEq, Inhabited
def OM (x : KL) : D := .agg [.sl (x.Out.map (eL Kp))]
def Aed (x : KL) : Prop := (qL (qL (MP .i64))) x.Out
def Xw (d : D) : KL := ⟨(uL (uL uI)) (cel d 0)⟩
@[simp] theorem AdY (x : KL) : Xw (OM x) = x := by simp [Xw, OM, cel, Nd (u := (uL uI)) (en := (eL Kp)) (Nd (u := uI) (en := Kp) (fun _ => rfl))]
structure KP where
  Size : Int
  Align : Int
deriving DecidableEq, Inhabited
def Kv (x : KP) : D := .agg [.int .i64 x.Size, .int .i64 x.Align]
def AdP (x : KP) : Prop := (MP .i64) x.Size ∧ (MP .i64) x.Align
def Ya (d : D) : KP := ⟨uI (cel d 0), uI (cel d 1)⟩
@[simp] theorem Abv (x : KP) : Ya (Kv x) = x := by simp [Ya, Kv, cel, uI]
structure Kq where
  Op : Int
  A : Int
  B : Int
  C : Int
  Imm : Int
deriving DecidableEq, Inhabited
def Kr (x : Kq) : D := .agg [.int .i64 x.Op, .int .i64 x.A, .int .i64 x.B, .int .i64 x.C, .int .u64 x.Imm]
def Adv (x : Kq) : Prop := (MP .i64) x.Op ∧ (MP .i64) x.A ∧ (MP .i64) x.B ∧ (MP .i64) x.C ∧ (MP .u64) x.Imm
def PT (d : D) : Kq := ⟨uI (cel d 0), uI (cel d 1), uI (cel d 2), uI (cel d 3), uI (cel d 4)⟩
@[simp] theorem AaU (x : Kq) : PT (Kr x) = x := by simp [PT, Kr, cel, uI]
structure Ku where
  Params : Int
  Slots : (List KP)
  Code : (List Kq)
deriving DecidableEq, Inhabited
def Lm (x : Ku) : D := .agg [.int .i64 x.Params, .sl (x.Slots.map Kv), .sl (x.Code.map Kr)]
def AdO (x : Ku) : Prop := (MP .i64) x.Params ∧ (qL AdP) x.Slots ∧ (qL Adv) x.Code
def Pu (d : D) : Ku := ⟨uI (cel d 0), (uL Ya) (cel d 1), (uL PT) (cel d 2)⟩
@[simp] theorem Abu (x : Ku) : Pu (Lm x) = x := by simp [Pu, Lm, cel, uI, Nd (u := Ya) (en := Kv) Abv, Nd (u := PT) (en := Kr) AaU]
structure Ks where
  a0 : Int
  a1 : Int
  a2 : Int
  a3 : Int
  a4 : Int
  a5 : Int
  a6 : Int
  a7 : Int
deriving DecidableEq, Inhabited
def Ks.toList (x : Ks) : List Int := [x.a0, x.a1, x.a2, x.a3, x.a4, x.a5, x.a6, x.a7]
def Ks.set (x : Ks) (j : Nat) (v : Int) : Ks := ⟨(x.toList.set j v).getD 0 x.a0, (x.toList.set j v).getD 1 x.a1, (x.toList.set j v).getD 2 x.a2, (x.toList.set j v).getD 3 x.a3, (x.toList.set j v).getD 4 x.a4, (x.toList.set j v).getD 5 x.a5, (x.toList.set j v).getD 6 x.a6, (x.toList.set j v).getD 7 x.a7⟩
theorem Mq (x : Ks) (j : Nat) (v : Int) : (x.set j v).toList = x.toList.set j v := by
  match j with
  | 0 => rfl
  | 1 => rfl
  | 2 => rfl
  | 3 => rfl
  | 4 => rfl
  | 5 => rfl
  | 6 => rfl
  | 7 => rfl
  | _ + 8 => rfl
def Li (x : Ks) : D := .agg [.int .u64 x.a0, .int .u64 x.a1, .int .u64 x.a2, .int .u64 x.a3, .int .u64 x.a4, .int .u64 x.a5, .int .u64 x.a6, .int .u64 x.a7]
def AaN (x : Ks) : Prop := (MP .u64) x.a0 ∧ (MP .u64) x.a1 ∧ (MP .u64) x.a2 ∧ (MP .u64) x.a3 ∧ (MP .u64) x.a4 ∧ (MP .u64) x.a5 ∧ (MP .u64) x.a6 ∧ (MP .u64) x.a7
def MI (d : D) : Ks := ⟨uI (cel d 0), uI (cel d 1), uI (cel d 2), uI (cel d 3), uI (cel d 4), uI (cel d 5), uI (cel d 6), uI (cel d 7)⟩
@[simp] theorem ZB (x : Ks) : MI (Li x) = x := by simp [MI, Li, cel, uI]
structure Ed where
  list : (List Int)
  at_ : Int
deriving DecidableEq, Inhabited
def KO (x : Ed) : D := .agg [.sl (x.list.map eU8), .int .i64 x.at_]
def Adw (x : Ed) : Prop := (qL (MP .u8)) x.list ∧ (MP .i64) x.at_
def LS (d : D) : Ed := ⟨(uL uI) (cel d 0), uI (cel d 1)⟩
@[simp] theorem Aby (x : Ed) : LS (KO x) = x := by simp [LS, KO, cel, uI, Nd (u := uI) (en := eU8) (fun _ => rfl)]
structure MY where
  Funcs : (List Ku)
deriving DecidableEq, Inhabited
def Xd (x : MY) : D := .agg [.sl (x.Funcs.map Lm)]
def AdV (x : MY) : Prop := (qL AdO) x.Funcs
def YA (d : D) : MY := ⟨(uL Pu) (cel d 0)⟩
@[simp] theorem AdQ (x : MY) : YA (Xd x) = x := by simp [YA, Xd, cel, Nd (u := Pu) (en := Lm) Abu]
end Go.Proofs.YtjjmcedpoolghaaDoor
