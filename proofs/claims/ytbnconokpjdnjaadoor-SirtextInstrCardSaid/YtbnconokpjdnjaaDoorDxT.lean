/-
  The types of the data; written by a program (dx.py).
-/
import Derived.Test.YtbnconokpjdnjaaDoorProg
import Derived.Test.YtbnconokpjdnjaaDoorDd
import Derived.KernelRfl
namespace Go.Proofs.YtbnconokpjdnjaaDoor
open Go Go.Dw Go.Proofs
set_option maxRecDepth 100000
set_option maxHeartbeats 40000000
abbrev eI8 (n : Int) : D := .int .i8 n
abbrev UR (n : Int) : D := .int .i16 n
abbrev US (n : Int) : D := .int .i32 n
abbrev TR (n : Int) : D := .int .i64 n
abbrev eU8 (n : Int) : D := .int .u8 n
abbrev UT (n : Int) : D := .int .u16 n
abbrev UU (n : Int) : D := .int .u32 n
abbrev UD (n : Int) : D := .int .u64 n
structure Mk where
  Op : Int
  A : Int
  B : Int
  C : Int
  Imm : Int
 deriving DecidableEq, Inhabited
def Rs (x : Mk) : D := .agg [.int .i64 x.Op, .int .i64 x.A, .int .i64 x.B, .int .i64 x.C, .int .u64 x.Imm]
def TM (x : Mk) : Prop := (RL .i64) x.Op /\ (RL .i64) x.A /\ (RL .i64) x.B /\ (RL .i64) x.C /\ (RL .u64) x.Imm
def SB (d : D) : Mk := ⟨uI (cel d 0), uI (cel d 1), uI (cel d 2), uI (cel d 3), uI (cel d 4)⟩
@[simp] theorem UJ (x : Mk) : SB (Rs x) = x := by simp [SB, Rs, cel, uI]
structure QZ where
  a0 : Int
  a1 : Int
  a2 : Int
 deriving DecidableEq, Inhabited
def QZ.toList (x : QZ) : List Int := [x.a0, x.a1, x.a2]
def QZ.set (x : QZ) (j : Nat) (v : Int) : QZ := ⟨(x.toList.set j v).getD 0 x.a0, (x.toList.set j v).getD 1 x.a1, (x.toList.set j v).getD 2 x.a2⟩
theorem Uy (x : QZ) (j : Nat) (v : Int) : (x.set j v).toList = x.toList.set j v := by
  match j with
  | 0 => rfl
  | 1 => rfl
  | 2 => rfl
  | _ + 3 => rfl
def Tu (x : QZ) : D := .agg [.int .i64 x.a0, .int .i64 x.a1, .int .i64 x.a2]
def UK (x : QZ) : Prop := (RL .i64) x.a0 /\ (RL .i64) x.a1 /\ (RL .i64) x.a2
def Ty (d : D) : QZ := ⟨uI (cel d 0), uI (cel d 1), uI (cel d 2)⟩
@[simp] theorem UC (x : QZ) : Ty (Tu x) = x := by simp [Ty, Tu, cel, uI]
instance : TyE 5 eU8 := ⟨⟩
instance : TyE 24 Rs := ⟨⟩
instance : TyE 9 D.str := ⟨⟩
instance : TyE 3 TR := ⟨⟩
end Go.Proofs.YtbnconokpjdnjaaDoor
