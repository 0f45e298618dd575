/-
  The types of the data; written by a program (dx.py).
-/
import Derived.Test.YtihomlbcppfngaaProg
import Derived.Test.YtihomlbcppfngaaDx4
import Derived.KernelRfl
namespace Go.Proofs.Ytihomlbcppfngaa
open Go Go.Dw Go.Proofs
set_option maxRecDepth 100000
abbrev eI8 (n : Int) : D := .int .i8 n
abbrev eI16 (n : Int) : D := .int .i16 n
abbrev eI32 (n : Int) : D := .int .i32 n
abbrev eI64 (n : Int) : D := .int .i64 n
abbrev eU8 (n : Int) : D := .int .u8 n
abbrev eU16 (n : Int) : D := .int .u16 n
abbrev eU32 (n : Int) : D := .int .u32 n
abbrev eU64 (n : Int) : D := .int .u64 n
structure TResult where
  Bytes : (List Int)
  Bound : Int
  Err : Int
deriving DecidableEq, Inhabited
def eResult (x : TResult) : D := .agg [.sl (x.Bytes.map eU8), .int .i64 x.Bound, .int .i64 x.Err]
def qResult (x : TResult) : Prop := (qL (qInt .u8)) x.Bytes ∧ (qInt .i64) x.Bound ∧ (qInt .i64) x.Err
def uResult (d : D) : TResult := ⟨(uL uI) (cel d 0), uI (cel d 1), uI (cel d 2)⟩
@[simp] theorem uResult_e (x : TResult) : uResult (eResult x) = x := by simp [uResult, eResult, cel, uI, uBo, uS, uL_e (u := uI) (en := eU8) (fun _ => rfl)]
end Go.Proofs.Ytihomlbcppfngaa
