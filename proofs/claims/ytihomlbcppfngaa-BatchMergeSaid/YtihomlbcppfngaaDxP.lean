/-
  The programs on typed data; written by a program (dx.py).
-/
import Derived.Test.YtihomlbcppfngaaDxT
namespace Go.Proofs.Ytihomlbcppfngaa
open Go Go.Dw Go.Proofs
set_option maxRecDepth 100000
noncomputable def batch_compare_1 (r1 : TResult) : Option (Int) :=
  bif (r1.Err != 0) then
    some 1
  else
    some 0

noncomputable def cmp_Or_int_b1 (vals1 : (List Int)) (x2 : Int) : Option ((Int) ⊕ (Int)) :=
  bif (decide (x2 < (vals1.length : Int))) then
    (ixO vals1 x2).bind fun x_x3 =>
    bif (x_x3 != 0) then
      lft (some x_x3)
    else
      cnt (IntKind.i64.wrap (x2 + 1))
  else
    lft (some 0)
noncomputable def cmp_Or_int (vals1 : (List Int)) : Option (Int) :=
  LoopT (fun s => cmp_Or_int_b1 vals1 s) 0

noncomputable def cmp_isNaN_int (x1 : Int) : Option (Bool) :=
  some (x1 != x1)

noncomputable def cmp_Compare_int (x1 : Int) (y2 : Int) : Option (Int) :=
  (cmp_isNaN_int x1).bind fun r3 =>
  (cmp_isNaN_int y2).bind fun r4 =>
  bif r3 then
    bif r4 then
      some 0
    else
      some (-1)
  else
    bif r4 then
      some 1
    else
      bif (decide (x1 < y2)) then
        some (-1)
      else
        bif (decide (x1 > y2)) then
          some 1
        else
          some 0

noncomputable def batch_compare (a1 : TResult) (b2 : TResult) : Option (Int) :=
  (batch_compare_1 a1).bind fun r3 =>
  (batch_compare_1 b2).bind fun r4 =>
  (cmp_Compare_int r3 r4).bind fun r5 =>
  (cmp_Compare_int a1.Bound b2.Bound).bind fun r6 =>
  (cmp_Compare_int (a1.Bytes.length : Int) (b2.Bytes.length : Int)).bind fun r7 =>
  (cmp_Or_int ([r5, r6, r7] : List Int)).bind fun r8 =>
  some r8

noncomputable def batch_Merge_j2 (b2 : (List TResult)) (x4 : Int) (out3 : List TResult) (a1 : (List TResult)) (x6 : Bool) : Option (((List TResult) × Int) ⊕ ((List TResult))) :=
  bif x6 then
    (ixO b2 x4).bind fun x_x10 =>
    chk (out3.length + ([x_x10] : List TResult).length ≤ 16777216) <|
    cnt (out3 ++ ([x_x10] : List TResult), IntKind.i64.wrap (x4 + 1))
  else
    (ixO a1 x4).bind fun x_x11 =>
    chk (out3.length + ([x_x11] : List TResult).length ≤ 16777216) <|
    cnt (out3 ++ ([x_x11] : List TResult), IntKind.i64.wrap (x4 + 1))
noncomputable def batch_Merge_b1 (a1 : (List TResult)) (b2 : (List TResult)) (out3 : List TResult) (x4 : Int) : Option (((List TResult) × Int) ⊕ ((List TResult))) :=
  bif (decide (x4 < (maxI (a1.length : Int) (b2.length : Int)))) then
    bif (decide (x4 ≥ (b2.length : Int))) then
      (ixO a1 x4).bind fun x_x5 =>
      chk (out3.length + ([x_x5] : List TResult).length ≤ 16777216) <|
      cnt (out3 ++ ([x_x5] : List TResult), IntKind.i64.wrap (x4 + 1))
    else
      bif (decide (x4 ≥ (a1.length : Int))) then
        batch_Merge_j2 b2 x4 out3 a1 true
      else
        (ixO b2 x4).bind fun x_x7 =>
        (ixO a1 x4).bind fun x_x8 =>
        (batch_compare x_x7 x_x8).bind fun r9 =>
        batch_Merge_j2 b2 x4 out3 a1 (decide (r9 < 0))
  else
    lft (some out3)
noncomputable def batch_Merge (a1 : (List TResult)) (b2 : (List TResult)) : Option ((List TResult)) :=
  LoopT (fun s => batch_Merge_b1 a1 b2 s.1 s.2) (([] : List TResult), 0)

noncomputable def law34_awake  : Option (Bool) :=
  (batch_Merge ([(TResult.mk ([]) 0 8)] : List TResult) ([(TResult.mk ([]) 16 0)] : List TResult)).bind fun r1 =>
  bif ((r1.length : Int) == 1) then
    chk (0 ≤ (0 : Int) ∧ (0 : Int) < r1.length) <|
    ((r1)[(0 : Int).toNat]?).bind fun l_e2 =>
    some (l_e2.Bound == 16)
  else
    some false

noncomputable def ref01_SameBytes_b1 (a1 : (List Int)) (b2 : (List Int)) (i3 : Int) : Option ((Int) ⊕ (Bool)) :=
  bif (decide (i3 < (a1.length : Int))) then
    (ixO a1 i3).bind fun x_x4 =>
    (ixO b2 i3).bind fun x_x5 =>
    bif (x_x4 != x_x5) then
      lft (some false)
    else
      cnt (IntKind.i64.wrap (i3 + 1))
  else
    lft (some true)
noncomputable def ref01_SameBytes (a1 : (List Int)) (b2 : (List Int)) : Option (Bool) :=
  bif ((a1.length : Int) != (b2.length : Int)) then
    some false
  else
    LoopT (fun s => ref01_SameBytes_b1 a1 b2 s) 0

noncomputable def ref34_Same_b1 (a1 : (List TResult)) (b2 : (List TResult)) (i3 : Int) : Option ((Int) ⊕ (Bool)) :=
  bif (decide (i3 < (a1.length : Int))) then
    (ixO a1 i3).bind fun x_x4 =>
    (ixO b2 i3).bind fun x_x5 =>
    bif (x_x4.Bound != x_x5.Bound) then
      lft (some false)
    else
      (ixO a1 i3).bind fun x_x6 =>
      (ixO b2 i3).bind fun x_x7 =>
      bif (x_x6.Err != x_x7.Err) then
        lft (some false)
      else
        (ixO a1 i3).bind fun x_x8 =>
        (ixO b2 i3).bind fun x_x9 =>
        (ref01_SameBytes x_x8.Bytes x_x9.Bytes).bind fun r10 =>
        bif (!r10) then
          lft (some false)
        else
          cnt (IntKind.i64.wrap (i3 + 1))
  else
    lft (some true)
noncomputable def ref34_Same (a1 : (List TResult)) (b2 : (List TResult)) : Option (Bool) :=
  bif ((a1.length : Int) != (b2.length : Int)) then
    some false
  else
    LoopT (fun s => ref34_Same_b1 a1 b2 s) 0

noncomputable def ref34_better (a1 : TResult) (b2 : TResult) : Option (Bool) :=
  bif (!((a1.Err == 0) == (b2.Err == 0))) then
    some (a1.Err == 0)
  else
    bif (decide (a1.Bound < b2.Bound)) then
      some true
    else
      bif (a1.Bound == b2.Bound) then
        some (decide ((a1.Bytes.length : Int) < (b2.Bytes.length : Int)))
      else
        some false

noncomputable def ref34_Merge_j3 (b2 : (List TResult)) (i4 : Int) (out3 : List TResult) (a1 : (List TResult)) (x5 : Bool) : Option (((List TResult) × Int) ⊕ ((List TResult))) :=
  bif x5 then
    (ixO b2 i4).bind fun x_x9 =>
    chk (out3.length + ([x_x9] : List TResult).length ≤ 16777216) <|
    cnt (out3 ++ ([x_x9] : List TResult), IntKind.i64.wrap (i4 + 1))
  else
    (ixO a1 i4).bind fun x_x10 =>
    chk (out3.length + ([x_x10] : List TResult).length ≤ 16777216) <|
    cnt (out3 ++ ([x_x10] : List TResult), IntKind.i64.wrap (i4 + 1))
noncomputable def ref34_Merge_j2 (i4 : Int) (a1 : (List TResult)) (b2 : (List TResult)) (out3 : List TResult) : Option (((List TResult) × Int) ⊕ ((List TResult))) :=
  bif (decide (i4 ≥ (a1.length : Int))) then
    ref34_Merge_j3 b2 i4 out3 a1 true
  else
    bif (decide (i4 < (b2.length : Int))) then
      (ixO b2 i4).bind fun x_x6 =>
      (ixO a1 i4).bind fun x_x7 =>
      (ref34_better x_x6 x_x7).bind fun r8 =>
      ref34_Merge_j3 b2 i4 out3 a1 r8
    else
      ref34_Merge_j3 b2 i4 out3 a1 false
noncomputable def ref34_Merge_b1 (a1 : (List TResult)) (b2 : (List TResult)) (out3 : List TResult) (i4 : Int) : Option (((List TResult) × Int) ⊕ ((List TResult))) :=
  bif (decide (i4 < (a1.length : Int))) then
    ref34_Merge_j2 i4 a1 b2 out3
  else
    bif (decide (i4 < (b2.length : Int))) then
      ref34_Merge_j2 i4 a1 b2 out3
    else
      lft (some out3)
noncomputable def ref34_Merge (a1 : (List TResult)) (b2 : (List TResult)) : Option ((List TResult)) :=
  LoopT (fun s => ref34_Merge_b1 a1 b2 s.1 s.2) (([] : List TResult), 0)

noncomputable def law34_BatchMerge_j1 (a1 : (List TResult)) (b2 : (List TResult)) : Option (Bool) :=
  (batch_Merge a1 b2).bind fun r5 =>
  (ref34_Merge a1 b2).bind fun r6 =>
  (ref34_Same r5 r6).bind fun r7 =>
  bif r7 then
    (batch_Merge a1 a1).bind fun r8 =>
    (ref34_Same r8 a1).bind fun r9 =>
    bif r9 then
      (batch_Merge a1 ([])).bind fun r10 =>
      (ref34_Same r10 a1).bind fun r11 =>
      bif r11 then
        (batch_Merge ([]) b2).bind fun r12 =>
        (ref34_Same r12 b2).bind fun r13 =>
        some r13
      else
        some false
    else
      some false
  else
    some false
noncomputable def law34_BatchMerge_j2 (a1 : (List TResult)) (b2 : (List TResult)) (x3 : Bool) : Option (Bool) :=
  bif x3 then
    bif (decide ((a1.length : Int) > 100)) then
      some true
    else
      some (decide ((b2.length : Int) > 100))
  else
    law34_BatchMerge_j1 a1 b2
noncomputable def law34_BatchMerge (a1 : (List TResult)) (b2 : (List TResult)) : Option (Bool) :=
  (law34_awake).bind fun r4 =>
  bif (!r4) then
    law34_BatchMerge_j2 a1 b2 true
  else
    bif (decide ((a1.length : Int) > 100)) then
      law34_BatchMerge_j2 a1 b2 true
    else
      law34_BatchMerge_j2 a1 b2 (decide ((b2.length : Int) > 100))

end Go.Proofs.Ytihomlbcppfngaa
