/-
  The programs on typed data; written by a program (dx.py).
-/
import Derived.Test.YtihomlbcppfngaaDxT
namespace Go.Proofs.Ytihomlbcppfngaa
open Go Go.Dw Go.Proofs
set_option maxRecDepth 100000
noncomputable def slices_Index_2_int_2_int_b1 (s1 : (List TA2_Int)) (v2 : TA2_Int) (x3 : Int) : Option ((Int) ⊕ (Int)) :=
  bif (decide (x3 < (s1.length : Int))) then
    (ixO s1 x3).bind fun x_x4 =>
    bif ((v2.a0 == x_x4.a0) && ((v2.a1 == x_x4.a1) && true)) then
      lft (some x3)
    else
      cnt (IntKind.i64.wrap (x3 + 1))
  else
    lft (some (-1))
noncomputable def slices_Index_2_int_2_int (s1 : (List TA2_Int)) (v2 : TA2_Int) : Option (Int) :=
  LoopT (fun s => slices_Index_2_int_2_int_b1 s1 v2 s) 0

noncomputable def slices_Contains_2_int_2_int (s1 : (List TA2_Int)) (v2 : TA2_Int) : Option (Bool) :=
  (slices_Index_2_int_2_int s1 v2).bind fun r3 =>
  some (decide (r3 ≥ 0))

noncomputable def interfere_Moves_b1 (f1 : TFunc) (l2 : List TA2_Int) (x3 : Int) : Option (((List TA2_Int) × Int) ⊕ ((List TA2_Int))) :=
  bif (decide (x3 < (f1.Code.length : Int))) then
    (ixO f1.Code x3).bind fun x_x4 =>
    bif (x_x4.Op == 17) then
      bif (x_x4.A != x_x4.B) then
        (slices_Contains_2_int_2_int l2 (TA2_Int.mk x_x4.A x_x4.B)).bind fun r5 =>
        bif (!r5) then
          chk (l2.length + ([(TA2_Int.mk x_x4.A x_x4.B)] : List TA2_Int).length ≤ 16777216) <|
          cnt (l2 ++ ([(TA2_Int.mk x_x4.A x_x4.B)] : List TA2_Int), IntKind.i64.wrap (x3 + 1))
        else
          cnt (l2, IntKind.i64.wrap (x3 + 1))
      else
        cnt (l2, IntKind.i64.wrap (x3 + 1))
    else
      cnt (l2, IntKind.i64.wrap (x3 + 1))
  else
    lft (some l2)
noncomputable def interfere_Moves (f1 : TFunc) : Option ((List TA2_Int)) :=
  LoopT (fun s => interfere_Moves_b1 f1 s.1 s.2) (([] : List TA2_Int), 0)

noncomputable def law18_awake  : Option (Bool) :=
  (interfere_Moves (TFunc.mk 0 ([(TSlot.mk 8 8), (TSlot.mk 8 8)] : List TSlot) ([(TInstr.mk 17 0 1 0 0), (TInstr.mk 23 0 0 0 0)] : List TInstr))).bind fun r1 =>
  some ((r1.length : Int) == 1)

noncomputable def draw_New (list1 : (List Int)) (limit2 : Int) : Option (Tdraw_Codes) :=
  chk (0 ≤ (minI (list1.length : Int) limit2) ∧ (minI (list1.length : Int) limit2) ≤ list1.length) <|
  some (Tdraw_Codes.mk (list1.take (minI (list1.length : Int) limit2).toNat) 0)

noncomputable def ref04_good (n1 : Int) : Option (Bool) :=
  bif (decide (n1 ≥ 0)) then
    some (decide (n1 < 512))
  else
    some false

noncomputable def ref04_Add_j2 (s1 : (List Int)) (i6 : Int) (out7 : List Int) (done8 : Bool) : Option (((List Int) × Bool × Int) ⊕ ((List Int))) :=
  (ixO s1 i6).bind fun x_x12 =>
  chk (out7.length + ([x_x12] : List Int).length ≤ 16777216) <|
  cnt (out7 ++ ([x_x12] : List Int), done8, IntKind.i64.wrap (i6 + 1))
noncomputable def ref04_Add_j3 (s1 : (List Int)) (i6 : Int) (n2 : Int) (out4 : List Int) (done5 : Bool) (x9 : Bool) : Option (((List Int) × Bool × Int) ⊕ ((List Int))) :=
  bif x9 then
    (ixO s1 i6).bind fun x_x11 =>
    bif (decide (x_x11 > n2)) then
      chk (out4.length + ([n2] : List Int).length ≤ 16777216) <|
      ref04_Add_j2 s1 i6 (out4 ++ ([n2] : List Int)) true
    else
      ref04_Add_j2 s1 i6 out4 true
  else
    ref04_Add_j2 s1 i6 out4 done5
noncomputable def ref04_Add_b1 (s1 : (List Int)) (n2 : Int) (out4 : List Int) (done5 : Bool) (i6 : Int) : Option (((List Int) × Bool × Int) ⊕ ((List Int))) :=
  bif (decide (i6 < (s1.length : Int))) then
    bif (!done5) then
      (ixO s1 i6).bind fun x_x10 =>
      ref04_Add_j3 s1 i6 n2 out4 done5 (decide (x_x10 ≥ n2))
    else
      ref04_Add_j3 s1 i6 n2 out4 done5 false
  else
    lft (
      bif (!done5) then
        chk (out4.length + ([n2] : List Int).length ≤ 16777216) <|
        some (out4 ++ ([n2] : List Int))
      else
        some out4)
noncomputable def ref04_Add (s1 : (List Int)) (n2 : Int) : Option ((List Int)) :=
  (ref04_good n2).bind fun r3 =>
  LoopT (fun s => ref04_Add_b1 s1 n2 s.1 s.2.1 s.2.2) (([] : List Int), (!r3), 0)

noncomputable def draw_Codes_Left (c1 : Tdraw_Codes) : Option (Bool × Tdraw_Codes) :=
  some ((decide (c1.at_ < (c1.list.length : Int))), c1)

noncomputable def draw_Codes_Next_j1 (n2 : Int) (c3 : List Int) (c4 : Int) : Option (Int × Tdraw_Codes) :=
  (ixO c3 c4).bind fun x_x6 =>
  some (IntKind.i64.wrap ((IntKind.i64.wrap ((IntKind.i64.wrap (x_x6)) * n2)).tdiv 256), (Tdraw_Codes.mk c3 (IntKind.i64.wrap (c4 + 1))))
noncomputable def draw_Codes_Next (c1 : Tdraw_Codes) (n2 : Int) : Option (Int × Tdraw_Codes) :=
  (draw_Codes_Left c1).bind fun r5 =>
  bif (!r5.1) then
    some (0, r5.2)
  else
    bif (decide (n2 < 1)) then
      some (0, r5.2)
    else
      draw_Codes_Next_j1 n2 r5.2.list r5.2.at_

noncomputable def draw_Codes_Graph_j6 (i8 : Int) (g15 : List (List Int)) (j20 : Int) (c18 : List Int) (c19 : Int) (k16 : Int) (x23 : Bool) : Option (((List Int) × Int × (List (List Int)) × Int) ⊕ (((List Int) × Int × (List (List Int)) × Int) ⊕ ((List (List Int)) × Tdraw_Codes))) :=
  bif x23 then
    chk (0 ≤ i8 ∧ i8 < g15.length) <|
    ((g15)[i8.toNat]?).bind fun g_e24 =>
    (ref04_Add g_e24 j20).bind fun r25 =>
    chk (0 ≤ i8 ∧ i8 < g15.length) <|
    ((g15)[i8.toNat]?).bind fun g_o26 =>
    cnt (c18, c19, g15.set i8.toNat r25, IntKind.i64.wrap (k16 - 1))
  else
    cnt (c18, c19, g15, IntKind.i64.wrap (k16 - 1))
noncomputable def draw_Codes_Graph_j4 (free3 : Bool) (i8 : Int) (g15 : List (List Int)) (k16 : Int) (r4 : Int × Tdraw_Codes) (c18 : List Int) (c19 : Int) (j20 : Int) : Option (((List Int) × Int × (List (List Int)) × Int) ⊕ (((List Int) × Int × (List (List Int)) × Int) ⊕ ((List (List Int)) × Tdraw_Codes))) :=
  bif (!free3) then
    draw_Codes_Graph_j6 i8 g15 j20 c18 c19 k16 true
  else
    draw_Codes_Graph_j6 i8 g15 j20 c18 c19 k16 (decide ((IntKind.i64.wrap (i8 + 1)) < (IntKind.i64.wrap (1 + r4.1))))
noncomputable def draw_Codes_Graph_j5 (r17 : Int × Tdraw_Codes) (r4 : Int × Tdraw_Codes) (i8 : Int) (free3 : Bool) (g15 : List (List Int)) (k16 : Int) (x21 : Bool) : Option (((List Int) × Int × (List (List Int)) × Int) ⊕ (((List Int) × Int × (List (List Int)) × Int) ⊕ ((List (List Int)) × Tdraw_Codes))) :=
  bif x21 then
    (draw_Codes_Next r17.2 (IntKind.i64.wrap ((IntKind.i64.wrap ((IntKind.i64.wrap (1 + r4.1)) - i8)) - 1))).bind fun r22 =>
    draw_Codes_Graph_j4 free3 i8 g15 k16 r4 r22.2.list r22.2.at_ (IntKind.i64.wrap ((IntKind.i64.wrap (i8 + 1)) + r22.1))
  else
    draw_Codes_Graph_j4 free3 i8 g15 k16 r4 r17.2.list r17.2.at_ r17.1
noncomputable def draw_Codes_Graph_j2 (i8 : Int) (c9 : List Int) (c10 : Int) (g11 : List (List Int)) : Option (((List Int) × Int × (List (List Int)) × Int) ⊕ ((List (List Int)) × Tdraw_Codes)) :=
  cnt (c9, c10, g11, IntKind.i64.wrap (i8 + 1))
noncomputable def draw_Codes_Graph_b3 (r4 : Int × Tdraw_Codes) (free3 : Bool) (i8 : Int) (c13 : List Int) (c14 : Int) (g15 : List (List Int)) (k16 : Int) : Option (((List Int) × Int × (List (List Int)) × Int) ⊕ (((List Int) × Int × (List (List Int)) × Int) ⊕ ((List (List Int)) × Tdraw_Codes))) :=
  bif (decide (k16 > 0)) then
    (draw_Codes_Next (Tdraw_Codes.mk c13 c14) (IntKind.i64.wrap (1 + r4.1))).bind fun r17 =>
    bif free3 then
      draw_Codes_Graph_j5 r17 r4 i8 free3 g15 k16 (decide ((IntKind.i64.wrap (i8 + 1)) < (IntKind.i64.wrap (1 + r4.1))))
    else
      draw_Codes_Graph_j5 r17 r4 i8 free3 g15 k16 false
  else
    lft (draw_Codes_Graph_j2 i8 c13 c14 g15)
noncomputable def draw_Codes_Graph_b1 (r4 : Int × Tdraw_Codes) (free3 : Bool) (c5 : List Int) (c6 : Int) (g7 : List (List Int)) (i8 : Int) : Option (((List Int) × Int × (List (List Int)) × Int) ⊕ ((List (List Int)) × Tdraw_Codes)) :=
  bif (decide (i8 < (IntKind.i64.wrap (1 + r4.1)))) then
    (draw_Codes_Next (Tdraw_Codes.mk c5 c6) 4).bind fun r12 =>
    LoopT (fun s => draw_Codes_Graph_b3 r4 free3 i8 s.1 s.2.1 s.2.2.1 s.2.2.2) (r12.2.list, r12.2.at_, g7, r12.1)
  else
    lft (some (g7, (Tdraw_Codes.mk c5 c6)))
noncomputable def draw_Codes_Graph (c1 : Tdraw_Codes) (most2 : Int) (free3 : Bool) : Option ((List (List Int)) × Tdraw_Codes) :=
  (draw_Codes_Next c1 most2).bind fun r4 =>
  chk (0 ≤ (IntKind.i64.wrap (1 + r4.1)) ∧ (IntKind.i64.wrap (1 + r4.1)) ≤ 16777216) <|
  LoopT (fun s => draw_Codes_Graph_b1 r4 free3 s.1 s.2.1 s.2.2.1 s.2.2.2) (r4.2.list, r4.2.at_, List.replicate (IntKind.i64.wrap (1 + r4.1)).toNat ([] : List Int), 0)

noncomputable def bitset_within_int (n1 : Int) : Option (Bool) :=
  bif (decide (n1 ≥ 0)) then
    some (decide (n1 < 512))
  else
    some false

noncomputable def bitset_Check_b1 (s1 : (List Int)) (x2 : Int) : Option ((Int) ⊕ (Bool)) :=
  bif (decide (x2 < (s1.length : Int))) then
    (ixO s1 x2).bind fun x_x3 =>
    (bitset_within_int x_x3).bind fun r4 =>
    bif (!r4) then
      lft (some false)
    else
      bif (decide (x2 > 0)) then
        (ixO s1 (IntKind.i64.wrap (x2 - 1))).bind fun x_x5 =>
        bif (decide (x_x3 ≤ x_x5)) then
          lft (some false)
        else
          cnt (IntKind.i64.wrap (x2 + 1))
      else
        cnt (IntKind.i64.wrap (x2 + 1))
  else
    lft (some true)
noncomputable def bitset_Check (s1 : (List Int)) : Option (Bool) :=
  LoopT (fun s => bitset_Check_b1 s1 s) 0

noncomputable def slices_Index_int_int_b1 (s1 : (List Int)) (v2 : Int) (x3 : Int) : Option ((Int) ⊕ (Int)) :=
  bif (decide (x3 < (s1.length : Int))) then
    (ixO s1 x3).bind fun x_x4 =>
    bif (v2 == x_x4) then
      lft (some x3)
    else
      cnt (IntKind.i64.wrap (x3 + 1))
  else
    lft (some (-1))
noncomputable def slices_Index_int_int (s1 : (List Int)) (v2 : Int) : Option (Int) :=
  LoopT (fun s => slices_Index_int_int_b1 s1 v2 s) 0

noncomputable def slices_Contains_int_int (s1 : (List Int)) (v2 : Int) : Option (Bool) :=
  (slices_Index_int_int s1 v2).bind fun r3 =>
  some (decide (r3 ≥ 0))

noncomputable def cmp_isNaN_int (x1 : Int) : Option (Bool) :=
  some (x1 != x1)

noncomputable def cmp_Less_int (x1 : Int) (y2 : Int) : Option (Bool) :=
  (cmp_isNaN_int x1).bind fun r3 =>
  bif r3 then
    (cmp_isNaN_int y2).bind fun r4 =>
    bif (!r4) then
      some true
    else
      some (decide (x1 < y2))
  else
    some (decide (x1 < y2))

noncomputable def slices_isNaN_int (x1 : Int) : Option (Bool) :=
  some (x1 != x1)

noncomputable def slices_BinarySearch_int_int_j1 (x1 : (List Int)) (target2 : Int) (i3 : Int) : Option (Int × Bool) :=
  bif (decide (i3 < (x1.length : Int))) then
    (ixO x1 i3).bind fun x_x8 =>
    bif (x_x8 == target2) then
      some (i3, true)
    else
      (ixO x1 i3).bind fun x_x9 =>
      (slices_isNaN_int x_x9).bind fun r10 =>
      bif r10 then
        (slices_isNaN_int target2).bind fun r11 =>
        some (i3, r11)
      else
        some (i3, false)
  else
    some (i3, false)
noncomputable def slices_BinarySearch_int_int_b2 (x1 : (List Int)) (target2 : Int) (i4 : Int) (j5 : Int) : Option ((Int × Int) ⊕ (Int × Bool)) :=
  bif (decide (i4 < j5)) then
    (ixO x1 (IntKind.i64.wrap ((IntKind.u64.wrap (IntKind.i64.wrap (i4 + j5))).fdiv (2 ^ (Nat.min (1 : Int).toNat IntKind.u64.bits))))).bind fun x_x6 =>
    (cmp_Less_int x_x6 target2).bind fun r7 =>
    bif r7 then
      cnt (IntKind.i64.wrap ((IntKind.i64.wrap ((IntKind.u64.wrap (IntKind.i64.wrap (i4 + j5))).fdiv (2 ^ (Nat.min (1 : Int).toNat IntKind.u64.bits)))) + 1), j5)
    else
      cnt (i4, IntKind.i64.wrap ((IntKind.u64.wrap (IntKind.i64.wrap (i4 + j5))).fdiv (2 ^ (Nat.min (1 : Int).toNat IntKind.u64.bits))))
  else
    lft (slices_BinarySearch_int_int_j1 x1 target2 i4)
noncomputable def slices_BinarySearch_int_int (x1 : (List Int)) (target2 : Int) : Option (Int × Bool) :=
  LoopT (fun s => slices_BinarySearch_int_int_b2 x1 target2 s.1 s.2) (0, (x1.length : Int))

noncomputable def interfere_Check_b3 (x_x10 : (List Int)) (g1 : (List (List Int))) (x9 : Int) (x11 : Int) : Option ((Int) ⊕ ((Int) ⊕ (Bool))) :=
  bif (decide (x11 < (x_x10.length : Int))) then
    (ixO x_x10 x11).bind fun x_x12 =>
    (ixO g1 x_x12).bind fun x_x13 =>
    (slices_BinarySearch_int_int x_x13 x9).bind fun r14 =>
    bif (!r14.2) then
      lft (lft (some false))
    else
      cnt (IntKind.i64.wrap (x11 + 1))
  else
    lft (cnt (IntKind.i64.wrap (x9 + 1)))
noncomputable def interfere_Check_b2 (g1 : (List (List Int))) (x9 : Int) : Option ((Int) ⊕ (Bool)) :=
  bif (decide (x9 < (g1.length : Int))) then
    (ixO g1 x9).bind fun x_x10 =>
    LoopT (fun s => interfere_Check_b3 x_x10 g1 x9 s) 0
  else
    lft (some true)
noncomputable def interfere_Check_b1 (g1 : (List (List Int))) (n2 : Int) (x3 : Int) : Option ((Int) ⊕ (Bool)) :=
  bif (decide (x3 < (g1.length : Int))) then
    (ixO g1 x3).bind fun x_x4 =>
    (bitset_Check x_x4).bind fun r5 =>
    bif (!r5) then
      lft (some false)
    else
      bif (decide ((x_x4.length : Int) > 0)) then
        (ixO x_x4 (IntKind.i64.wrap ((x_x4.length : Int) - 1))).bind fun x_x6 =>
        bif (decide (x_x6 ≥ n2)) then
          lft (some false)
        else
          (slices_Contains_int_int x_x4 x3).bind fun r7 =>
          bif r7 then
            lft (some false)
          else
            cnt (IntKind.i64.wrap (x3 + 1))
      else
        (slices_Contains_int_int x_x4 x3).bind fun r8 =>
        bif r8 then
          lft (some false)
        else
          cnt (IntKind.i64.wrap (x3 + 1))
  else
    lft (LoopT (fun s => interfere_Check_b2 g1 s) 0)
noncomputable def interfere_Check (g1 : (List (List Int))) (n2 : Int) : Option (Bool) :=
  bif ((g1.length : Int) != n2) then
    some false
  else
    LoopT (fun s => interfere_Check_b1 g1 n2 s) 0

noncomputable def ref04_Check_b1 (s1 : (List Int)) (i2 : Int) : Option ((Int) ⊕ (Bool)) :=
  bif (decide (i2 < (s1.length : Int))) then
    (ixO s1 i2).bind fun x_x3 =>
    (ref04_good x_x3).bind fun r4 =>
    bif (!r4) then
      lft (some false)
    else
      bif (decide (i2 > 0)) then
        (ixO s1 i2).bind fun x_x5 =>
        (ixO s1 (IntKind.i64.wrap (i2 - 1))).bind fun x_x6 =>
        bif (decide (x_x5 ≤ x_x6)) then
          lft (some false)
        else
          cnt (IntKind.i64.wrap (i2 + 1))
      else
        cnt (IntKind.i64.wrap (i2 + 1))
  else
    lft (some true)
noncomputable def ref04_Check (s1 : (List Int)) : Option (Bool) :=
  LoopT (fun s => ref04_Check_b1 s1 s) 0

noncomputable def ref04_Has_b1 (s1 : (List Int)) (n2 : Int) (i3 : Int) : Option ((Int) ⊕ (Bool)) :=
  bif (decide (i3 < (s1.length : Int))) then
    (ixO s1 i3).bind fun x_x4 =>
    bif (x_x4 == n2) then
      lft (some true)
    else
      cnt (IntKind.i64.wrap (i3 + 1))
  else
    lft (some false)
noncomputable def ref04_Has (s1 : (List Int)) (n2 : Int) : Option (Bool) :=
  LoopT (fun s => ref04_Has_b1 s1 n2 s) 0

noncomputable def ref18_Check_j2 (x3 : Int) (x4 : (List Int)) (x5 : List Int) (x6 : Bool) : Option ((Int) ⊕ (Bool)) :=
  cnt (IntKind.i64.wrap (x3 + 1))
noncomputable def ref18_Check_b4 (g1 : (List (List Int))) (x3 : Int) (n2 : Int) (x7 : (List Int)) (x8 : List Int) (x9 : Bool) (i14 : Int) : Option ((Int) ⊕ ((Int) ⊕ (Bool))) :=
  (ixO g1 x3).bind fun x_x15 =>
  bif (decide (i14 < (x_x15.length : Int))) then
    (ixO g1 x3).bind fun x_x16 =>
    (ixO x_x16 i14).bind fun x_x17 =>
    bif (decide (x_x17 ≥ n2)) then
      lft (lft (some false))
    else
      (ixO g1 x_x17).bind fun x_x18 =>
      (ref04_Has x_x18 x3).bind fun r19 =>
      bif (!r19) then
        lft (lft (some false))
      else
        cnt (IntKind.i64.wrap (i14 + 1))
  else
    lft (ref18_Check_j2 x3 x7 x8 x9)
noncomputable def ref18_Check_j3 (g1 : (List (List Int))) (x3 : Int) (n2 : Int) (x7 : (List Int)) (x8 : List Int) (x9 : Bool) : Option ((Int) ⊕ (Bool)) :=
  LoopT (fun s => ref18_Check_b4 g1 x3 n2 x7 x8 x9 s) 0
noncomputable def ref18_Check_b1 (n2 : Int) (g1 : (List (List Int))) (x3 : Int) : Option ((Int) ⊕ (Bool)) :=
  bif (decide (x3 < n2)) then
    (ixO g1 x3).bind fun x_x10 =>
    (ref04_Check x_x10).bind fun r11 =>
    bif (!r11) then
      lft (some false)
    else
      (ixO g1 x3).bind fun x_x12 =>
      (ref04_Has x_x12 x3).bind fun r13 =>
      bif r13 then
        lft (some false)
      else
        ref18_Check_j3 g1 x3 n2 x_x12 x_x12 r13
  else
    lft (some true)
noncomputable def ref18_Check (g1 : (List (List Int))) (n2 : Int) : Option (Bool) :=
  bif ((g1.length : Int) != n2) then
    some false
  else
    LoopT (fun s => ref18_Check_b1 n2 g1 s) 0

noncomputable def interfere_Degree_b1 (g1 : (List (List Int))) (n2 : Int) (x3 : Int) : Option ((Int × Int) ⊕ (Int)) :=
  bif (decide (x3 < (g1.length : Int))) then
    (ixO g1 x3).bind fun x_x4 =>
    cnt (maxI n2 (x_x4.length : Int), IntKind.i64.wrap (x3 + 1))
  else
    lft (some n2)
noncomputable def interfere_Degree (g1 : (List (List Int))) : Option (Int) :=
  LoopT (fun s => interfere_Degree_b1 g1 s.1 s.2) (0, 0)

noncomputable def ref18_Degree_b1 (g1 : (List (List Int))) (n2 : Int) (x3 : Int) : Option ((Int × Int) ⊕ (Int)) :=
  bif (decide (x3 < (g1.length : Int))) then
    (ixO g1 x3).bind fun x_x4 =>
    cnt (maxI n2 (x_x4.length : Int), IntKind.i64.wrap (x3 + 1))
  else
    lft (some n2)
noncomputable def ref18_Degree (g1 : (List (List Int))) : Option (Int) :=
  LoopT (fun s => ref18_Degree_b1 g1 s.1 s.2) (0, 0)

noncomputable def law18_InterfereCheck_j3 (i8 : Int) (y9 : List (List Int)) : Option (((List (List Int)) × Int) ⊕ (Bool)) :=
  cnt (y9, IntKind.i64.wrap (i8 + 1))
noncomputable def law18_InterfereCheck_b4 (i8 : Int) (r6 : (List (List Int)) × Tdraw_Codes) (y10 : List (List Int)) (k11 : Int) : Option (((List (List Int)) × Int) ⊕ (((List (List Int)) × Int) ⊕ (Bool))) :=
  chk (0 ≤ i8 ∧ i8 < r6.1.length) <|
  ((r6.1)[i8.toNat]?).bind fun x_e12 =>
  bif (decide (k11 < (x_e12.length : Int))) then
    chk (0 ≤ i8 ∧ i8 < r6.1.length) <|
    ((r6.1)[i8.toNat]?).bind fun x_e13 =>
    (ixO x_e13 k11).bind fun x_x14 =>
    bif (x_x14 != i8) then
      chk (0 ≤ i8 ∧ i8 < y10.length) <|
      ((y10)[i8.toNat]?).bind fun y_e15 =>
      (ref04_Add y_e15 x_x14).bind fun r16 =>
      chk (0 ≤ x_x14 ∧ x_x14 < y10.length) <|
      ((y10)[x_x14.toNat]?).bind fun y_e17 =>
      (ref04_Add y_e17 i8).bind fun r18 =>
      chk (0 ≤ i8 ∧ i8 < y10.length) <|
      ((y10)[i8.toNat]?).bind fun y_o19 =>
      chk (0 ≤ x_x14 ∧ x_x14 < (y10.set i8.toNat r16).length) <|
      ((y10.set i8.toNat r16)[x_x14.toNat]?).bind fun y_o20 =>
      cnt ((y10.set i8.toNat r16).set x_x14.toNat r18, IntKind.i64.wrap (k11 + 1))
    else
      cnt (y10, IntKind.i64.wrap (k11 + 1))
  else
    lft (law18_InterfereCheck_j3 i8 y10)
noncomputable def law18_InterfereCheck_b2 (r6 : (List (List Int)) × Tdraw_Codes) (g1 : (List (List Int))) (n2 : Int) (y7 : List (List Int)) (i8 : Int) : Option (((List (List Int)) × Int) ⊕ (Bool)) :=
  bif (decide (i8 < (r6.1.length : Int))) then
    LoopT (fun s => law18_InterfereCheck_b4 i8 r6 s.1 s.2) (y7, 0)
  else
    lft (
      (interfere_Check g1 n2).bind fun r21 =>
      (ref18_Check g1 n2).bind fun r22 =>
      bif (r21 == r22) then
        (interfere_Check g1 (g1.length : Int)).bind fun r23 =>
        (ref18_Check g1 (g1.length : Int)).bind fun r24 =>
        bif (r23 == r24) then
          (interfere_Check r6.1 (r6.1.length : Int)).bind fun r25 =>
          (ref18_Check r6.1 (r6.1.length : Int)).bind fun r26 =>
          bif (r25 == r26) then
            (interfere_Check y7 (y7.length : Int)).bind fun r27 =>
            bif r27 then
              (interfere_Degree y7).bind fun r28 =>
              (ref18_Degree y7).bind fun r29 =>
              bif (r28 == r29) then
                (interfere_Degree r6.1).bind fun r30 =>
                (ref18_Degree r6.1).bind fun r31 =>
                some (r30 == r31)
              else
                some false
            else
              some false
          else
            some false
        else
          some false
      else
        some false)
noncomputable def law18_InterfereCheck_j1 (codes3 : (List Int)) (g1 : (List (List Int))) (n2 : Int) : Option (Bool) :=
  (draw_New codes3 60).bind fun r5 =>
  (draw_Codes_Graph r5 7 false).bind fun r6 =>
  chk (0 ≤ (r6.1.length : Int) ∧ (r6.1.length : Int) ≤ 16777216) <|
  LoopT (fun s => law18_InterfereCheck_b2 r6 g1 n2 s.1 s.2) (List.replicate (r6.1.length : Int).toNat ([] : List Int), 0)
noncomputable def law18_InterfereCheck (g1 : (List (List Int))) (n2 : Int) (codes3 : (List Int)) : Option (Bool) :=
  (law18_awake).bind fun r4 =>
  bif (!r4) then
    some (decide ((g1.length : Int) > 100))
  else
    bif (decide ((g1.length : Int) > 100)) then
      some (decide ((g1.length : Int) > 100))
    else
      law18_InterfereCheck_j1 codes3 g1 n2

end Go.Proofs.Ytihomlbcppfngaa
