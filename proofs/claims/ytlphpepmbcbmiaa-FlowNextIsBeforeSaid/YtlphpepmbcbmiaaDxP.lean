/-
  The programs on typed data; written by a program (dx.py).
-/
import Derived.Test.YtlphpepmbcbmiaaDxT
namespace Go.Proofs.Ytlphpepmbcbmiaa
open Go Go.Dw Go.Proofs
set_option maxRecDepth 100000
noncomputable def sir_Terminator (op1 : Int) : Option (Bool) :=
  bif (op1 == 20) then
    some true
  else
    bif (op1 == 23) then
      some true
    else
      some (op1 == 24)

noncomputable def flow_Next_j2 (x_x3 : TInstr) (l4 : List Int) : Option ((List Int)) :=
  bif (x_x3.Op == 20) then
    chk (l4.length + ([x_x3.A] : List Int).length ≤ 16777216) <|
    chk ((l4 ++ ([x_x3.A] : List Int)).length < 4611686018427387904) <|
    chk ((sortI (l4 ++ ([x_x3.A] : List Int))).length < 4611686018427387904) <|
    some (Lib.compact (sortI (l4 ++ ([x_x3.A] : List Int))))
  else
    bif (x_x3.Op == 21) then
      chk (l4.length + ([x_x3.B] : List Int).length ≤ 16777216) <|
      chk ((l4 ++ ([x_x3.B] : List Int)).length < 4611686018427387904) <|
      chk ((sortI (l4 ++ ([x_x3.B] : List Int))).length < 4611686018427387904) <|
      some (Lib.compact (sortI (l4 ++ ([x_x3.B] : List Int))))
    else
      chk (l4.length < 4611686018427387904) <|
      chk ((sortI l4).length < 4611686018427387904) <|
      some (Lib.compact (sortI l4))
noncomputable def flow_Next_j1 (f1 : TFunc) (k2 : Int) : Option ((List Int)) :=
  (ixO f1.Code k2).bind fun x_x3 =>
  (sir_Terminator x_x3.Op).bind fun r5 =>
  bif (!r5) then
    chk (([] : List Int).length + ([IntKind.i64.wrap (k2 + 1)] : List Int).length ≤ 16777216) <|
    flow_Next_j2 x_x3 (([] : List Int) ++ ([IntKind.i64.wrap (k2 + 1)] : List Int))
  else
    flow_Next_j2 x_x3 ([] : List Int)
noncomputable def flow_Next (f1 : TFunc) (k2 : Int) : Option ((List Int)) :=
  bif (decide (k2 < 0)) then
    some ([] : List Int)
  else
    bif (decide (k2 ≥ (f1.Code.length : Int))) then
      some ([] : List Int)
    else
      flow_Next_j1 f1 k2

noncomputable def law13_awake  : Option (Bool) :=
  (flow_Next (TFunc.mk 0 ([]) ([(TInstr.mk 20 1 0 0 0), (TInstr.mk 23 0 0 0 0)] : List TInstr)) 0).bind fun r1 =>
  bif ((r1.length : Int) == 1) then
    chk (0 ≤ (0 : Int) ∧ (0 : Int) < r1.length) <|
    ((r1)[(0 : Int).toNat]?).bind fun l_e2 =>
    some (l_e2 == 1)
  else
    some false

noncomputable def draw_New (list1 : (List Int)) (limit2 : Int) : Option (Tdraw_Codes) :=
  chk (0 ≤ (minI (list1.length : Int) limit2) ∧ (minI (list1.length : Int) limit2) ≤ list1.length) <|
  some (Tdraw_Codes.mk (list1.take (minI (list1.length : Int) limit2).toNat) 0)

noncomputable def draw_Codes_Left (c1 : Tdraw_Codes) : Option (Bool × Tdraw_Codes) :=
  some ((decide (c1.at_ < (c1.list.length : Int))), c1)

noncomputable def draw_Codes_Next_j1 (n2 : Int) (c3 : List Int) (c4 : Int) : Option (Int × Tdraw_Codes) :=
  (ixO c3 c4).bind fun x_x6 =>
  some (IntKind.i64.wrap ((IntKind.i64.wrap ((IntKind.i64.wrap (x_x6)) * n2)).tdiv 256), (Tdraw_Codes.mk c3 (IntKind.i64.wrap (c4 + 1))))
noncomputable def draw_Codes_Next (c1 : Tdraw_Codes) (n2 : Int) : Option (Int × Tdraw_Codes) :=
  (draw_Codes_Left c1).bind fun r5 =>
  bif (!r5.1) then
    some (0, r5.2)
  else
    bif (decide (n2 < 1)) then
      some (0, r5.2)
    else
      draw_Codes_Next_j1 n2 r5.2.list r5.2.at_

noncomputable def draw_Codes_Slot (c1 : Tdraw_Codes) : Option (TSlot × Tdraw_Codes) :=
  (draw_Codes_Next c1 7).bind fun r2 =>
  chk (0 ≤ r2.1 ∧ r2.1 < ([8, 4, 8, 1, 2, 16, 8] : List Int).length) <|
  ((([8, 4, 8, 1, 2, 16, 8] : List Int))[r2.1.toNat]?).bind fun x_e3 =>
  (draw_Codes_Next r2.2 8).bind fun r4 =>
  chk (0 ≤ r4.1 ∧ r4.1 < ([8, 4, 1, 8, 16, 2, 32, 64] : List Int).length) <|
  ((([8, 4, 1, 8, 16, 2, 32, 64] : List Int))[r4.1.toNat]?).bind fun x_e5 =>
  some ((TSlot.mk x_e3 x_e5), r4.2)

noncomputable def draw_Codes_Slots_b1 (c4 : List Int) (c5 : Int) (l6 : List TSlot) (n7 : Int) : Option (((List Int) × Int × (List TSlot) × Int) ⊕ ((List TSlot) × Tdraw_Codes)) :=
  bif (decide (n7 > 0)) then
    (draw_Codes_Slot (Tdraw_Codes.mk c4 c5)).bind fun r8 =>
    chk (l6.length + ([r8.1] : List TSlot).length ≤ 16777216) <|
    cnt (r8.2.list, r8.2.at_, l6 ++ ([r8.1] : List TSlot), IntKind.i64.wrap (n7 - 1))
  else
    lft (some (l6, (Tdraw_Codes.mk c4 c5)))
noncomputable def draw_Codes_Slots (c1 : Tdraw_Codes) (most2 : Int) : Option ((List TSlot) × Tdraw_Codes) :=
  (draw_Codes_Next c1 (IntKind.i64.wrap (most2 + 1))).bind fun r3 =>
  LoopT (fun s => draw_Codes_Slots_b1 s.1 s.2.1 s.2.2.1 s.2.2.2) (r3.2.list, r3.2.at_, ([] : List TSlot), r3.1)

noncomputable def draw_Codes_Word (c1 : Tdraw_Codes) : Option (Int × Tdraw_Codes) :=
  (draw_Codes_Next c1 6).bind fun r2 =>
  bif (r2.1 == 0) then
    (draw_Codes_Next r2.2 3).bind fun r3 =>
    some (IntKind.u64.wrap (18446744073709551615 - (IntKind.u64.wrap (r3.1))), r3.2)
  else
    bif (r2.1 == 1) then
      (draw_Codes_Next r2.2 64).bind fun r4 =>
      chk (0 ≤ r4.1) <|
      some (IntKind.u64.wrap (1 * 2 ^ (Nat.min r4.1.toNat IntKind.u64.bits)), r4.2)
    else
      bif (r2.1 == 2) then
        some (0, r2.2)
      else
        (draw_Codes_Next r2.2 256).bind fun r5 =>
        some (IntKind.u64.wrap (r5.1), r5.2)

noncomputable def draw_Codes_like_b1 (f2 : TFunc) (s3 : Int) (c1 : Tdraw_Codes) (l4 : List Int) (k5 : Int) : Option (((List Int) × Int) ⊕ (Int × Tdraw_Codes)) :=
  bif (decide (k5 < (f2.Slots.length : Int))) then
    (ixO f2.Slots k5).bind fun x_x6 =>
    (ixO f2.Slots s3).bind fun x_x7 =>
    bif (x_x6.Size == x_x7.Size) then
      chk (l4.length + ([k5] : List Int).length ≤ 16777216) <|
      cnt (l4 ++ ([k5] : List Int), IntKind.i64.wrap (k5 + 1))
    else
      cnt (l4, IntKind.i64.wrap (k5 + 1))
  else
    lft (
      (draw_Codes_Next c1 (l4.length : Int)).bind fun r8 =>
      chk (0 ≤ r8.1 ∧ r8.1 < l4.length) <|
      ((l4)[r8.1.toNat]?).bind fun l_e9 =>
      some (l_e9, r8.2))
noncomputable def draw_Codes_like (c1 : Tdraw_Codes) (f2 : TFunc) (s3 : Int) : Option (Int × Tdraw_Codes) :=
  LoopT (fun s => draw_Codes_like_b1 f2 s3 c1 s.1 s.2) (([] : List Int), 0)

noncomputable def draw_Codes_body_b7 (params4 : (List Int)) (i3 : Int) (r23 : Int × Tdraw_Codes) (c24 : List Int) (c25 : Int) (out26 : List TInstr) (a27 : Int) : Option (((List Int) × Int × (List TInstr) × Int) ⊕ ((List TInstr) × Tdraw_Codes)) :=
  (ixO params4 (IntKind.i64.wrap ((IntKind.i64.wrap (i3 + 1)) + r23.1))).bind fun x_x28 =>
  bif (decide (a27 < x_x28)) then
    (draw_Codes_Next (Tdraw_Codes.mk c24 c25) 8).bind fun r29 =>
    bif (decide (r29.1 < 7)) then
      (draw_Codes_Next r29.2 4).bind fun r30 =>
      chk (out26.length + ([(TInstr.mk 18 a27 r30.1 0 0)] : List TInstr).length ≤ 16777216) <|
      cnt (r30.2.list, r30.2.at_, out26 ++ ([(TInstr.mk 18 a27 r30.1 0 0)] : List TInstr), IntKind.i64.wrap (a27 + 1))
    else
      cnt (r29.2.list, r29.2.at_, out26, IntKind.i64.wrap (a27 + 1))
  else
    lft (
      chk (out26.length + ([(TInstr.mk 22 (IntKind.i64.wrap ((IntKind.i64.wrap (i3 + 1)) + r23.1)) 0 0 0)] : List TInstr).length ≤ 16777216) <|
      some (out26 ++ ([(TInstr.mk 22 (IntKind.i64.wrap ((IntKind.i64.wrap (i3 + 1)) + r23.1)) 0 0 0)] : List TInstr), (Tdraw_Codes.mk c24 c25)))
noncomputable def draw_Codes_body_j1 (r5 : Int × Tdraw_Codes) (r6 : Int × Tdraw_Codes) : Option ((List TInstr) × Tdraw_Codes) :=
  some (([(TInstr.mk 14 r5.1 0 0 0)] : List TInstr), r6.2)
noncomputable def draw_Codes_body_j6 (r6 : Int × Tdraw_Codes) (params4 : (List Int)) (i3 : Int) (r5 : Int × Tdraw_Codes) (x22 : Bool) : Option ((List TInstr) × Tdraw_Codes) :=
  bif x22 then
    (draw_Codes_Next r6.2 (IntKind.i64.wrap ((IntKind.i64.wrap ((params4.length : Int) - i3)) - 1))).bind fun r23 =>
    LoopT (fun s => draw_Codes_body_b7 params4 i3 r23 s.1 s.2.1 s.2.2.1 s.2.2.2) (r23.2.list, r23.2.at_, ([] : List TInstr), 0)
  else
    draw_Codes_body_j1 r5 r6
noncomputable def draw_Codes_body_j5 (r6 : Int × Tdraw_Codes) (f2 : TFunc) (r5 : Int × Tdraw_Codes) (params4 : (List Int)) (i3 : Int) (x20 : Bool) : Option ((List TInstr) × Tdraw_Codes) :=
  bif x20 then
    (draw_Codes_Next r6.2 f2.Params).bind fun r21 =>
    some (([(TInstr.mk 19 r5.1 r21.1 0 0)] : List TInstr), r21.2)
  else
    bif (decide (r6.1 ≥ 17)) then
      draw_Codes_body_j6 r6 params4 i3 r5 (decide ((IntKind.i64.wrap (i3 + 1)) < (params4.length : Int)))
    else
      draw_Codes_body_j6 r6 params4 i3 r5 false
noncomputable def draw_Codes_body_j4 (r6 : Int × Tdraw_Codes) (f2 : TFunc) (r5 : Int × Tdraw_Codes) (params4 : (List Int)) (i3 : Int) (x11 : Bool) : Option ((List TInstr) × Tdraw_Codes) :=
  bif x11 then
    (draw_Codes_Next r6.2 (f2.Slots.length : Int)).bind fun r12 =>
    (draw_Codes_like r12.2 f2 r12.1).bind fun r13 =>
    some (([(TInstr.mk 17 r13.1 r12.1 0 0)] : List TInstr), r13.2)
  else
    bif (decide (r6.1 < 11)) then
      (draw_Codes_Word r6.2).bind fun r14 =>
      some (([(TInstr.mk 0 r5.1 0 0 r14.1)] : List TInstr), r14.2)
    else
      bif (decide (r6.1 < 13)) then
        (draw_Codes_Next r6.2 10).bind fun r15 =>
        (draw_Codes_Next r15.2 4).bind fun r16 =>
        (draw_Codes_Next r16.2 8).bind fun r17 =>
        some (([(TInstr.mk (IntKind.i64.wrap (2 + r15.1)) r5.1 r16.1 r17.1 0)] : List TInstr), r17.2)
      else
        bif (decide (r6.1 < 15)) then
          some (([(TInstr.mk 14 r5.1 0 0 0)] : List TInstr), r6.2)
        else
          bif (r6.1 == 15) then
            (draw_Codes_Next r6.2 3).bind fun r18 =>
            chk (0 ≤ r18.1 ∧ r18.1 < ([13, 12, 1] : List Int).length) <|
            ((([13, 12, 1] : List Int))[r18.1.toNat]?).bind fun x_e19 =>
            some (([(TInstr.mk x_e19 r5.1 0 0 0)] : List TInstr), r18.2)
          else
            bif (r6.1 == 16) then
              draw_Codes_body_j5 r6 f2 r5 params4 i3 (decide (f2.Params > 0))
            else
              draw_Codes_body_j5 r6 f2 r5 params4 i3 false
noncomputable def draw_Codes_body_j3 (r6 : Int × Tdraw_Codes) (f2 : TFunc) (r5 : Int × Tdraw_Codes) (params4 : (List Int)) (i3 : Int) (x9 : Bool) : Option ((List TInstr) × Tdraw_Codes) :=
  bif x9 then
    (draw_Codes_Next r6.2 (f2.Slots.length : Int)).bind fun r10 =>
    some (([(TInstr.mk 15 r5.1 r10.1 0 0)] : List TInstr), r10.2)
  else
    bif (decide (r6.1 < 9)) then
      draw_Codes_body_j4 r6 f2 r5 params4 i3 (decide ((f2.Slots.length : Int) > 0))
    else
      draw_Codes_body_j4 r6 f2 r5 params4 i3 false
noncomputable def draw_Codes_body_j2 (r6 : Int × Tdraw_Codes) (f2 : TFunc) (r5 : Int × Tdraw_Codes) (params4 : (List Int)) (i3 : Int) (x7 : Bool) : Option ((List TInstr) × Tdraw_Codes) :=
  bif x7 then
    (draw_Codes_Next r6.2 (f2.Slots.length : Int)).bind fun r8 =>
    some (([(TInstr.mk 16 r8.1 r5.1 0 0)] : List TInstr), r8.2)
  else
    bif (decide (r6.1 < 6)) then
      draw_Codes_body_j3 r6 f2 r5 params4 i3 (decide ((f2.Slots.length : Int) > 0))
    else
      draw_Codes_body_j3 r6 f2 r5 params4 i3 false
noncomputable def draw_Codes_body (c1 : Tdraw_Codes) (f2 : TFunc) (i3 : Int) (params4 : (List Int)) : Option ((List TInstr) × Tdraw_Codes) :=
  (draw_Codes_Next c1 4).bind fun r5 =>
  (draw_Codes_Next r5.2 20).bind fun r6 =>
  bif (decide (r6.1 < 3)) then
    draw_Codes_body_j2 r6 f2 r5 params4 i3 (decide ((f2.Slots.length : Int) > 0))
  else
    draw_Codes_body_j2 r6 f2 r5 params4 i3 false

noncomputable def draw_Codes_function_j6 (k32 : Int) (code31 : List TInstr) (r33 : Int × Tdraw_Codes) (to34 : Int) (x35 : Bool) : Option (((List Int) × Int × (List TInstr) × Int) ⊕ (TFunc × Tdraw_Codes)) :=
  bif x35 then
    chk (0 ≤ k32 ∧ k32 < code31.length) <|
    ((code31)[k32.toNat]?).bind fun code_o38 =>
    cnt (r33.2.list, r33.2.at_, code31.set k32.toNat (TInstr.mk code_o38.Op to34 code_o38.B code_o38.C code_o38.Imm), IntKind.i64.wrap (k32 + 1))
  else
    chk (0 ≤ k32 ∧ k32 < code31.length) <|
    ((code31)[k32.toNat]?).bind fun code_e39 =>
    bif (code_e39.Op == 21) then
      chk (0 ≤ k32 ∧ k32 < code31.length) <|
      ((code31)[k32.toNat]?).bind fun code_e40 =>
      bif (decide (code_e40.B < 0)) then
        chk (0 ≤ k32 ∧ k32 < code31.length) <|
        ((code31)[k32.toNat]?).bind fun code_o41 =>
        cnt (r33.2.list, r33.2.at_, code31.set k32.toNat (TInstr.mk code_o41.Op code_o41.A to34 code_o41.C code_o41.Imm), IntKind.i64.wrap (k32 + 1))
      else
        cnt (r33.2.list, r33.2.at_, code31, IntKind.i64.wrap (k32 + 1))
    else
      cnt (r33.2.list, r33.2.at_, code31, IntKind.i64.wrap (k32 + 1))
noncomputable def draw_Codes_function_j5 (k32 : Int) (code31 : List TInstr) (r33 : Int × Tdraw_Codes) (to34 : Int) : Option (((List Int) × Int × (List TInstr) × Int) ⊕ (TFunc × Tdraw_Codes)) :=
  chk (0 ≤ k32 ∧ k32 < code31.length) <|
  ((code31)[k32.toNat]?).bind fun code_e36 =>
  bif (code_e36.Op == 20) then
    chk (0 ≤ k32 ∧ k32 < code31.length) <|
    ((code31)[k32.toNat]?).bind fun code_e37 =>
    draw_Codes_function_j6 k32 code31 r33 to34 (decide (code_e37.A < 0))
  else
    draw_Codes_function_j6 k32 code31 r33 to34 false
noncomputable def draw_Codes_function_b4 (x_x5 : Int) (f17 : List TSlot) (c29 : List Int) (c30 : Int) (code31 : List TInstr) (k32 : Int) : Option (((List Int) × Int × (List TInstr) × Int) ⊕ (TFunc × Tdraw_Codes)) :=
  bif (decide (k32 < (code31.length : Int))) then
    (draw_Codes_Next (Tdraw_Codes.mk c29 c30) 8).bind fun r33 =>
    bif (decide ((IntKind.i64.wrap ((IntKind.i64.wrap (k32 + r33.1)) - 2)) < 0)) then
      draw_Codes_function_j5 k32 code31 r33 (IntKind.i64.wrap ((code31.length : Int) - 1))
    else
      bif (decide ((IntKind.i64.wrap ((IntKind.i64.wrap (k32 + r33.1)) - 2)) ≥ (code31.length : Int))) then
        draw_Codes_function_j5 k32 code31 r33 (IntKind.i64.wrap ((code31.length : Int) - 1))
      else
        draw_Codes_function_j5 k32 code31 r33 (IntKind.i64.wrap ((IntKind.i64.wrap (k32 + r33.1)) - 2))
  else
    lft (some ((TFunc.mk x_x5 f17 code31), (Tdraw_Codes.mk c29 c30)))
noncomputable def draw_Codes_function_j3 (code16 : List TInstr) (x_x5 : Int) (f17 : List TSlot) (c23 : List Int) (c24 : Int) (end25 : Int) (end26 : Int) : Option (TFunc × Tdraw_Codes) :=
  chk (code16.length + ([(TInstr.mk end25 0 0 0 end26)] : List TInstr).length ≤ 16777216) <|
  LoopT (fun s => draw_Codes_function_b4 x_x5 f17 s.1 s.2.1 s.2.2.1 s.2.2.2) (c23, c24, code16 ++ ([(TInstr.mk end25 0 0 0 end26)] : List TInstr), 0)
noncomputable def draw_Codes_function_b2 (x_x5 : Int) (i2 : Int) (params3 : (List Int)) (c14 : List Int) (c15 : Int) (code16 : List TInstr) (f17 : List TSlot) (n18 : Int) : Option (((List Int) × Int × (List TInstr) × (List TSlot) × Int) ⊕ (TFunc × Tdraw_Codes)) :=
  bif (decide (n18 > 0)) then
    (draw_Codes_body (Tdraw_Codes.mk c14 c15) (TFunc.mk x_x5 f17 ([])) i2 params3).bind fun r19 =>
    chk (code16.length + r19.1.length ≤ 16777216) <|
    (draw_Codes_Next r19.2 9).bind fun r20 =>
    bif (r20.1 == 7) then
      (draw_Codes_Next r20.2 4).bind fun r21 =>
      chk ((code16 ++ r19.1).length + ([(TInstr.mk 21 r21.1 (-1) 0 0)] : List TInstr).length ≤ 16777216) <|
      cnt (r21.2.list, r21.2.at_, (code16 ++ r19.1) ++ ([(TInstr.mk 21 r21.1 (-1) 0 0)] : List TInstr), f17, IntKind.i64.wrap (n18 - 1))
    else
      bif (r20.1 == 8) then
        (draw_Codes_Next r20.2 3).bind fun r22 =>
        bif (r22.1 == 2) then
          chk ((code16 ++ r19.1).length + ([(TInstr.mk 20 (-1) 0 0 0)] : List TInstr).length ≤ 16777216) <|
          cnt (r22.2.list, r22.2.at_, (code16 ++ r19.1) ++ ([(TInstr.mk 20 (-1) 0 0 0)] : List TInstr), f17, IntKind.i64.wrap (n18 - 1))
        else
          cnt (r22.2.list, r22.2.at_, code16 ++ r19.1, f17, IntKind.i64.wrap (n18 - 1))
      else
        cnt (r20.2.list, r20.2.at_, code16 ++ r19.1, f17, IntKind.i64.wrap (n18 - 1))
  else
    lft (
      (draw_Codes_Next (Tdraw_Codes.mk c14 c15) 12).bind fun r27 =>
      bif (r27.1 == 11) then
        (draw_Codes_Word r27.2).bind fun r28 =>
        draw_Codes_function_j3 code16 x_x5 f17 r28.2.list r28.2.at_ 24 r28.1
      else
        draw_Codes_function_j3 code16 x_x5 f17 r27.2.list r27.2.at_ 23 0)
noncomputable def draw_Codes_function_b1 (r6 : (List TSlot) × Tdraw_Codes) (most4 : Int) (x_x5 : Int) (i2 : Int) (params3 : (List Int)) (c7 : List Int) (c8 : Int) (code9 : List TInstr) (s10 : Int) : Option (((List Int) × Int × (List TInstr) × Int) ⊕ (TFunc × Tdraw_Codes)) :=
  bif (decide (s10 < (r6.1.length : Int))) then
    (draw_Codes_Next (Tdraw_Codes.mk c7 c8) 4).bind fun r11 =>
    bif (decide (r11.1 < 3)) then
      (draw_Codes_Next r11.2 4).bind fun r12 =>
      chk (code9.length + ([(TInstr.mk 16 s10 r12.1 0 0)] : List TInstr).length ≤ 16777216) <|
      cnt (r12.2.list, r12.2.at_, code9 ++ ([(TInstr.mk 16 s10 r12.1 0 0)] : List TInstr), IntKind.i64.wrap (s10 + 1))
    else
      cnt (r11.2.list, r11.2.at_, code9, IntKind.i64.wrap (s10 + 1))
  else
    lft (
      (draw_Codes_Next (Tdraw_Codes.mk c7 c8) (IntKind.i64.wrap (most4 + 1))).bind fun r13 =>
      LoopT (fun s => draw_Codes_function_b2 x_x5 i2 params3 s.1 s.2.1 s.2.2.1 s.2.2.2.1 s.2.2.2.2) (r13.2.list, r13.2.at_, code9, r6.1, r13.1))
noncomputable def draw_Codes_function (c1 : Tdraw_Codes) (i2 : Int) (params3 : (List Int)) (most4 : Int) : Option (TFunc × Tdraw_Codes) :=
  (ixO params3 i2).bind fun x_x5 =>
  (draw_Codes_Slots c1 6).bind fun r6 =>
  LoopT (fun s => draw_Codes_function_b1 r6 most4 x_x5 i2 params3 s.1 s.2.1 s.2.2.1 s.2.2.2) (r6.2.list, r6.2.at_, ([] : List TInstr), 0)

noncomputable def draw_Codes_Program_b2 (most3 : Int) (c10 : List Int) (c11 : Int) (p12 : List TFunc) (i13 : Int) (params14 : List Int) : Option (((List Int) × Int × (List TFunc) × Int × (List Int)) ⊕ (TProgram × Tdraw_Codes)) :=
  bif (decide (i13 < (params14.length : Int))) then
    chk (([] : List TFunc).length + p12.length ≤ 16777216) <|
    (draw_Codes_function (Tdraw_Codes.mk c10 c11) i13 params14 most3).bind fun r15 =>
    chk ((([] : List TFunc) ++ p12).length + ([r15.1] : List TFunc).length ≤ 16777216) <|
    cnt (r15.2.list, r15.2.at_, (([] : List TFunc) ++ p12) ++ ([r15.1] : List TFunc), IntKind.i64.wrap (i13 + 1), params14)
  else
    lft (some ((TProgram.mk p12), (Tdraw_Codes.mk c10 c11)))
noncomputable def draw_Codes_Program_b1 (most3 : Int) (c5 : List Int) (c6 : Int) (params7 : List Int) (n8 : Int) : Option (((List Int) × Int × (List Int) × Int) ⊕ (TProgram × Tdraw_Codes)) :=
  bif (decide (n8 > 0)) then
    (draw_Codes_Next (Tdraw_Codes.mk c5 c6) 4).bind fun r9 =>
    chk (params7.length + ([r9.1] : List Int).length ≤ 16777216) <|
    cnt (r9.2.list, r9.2.at_, params7 ++ ([r9.1] : List Int), IntKind.i64.wrap (n8 - 1))
  else
    lft (LoopT (fun s => draw_Codes_Program_b2 most3 s.1 s.2.1 s.2.2.1 s.2.2.2.1 s.2.2.2.2) (c5, c6, [], 0, params7))
noncomputable def draw_Codes_Program (c1 : Tdraw_Codes) (funcs2 : Int) (most3 : Int) : Option (TProgram × Tdraw_Codes) :=
  (draw_Codes_Next c1 funcs2).bind fun r4 =>
  LoopT (fun s => draw_Codes_Program_b1 most3 s.1 s.2.1 s.2.2.1 s.2.2.2) (r4.2.list, r4.2.at_, ([0] : List Int), r4.1)

noncomputable def law13_function (codes1 : (List Int)) : Option (TFunc × Tdraw_Codes) :=
  (draw_New codes1 250).bind fun r2 =>
  (draw_Codes_Program r2 3 16).bind fun r3 =>
  (draw_Codes_Next r3.2 (r3.1.Funcs.length : Int)).bind fun r4 =>
  (ixO r3.1.Funcs r4.1).bind fun x_x5 =>
  some (x_x5, r4.2)

noncomputable def flow_Before_b2 (r4 : (List Int)) (x3 : Int) (l5 : List (List Int)) (x6 : Int) : Option (((List (List Int)) × Int) ⊕ (((List (List Int)) × Int) ⊕ ((List (List Int))))) :=
  bif (decide (x6 < (r4.length : Int))) then
    chk (0 ≤ x6 ∧ x6 < r4.length) <|
    ((r4)[x6.toNat]?).bind fun x_e7 =>
    chk (0 ≤ x_e7 ∧ x_e7 < l5.length) <|
    ((l5)[x_e7.toNat]?).bind fun l_e8 =>
    chk (l_e8.length + ([x3] : List Int).length ≤ 16777216) <|
    chk (0 ≤ x_e7 ∧ x_e7 < l5.length) <|
    cnt (l5.set x_e7.toNat (l_e8 ++ ([x3] : List Int)), IntKind.i64.wrap (x6 + 1))
  else
    lft (cnt (l5, IntKind.i64.wrap (x3 + 1)))
noncomputable def flow_Before_b1 (f1 : TFunc) (l2 : List (List Int)) (x3 : Int) : Option (((List (List Int)) × Int) ⊕ ((List (List Int)))) :=
  bif (decide (x3 < (f1.Code.length : Int))) then
    (flow_Next f1 x3).bind fun r4 =>
    LoopT (fun s => flow_Before_b2 r4 x3 s.1 s.2) (l2, 0)
  else
    lft (some l2)
noncomputable def flow_Before (f1 : TFunc) : Option ((List (List Int))) :=
  chk (0 ≤ (f1.Code.length : Int) ∧ (f1.Code.length : Int) ≤ 16777216) <|
  LoopT (fun s => flow_Before_b1 f1 s.1 s.2) (List.replicate (f1.Code.length : Int).toNat ([] : (List Int)), 0)

noncomputable def ref04_Has_b1 (s1 : (List Int)) (n2 : Int) (i3 : Int) : Option ((Int) ⊕ (Bool)) :=
  bif (decide (i3 < (s1.length : Int))) then
    (ixO s1 i3).bind fun x_x4 =>
    bif (x_x4 == n2) then
      lft (some true)
    else
      cnt (IntKind.i64.wrap (i3 + 1))
  else
    lft (some false)
noncomputable def ref04_Has (s1 : (List Int)) (n2 : Int) : Option (Bool) :=
  LoopT (fun s => ref04_Has_b1 s1 n2 s) 0

noncomputable def law13_FlowNextIsBefore_j2 (k5 : Int) : Option ((Int) ⊕ (Bool)) :=
  cnt (IntKind.i64.wrap (k5 + 1))
noncomputable def law13_FlowNextIsBefore_b3 (r3 : TFunc × Tdraw_Codes) (r6 : (List Int)) (r4 : (List (List Int))) (k5 : Int) (j7 : Int) : Option ((Int) ⊕ ((Int) ⊕ (Bool))) :=
  bif (decide (j7 < (r3.1.Code.length : Int))) then
    (ref04_Has r6 j7).bind fun r8 =>
    (ixO r4 j7).bind fun x_x9 =>
    (ref04_Has x_x9 k5).bind fun r10 =>
    bif (!(r8 == r10)) then
      lft (lft (some false))
    else
      cnt (IntKind.i64.wrap (j7 + 1))
  else
    lft (law13_FlowNextIsBefore_j2 k5)
noncomputable def law13_FlowNextIsBefore_b1 (r3 : TFunc × Tdraw_Codes) (r4 : (List (List Int))) (k5 : Int) : Option ((Int) ⊕ (Bool)) :=
  bif (decide (k5 < (r3.1.Code.length : Int))) then
    (flow_Next r3.1 k5).bind fun r6 =>
    LoopT (fun s => law13_FlowNextIsBefore_b3 r3 r6 r4 k5 s) 0
  else
    lft (some true)
noncomputable def law13_FlowNextIsBefore (codes1 : (List Int)) : Option (Bool) :=
  (law13_awake).bind fun r2 =>
  bif (!r2) then
    some false
  else
    (law13_function codes1).bind fun r3 =>
    (flow_Before r3.1).bind fun r4 =>
    bif ((r4.length : Int) != (r3.1.Code.length : Int)) then
      some false
    else
      LoopT (fun s => law13_FlowNextIsBefore_b1 r3 r4 s) 0

noncomputable def ref04_Same_b1 (a1 : (List Int)) (b2 : (List Int)) (i3 : Int) : Option ((Int) ⊕ (Bool)) :=
  bif (decide (i3 < (a1.length : Int))) then
    (ixO a1 i3).bind fun x_x4 =>
    (ixO b2 i3).bind fun x_x5 =>
    bif (x_x4 != x_x5) then
      lft (some false)
    else
      cnt (IntKind.i64.wrap (i3 + 1))
  else
    lft (some true)
noncomputable def ref04_Same (a1 : (List Int)) (b2 : (List Int)) : Option (Bool) :=
  bif ((a1.length : Int) != (b2.length : Int)) then
    some false
  else
    LoopT (fun s => ref04_Same_b1 a1 b2 s) 0

noncomputable def ref13_Next_j2 (x_x3 : TInstr) (k2 : Int) (x4 : Bool) : Option ((List Int)) :=
  bif x4 then
    some ([] : List Int)
  else
    bif (x_x3.Op == 21) then
      bif (decide (x_x3.B < (IntKind.i64.wrap (k2 + 1)))) then
        some ([x_x3.B, IntKind.i64.wrap (k2 + 1)] : List Int)
      else
        bif (decide (x_x3.B > (IntKind.i64.wrap (k2 + 1)))) then
          some ([IntKind.i64.wrap (k2 + 1), x_x3.B] : List Int)
        else
          some ([IntKind.i64.wrap (k2 + 1)] : List Int)
    else
      some ([IntKind.i64.wrap (k2 + 1)] : List Int)
noncomputable def ref13_Next_j1 (f1 : TFunc) (k2 : Int) : Option ((List Int)) :=
  (ixO f1.Code k2).bind fun x_x3 =>
  bif (x_x3.Op == 20) then
    some ([x_x3.A] : List Int)
  else
    bif (x_x3.Op == 23) then
      ref13_Next_j2 x_x3 k2 (x_x3.Op == 23)
    else
      ref13_Next_j2 x_x3 k2 (x_x3.Op == 24)
noncomputable def ref13_Next (f1 : TFunc) (k2 : Int) : Option ((List Int)) :=
  bif (decide (k2 < 0)) then
    some ([] : List Int)
  else
    bif (decide (k2 ≥ (f1.Code.length : Int))) then
      some ([] : List Int)
    else
      ref13_Next_j1 f1 k2

noncomputable def ref04_SameAll_b1 (a1 : (List (List Int))) (b2 : (List (List Int))) (i3 : Int) : Option ((Int) ⊕ (Bool)) :=
  bif (decide (i3 < (a1.length : Int))) then
    (ixO a1 i3).bind fun x_x4 =>
    (ixO b2 i3).bind fun x_x5 =>
    (ref04_Same x_x4 x_x5).bind fun r6 =>
    bif (!r6) then
      lft (some false)
    else
      cnt (IntKind.i64.wrap (i3 + 1))
  else
    lft (some true)
noncomputable def ref04_SameAll (a1 : (List (List Int))) (b2 : (List (List Int))) : Option (Bool) :=
  bif ((a1.length : Int) != (b2.length : Int)) then
    some false
  else
    LoopT (fun s => ref04_SameAll_b1 a1 b2 s) 0

noncomputable def ref13_Before_j2 (k3 : Int) (out4 : List (List Int)) : Option (((List (List Int)) × Int) ⊕ ((List (List Int)))) :=
  cnt (out4, IntKind.i64.wrap (k3 + 1))
noncomputable def ref13_Before_b3 (r5 : (List Int)) (k3 : Int) (out6 : List (List Int)) (i7 : Int) : Option (((List (List Int)) × Int) ⊕ (((List (List Int)) × Int) ⊕ ((List (List Int))))) :=
  bif (decide (i7 < (r5.length : Int))) then
    chk (0 ≤ i7 ∧ i7 < r5.length) <|
    ((r5)[i7.toNat]?).bind fun l_e8 =>
    chk (0 ≤ i7 ∧ i7 < r5.length) <|
    chk (0 ≤ l_e8 ∧ l_e8 < out6.length) <|
    ((out6)[l_e8.toNat]?).bind fun out_e10 =>
    chk (out_e10.length + ([k3] : List Int).length ≤ 16777216) <|
    chk (0 ≤ l_e8 ∧ l_e8 < out6.length) <|
    cnt (out6.set l_e8.toNat (out_e10 ++ ([k3] : List Int)), IntKind.i64.wrap (i7 + 1))
  else
    lft (ref13_Before_j2 k3 out6)
noncomputable def ref13_Before_b1 (f1 : TFunc) (out2 : List (List Int)) (k3 : Int) : Option (((List (List Int)) × Int) ⊕ ((List (List Int)))) :=
  bif (decide (k3 < (f1.Code.length : Int))) then
    (ref13_Next f1 k3).bind fun r5 =>
    LoopT (fun s => ref13_Before_b3 r5 k3 s.1 s.2) (out2, 0)
  else
    lft (some out2)
noncomputable def ref13_Before (f1 : TFunc) : Option ((List (List Int))) :=
  chk (0 ≤ (f1.Code.length : Int) ∧ (f1.Code.length : Int) ≤ 16777216) <|
  LoopT (fun s => ref13_Before_b1 f1 s.1 s.2) (List.replicate (f1.Code.length : Int).toNat ([] : (List Int)), 0)

noncomputable def law13_FlowNext_b1 (r4 : TFunc × Tdraw_Codes) (k2 : Int) (i5 : Int) : Option ((Int) ⊕ (Bool)) :=
  bif (decide (i5 < (r4.1.Code.length : Int))) then
    (flow_Next r4.1 i5).bind fun r6 =>
    (ref13_Next r4.1 i5).bind fun r7 =>
    (ref04_Same r6 r7).bind fun r8 =>
    bif (!r8) then
      lft (some false)
    else
      cnt (IntKind.i64.wrap (i5 + 1))
  else
    lft (
      (flow_Next r4.1 k2).bind fun r9 =>
      (ref13_Next r4.1 k2).bind fun r10 =>
      (ref04_Same r9 r10).bind fun r11 =>
      bif r11 then
        (flow_Before r4.1).bind fun r12 =>
        (ref13_Before r4.1).bind fun r13 =>
        (ref04_SameAll r12 r13).bind fun r14 =>
        some r14
      else
        some false)
noncomputable def law13_FlowNext (codes1 : (List Int)) (k2 : Int) : Option (Bool) :=
  (law13_awake).bind fun r3 =>
  bif (!r3) then
    some false
  else
    (law13_function codes1).bind fun r4 =>
    LoopT (fun s => law13_FlowNext_b1 r4 k2 s) 0

end Go.Proofs.Ytlphpepmbcbmiaa
