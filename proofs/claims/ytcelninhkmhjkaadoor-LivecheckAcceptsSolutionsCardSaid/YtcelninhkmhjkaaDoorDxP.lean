/-
  The programs on typed data; written by a program (dx.py).
-/
import Derived.Test.YtcelninhkmhjkaaDoorDxT
namespace Go.Proofs.YtcelninhkmhjkaaDoor
open Go Go.Dw Go.Proofs
set_option maxRecDepth 100000
noncomputable def bitset_within_int (n1 : Int) : Option (Bool) :=
  bif (decide (n1 ≥ 0)) then
    some (decide (n1 < 512))
  else
    some false

noncomputable def bitset_Check_b1 (s1 : (List Int)) (x2 : Int) : Option ((Int) ⊕ (Bool)) :=
  bif (decide (x2 < (s1.length : Int))) then
    (ixO s1 x2).bind fun x_x3 =>
    (bitset_within_int x_x3).bind fun r4 =>
    bif (!r4) then
      lft (some false)
    else
      bif (decide (x2 > 0)) then
        (ixO s1 (IntKind.i64.wrap (x2 - 1))).bind fun x_x5 =>
        bif (decide (x_x3 ≤ x_x5)) then
          lft (some false)
        else
          cnt (IntKind.i64.wrap (x2 + 1))
      else
        cnt (IntKind.i64.wrap (x2 + 1))
  else
    lft (some true)
noncomputable def bitset_Check (s1 : (List Int)) : Option (Bool) :=
  LoopT (fun s => bitset_Check_b1 s1 s) 0

noncomputable def livecheck_formed_1_fp (s1 : (List Int)) (cap2 : TFunc) : Option (Bool) :=
  (bitset_Check s1).bind fun r3 =>
  bif (!r3) then
    some true
  else
    bif (decide ((s1.length : Int) > 0)) then
      (ixO s1 (IntKind.i64.wrap ((s1.length : Int) - 1))).bind fun x_x4 =>
      some (decide (x_x4 ≥ (cap2.Slots.length : Int)))
    else
      some false

noncomputable def slices_IndexFunc_int_int_formed_1_b1 (s1 : (List (List Int))) (f2 : TFunc) (x3 : Int) : Option ((Int) ⊕ (Int)) :=
  bif (decide (x3 < (s1.length : Int))) then
    (ixO s1 x3).bind fun x_x4 =>
    (livecheck_formed_1_fp x_x4 f2).bind fun r5 =>
    bif r5 then
      lft (some x3)
    else
      cnt (IntKind.i64.wrap (x3 + 1))
  else
    lft (some (-1))
noncomputable def slices_IndexFunc_int_int_formed_1 (s1 : (List (List Int))) (f2 : TFunc) : Option (Int) :=
  LoopT (fun s => slices_IndexFunc_int_int_formed_1_b1 s1 f2 s) 0

noncomputable def slices_ContainsFunc_int_int_formed_1 (s1 : (List (List Int))) (f2 : TFunc) : Option (Bool) :=
  (slices_IndexFunc_int_int_formed_1 s1 f2).bind fun r3 =>
  some (decide (r3 ≥ 0))

noncomputable def livecheck_formed (f1 : TFunc) (l2 : TLive) : Option (Bool) :=
  bif ((l2.Out.length : Int) == (f1.Code.length : Int)) then
    (slices_ContainsFunc_int_int_formed_1 l2.Out f1).bind fun r3 =>
    some (!r3)
  else
    some false

noncomputable def livecheck_sets (l1 : TLive) : Option (TLive) :=
  some l1

noncomputable def sir_Terminator (op1 : Int) : Option (Bool) :=
  bif (op1 == 20) then
    some true
  else
    bif (op1 == 23) then
      some true
    else
      some (op1 == 24)

noncomputable def flow_Next_j2 (x_x3 : TInstr) (l4 : List Int) : Option ((List Int)) :=
  bif (x_x3.Op == 20) then
    chk (l4.length + ([x_x3.A] : List Int).length ≤ 16777216) <|
    chk ((l4 ++ ([x_x3.A] : List Int)).length < 4611686018427387904) <|
    chk ((sortI (l4 ++ ([x_x3.A] : List Int))).length < 4611686018427387904) <|
    some (Lib.compact (sortI (l4 ++ ([x_x3.A] : List Int))))
  else
    bif (x_x3.Op == 21) then
      chk (l4.length + ([x_x3.B] : List Int).length ≤ 16777216) <|
      chk ((l4 ++ ([x_x3.B] : List Int)).length < 4611686018427387904) <|
      chk ((sortI (l4 ++ ([x_x3.B] : List Int))).length < 4611686018427387904) <|
      some (Lib.compact (sortI (l4 ++ ([x_x3.B] : List Int))))
    else
      chk (l4.length < 4611686018427387904) <|
      chk ((sortI l4).length < 4611686018427387904) <|
      some (Lib.compact (sortI l4))
noncomputable def flow_Next_j1 (f1 : TFunc) (k2 : Int) : Option ((List Int)) :=
  (ixO f1.Code k2).bind fun x_x3 =>
  (sir_Terminator x_x3.Op).bind fun r5 =>
  bif (!r5) then
    chk (([] : List Int).length + ([IntKind.i64.wrap (k2 + 1)] : List Int).length ≤ 16777216) <|
    flow_Next_j2 x_x3 (([] : List Int) ++ ([IntKind.i64.wrap (k2 + 1)] : List Int))
  else
    flow_Next_j2 x_x3 ([] : List Int)
noncomputable def flow_Next (f1 : TFunc) (k2 : Int) : Option ((List Int)) :=
  bif (decide (k2 < 0)) then
    some ([] : List Int)
  else
    bif (decide (k2 ≥ (f1.Code.length : Int))) then
      some ([] : List Int)
    else
      flow_Next_j1 f1 k2

noncomputable def livecheck_sets_1_fp (j1 : Int) (cap2 : TLive) : Option ((List Int)) :=
  (ixO cap2.Out j1).bind fun x_x3 =>
  some x_x3

noncomputable def effect_Defines (x1 : TInstr) : Option (Int × Bool) :=
  bif (x1.Op == 16) then
    bif (x1.Op == 16) then
      some (x1.A, true)
    else
      some (0, false)
  else
    bif (x1.Op == 17) then
      some (x1.A, true)
    else
      some (0, false)

noncomputable def bitset_set_int_put (s1 : Tbitset_set_int_) (n2 : Int) (in3 : Bool) : Option (Tbitset_set_int_) :=
  chk (0 ≤ ((IntKind.u64.wrap (n2)).tmod 64)) <|
  (bitset_within_int n2).bind fun r4 =>
  bif (!r4) then
    some s1
  else
    bif in3 then
      chk (0 ≤ (IntKind.i64.wrap (n2.tdiv 64)) ∧ (IntKind.i64.wrap (n2.tdiv 64)) < 8) <|
      ((s1.toList)[(IntKind.i64.wrap (n2.tdiv 64)).toNat]?).bind fun s_e5 =>
      chk (0 ≤ (IntKind.i64.wrap (n2.tdiv 64)) ∧ (IntKind.i64.wrap (n2.tdiv 64)) < 8) <|
      ((s1.toList)[(IntKind.i64.wrap (n2.tdiv 64)).toNat]?).bind fun _ =>
      some (s1.set ((IntKind.i64.wrap (n2.tdiv 64)).toNat) (IntKind.u64.wrap ((BitVec.ofInt IntKind.u64.bits s_e5 ||| BitVec.ofInt IntKind.u64.bits (IntKind.u64.wrap (1 * 2 ^ (Nat.min ((IntKind.u64.wrap (n2)).tmod 64).toNat IntKind.u64.bits)))).toNat)))
    else
      chk (0 ≤ (IntKind.i64.wrap (n2.tdiv 64)) ∧ (IntKind.i64.wrap (n2.tdiv 64)) < 8) <|
      ((s1.toList)[(IntKind.i64.wrap (n2.tdiv 64)).toNat]?).bind fun s_e7 =>
      chk (0 ≤ (IntKind.i64.wrap (n2.tdiv 64)) ∧ (IntKind.i64.wrap (n2.tdiv 64)) < 8) <|
      ((s1.toList)[(IntKind.i64.wrap (n2.tdiv 64)).toNat]?).bind fun _ =>
      some (s1.set ((IntKind.i64.wrap (n2.tdiv 64)).toNat) (IntKind.u64.wrap ((BitVec.ofInt IntKind.u64.bits s_e7 &&& ~~~ BitVec.ofInt IntKind.u64.bits (IntKind.u64.wrap (1 * 2 ^ (Nat.min ((IntKind.u64.wrap (n2)).tmod 64).toNat IntKind.u64.bits)))).toNat)))

noncomputable def bitset_of_int_b1 (l1 : (List Int)) (x2 : Tbitset_set_int_) (x3 : Int) : Option ((Tbitset_set_int_ × Int) ⊕ (Tbitset_set_int_)) :=
  bif (decide (x3 < (l1.length : Int))) then
    (ixO l1 x3).bind fun x_x4 =>
    (bitset_set_int_put x2 x_x4 true).bind fun r5 =>
    cnt (r5, IntKind.i64.wrap (x3 + 1))
  else
    lft (some x2)
noncomputable def bitset_of_int (l1 : (List Int)) : Option (Tbitset_set_int_) :=
  LoopT (fun s => bitset_of_int_b1 l1 s.1 s.2) ((Tbitset_set_int_.mk 0 0 0 0 0 0 0 0), 0)

noncomputable def bitset_set_int_list_b2 (x3 : Int) (l5 : List Int) (x6 : Int) : Option (((List Int) × Int) ⊕ (((List Int) × Int) ⊕ ((List Int) × Tbitset_set_int_))) :=
  bif (x6 != 0) then
    (tz64 x6).bind fun r7 =>
    chk (l5.length + ([IntKind.i64.wrap ((IntKind.i64.wrap (64 * x3)) + r7)] : List Int).length ≤ 16777216) <|
    cnt (l5 ++ ([IntKind.i64.wrap ((IntKind.i64.wrap (64 * x3)) + r7)] : List Int), IntKind.u64.wrap ((BitVec.ofInt IntKind.u64.bits x6 &&& BitVec.ofInt IntKind.u64.bits (IntKind.u64.wrap (x6 - 1))).toNat))
  else
    lft (cnt (l5, IntKind.i64.wrap (x3 + 1)))
noncomputable def bitset_set_int_list_b1 (s1 : Tbitset_set_int_) (l2 : List Int) (x3 : Int) : Option (((List Int) × Int) ⊕ ((List Int) × Tbitset_set_int_)) :=
  bif (decide (x3 < 8)) then
    chk (0 ≤ x3 ∧ x3 < 8) <|
    ((s1.toList)[x3.toNat]?).bind fun s_e4 =>
    LoopT (fun s => bitset_set_int_list_b2 x3 s.1 s.2) (l2, s_e4)
  else
    lft (some (l2, s1))
noncomputable def bitset_set_int_list (s1 : Tbitset_set_int_) : Option ((List Int) × Tbitset_set_int_) :=
  LoopT (fun s => bitset_set_int_list_b1 s1 s.1 s.2) (([] : List Int), 0)

noncomputable def bitset_Remove (s1 : (List Int)) (n2 : Int) : Option ((List Int)) :=
  (bitset_of_int s1).bind fun r3 =>
  (bitset_set_int_put r3 n2 false).bind fun r4 =>
  (bitset_set_int_list r4).bind fun r5 =>
  some r5.1

noncomputable def effect_Uses (x1 : TInstr) : Option ((List Int)) :=
  bif (x1.Op == 15) then
    bif (x1.Op == 15) then
      some ([x1.B] : List Int)
    else
      some ([] : List Int)
  else
    bif (x1.Op == 17) then
      some ([x1.B] : List Int)
    else
      some ([] : List Int)

noncomputable def bitset_Of (l1 : (List Int)) : Option ((List Int)) :=
  (bitset_of_int l1).bind fun r2 =>
  (bitset_set_int_list r2).bind fun r3 =>
  some r3.1

noncomputable def bitset_Union_1 (x1 : Int) (y2 : Int) : Option (Int) :=
  some (IntKind.u64.wrap ((BitVec.ofInt IntKind.u64.bits x1 ||| BitVec.ofInt IntKind.u64.bits y2).toNat))

noncomputable def bitset_set_int_with_Union_1_b1 (s1 : Tbitset_set_int_) (t2 : Tbitset_set_int_) (x3 : Tbitset_set_int_) (x4 : Int) : Option ((Tbitset_set_int_ × Int) ⊕ (Tbitset_set_int_ × Tbitset_set_int_ × Tbitset_set_int_)) :=
  bif (decide (x4 < 8)) then
    chk (0 ≤ x4 ∧ x4 < 8) <|
    ((s1.toList)[x4.toNat]?).bind fun s_e5 =>
    chk (0 ≤ x4 ∧ x4 < 8) <|
    ((t2.toList)[x4.toNat]?).bind fun t_e6 =>
    (bitset_Union_1 s_e5 t_e6).bind fun r7 =>
    chk (0 ≤ x4 ∧ x4 < 8) <|
    ((x3.toList)[x4.toNat]?).bind fun _ =>
    cnt ((x3.set x4.toNat r7), IntKind.i64.wrap (x4 + 1))
  else
    lft (some (x3, s1, t2))
noncomputable def bitset_set_int_with_Union_1 (s1 : Tbitset_set_int_) (t2 : Tbitset_set_int_) : Option (Tbitset_set_int_ × Tbitset_set_int_ × Tbitset_set_int_) :=
  LoopT (fun s => bitset_set_int_with_Union_1_b1 s1 t2 s.1 s.2) ((Tbitset_set_int_.mk 0 0 0 0 0 0 0 0), 0)

noncomputable def bitset_Union (a1 : (List Int)) (b2 : (List Int)) : Option ((List Int)) :=
  (bitset_of_int a1).bind fun r3 =>
  (bitset_of_int b2).bind fun r4 =>
  (bitset_set_int_with_Union_1 r3 r4).bind fun r5 =>
  (bitset_set_int_list r5.1).bind fun r6 =>
  some r6.1

noncomputable def effect_In (x1 : TInstr) (out2 : (List Int)) : Option ((List Int)) :=
  (effect_Defines x1).bind fun r3 =>
  bif r3.2 then
    (bitset_Remove out2 r3.1).bind fun r4 =>
    (effect_Uses x1).bind fun r5 =>
    (bitset_Of r5).bind fun r6 =>
    (bitset_Union r4 r6).bind fun r7 =>
    some r7
  else
    (effect_Uses x1).bind fun r8 =>
    (bitset_Of r8).bind fun r9 =>
    (bitset_Union out2 r9).bind fun r10 =>
    some r10

noncomputable def bitset_Minus_1 (x1 : Int) (y2 : Int) : Option (Int) :=
  some (IntKind.u64.wrap ((BitVec.ofInt IntKind.u64.bits x1 &&& ~~~ BitVec.ofInt IntKind.u64.bits y2).toNat))

noncomputable def bitset_set_int_with_Minus_1_b1 (s1 : Tbitset_set_int_) (t2 : Tbitset_set_int_) (x3 : Tbitset_set_int_) (x4 : Int) : Option ((Tbitset_set_int_ × Int) ⊕ (Tbitset_set_int_ × Tbitset_set_int_ × Tbitset_set_int_)) :=
  bif (decide (x4 < 8)) then
    chk (0 ≤ x4 ∧ x4 < 8) <|
    ((s1.toList)[x4.toNat]?).bind fun s_e5 =>
    chk (0 ≤ x4 ∧ x4 < 8) <|
    ((t2.toList)[x4.toNat]?).bind fun t_e6 =>
    (bitset_Minus_1 s_e5 t_e6).bind fun r7 =>
    chk (0 ≤ x4 ∧ x4 < 8) <|
    ((x3.toList)[x4.toNat]?).bind fun _ =>
    cnt ((x3.set x4.toNat r7), IntKind.i64.wrap (x4 + 1))
  else
    lft (some (x3, s1, t2))
noncomputable def bitset_set_int_with_Minus_1 (s1 : Tbitset_set_int_) (t2 : Tbitset_set_int_) : Option (Tbitset_set_int_ × Tbitset_set_int_ × Tbitset_set_int_) :=
  LoopT (fun s => bitset_set_int_with_Minus_1_b1 s1 t2 s.1 s.2) ((Tbitset_set_int_.mk 0 0 0 0 0 0 0 0), 0)

noncomputable def bitset_Minus (a1 : (List Int)) (b2 : (List Int)) : Option ((List Int)) :=
  (bitset_of_int a1).bind fun r3 =>
  (bitset_of_int b2).bind fun r4 =>
  (bitset_set_int_with_Minus_1 r3 r4).bind fun r5 =>
  (bitset_set_int_list r5.1).bind fun r6 =>
  some r6.1

noncomputable def livecheck_First_1_p_fp_fp (need1 : (List Int)) (cap2 : (List Int)) (cap3 : TLive) (cap4 : Int) : Option (Bool × (List Int)) :=
  (ixO cap3.Out cap4).bind fun x_x5 =>
  (bitset_Minus need1 x_x5).bind fun r6 =>
  (bitset_Union cap2 r6).bind fun r7 =>
  some (true, r7)

noncomputable def livecheck_demands_sets_1_First_1p_b1 (r7 : (List Int)) (f1 : TFunc) (set3 : TLive) (visit5 : TLive) (visit6 : Int) (x8 : List Int) (x9 : Int) : Option (((List Int) × Int) ⊕ (Bool × (List Int))) :=
  bif (decide (x9 < (r7.length : Int))) then
    chk (0 ≤ x9 ∧ x9 < r7.length) <|
    ((r7)[x9.toNat]?).bind fun x_e10 =>
    (ixO f1.Code x_e10).bind fun x_x11 =>
    (livecheck_sets_1_fp x_e10 set3).bind fun r12 =>
    (effect_In x_x11 r12).bind fun r13 =>
    (livecheck_First_1_p_fp_fp r13 x8 visit5 visit6).bind fun r14 =>
    bif (!r14.1) then
      lft (some (false, r14.2))
    else
      cnt (r14.2, IntKind.i64.wrap (x9 + 1))
  else
    lft (some (true, x8))
noncomputable def livecheck_demands_sets_1_First_1p (f1 : TFunc) (k2 : Int) (set3 : TLive) (visit4 : (List Int)) (visit5 : TLive) (visit6 : Int) : Option (Bool × (List Int)) :=
  (flow_Next f1 k2).bind fun r7 =>
  LoopT (fun s => livecheck_demands_sets_1_First_1p_b1 r7 f1 set3 visit5 visit6 s.1 s.2) (visit4, 0)

noncomputable def livecheck_First_b1 (f1 : TFunc) (l2 : TLive) (x4 : Int) : Option ((Int) ⊕ (Int × Int × Bool)) :=
  bif (decide (x4 < (f1.Code.length : Int))) then
    (livecheck_sets l2).bind fun r5 =>
    (livecheck_demands_sets_1_First_1p f1 x4 r5 ([]) l2 x4).bind fun r6 =>
    bif (decide ((r6.2.length : Int) > 0)) then
      (ixO r6.2 0).bind fun x_x7 =>
      lft (some (x4, x_x7, true))
    else
      cnt (IntKind.i64.wrap (x4 + 1))
  else
    lft (some (0, 0, false))
noncomputable def livecheck_First (f1 : TFunc) (l2 : TLive) : Option (Int × Int × Bool) :=
  (livecheck_formed f1 l2).bind fun r3 =>
  bif (!r3) then
    some (0, 0, false)
  else
    LoopT (fun s => livecheck_First_b1 f1 l2 s) 0

noncomputable def livecheck_Check (f1 : TFunc) (l2 : TLive) : Option (Int) :=
  (livecheck_formed f1 l2).bind fun r3 =>
  bif (!r3) then
    some 11
  else
    (livecheck_First f1 l2).bind fun r4 =>
    bif r4.2.2 then
      some 11
    else
      some 0

noncomputable def law17_awake  : Option (Bool) :=
  (livecheck_Check (TFunc.mk 0 ([(TSlot.mk 8 8)] : List TSlot) ([(TInstr.mk 16 0 0 0 0), (TInstr.mk 15 0 0 0 0), (TInstr.mk 23 0 0 0 0)] : List TInstr)) (TLive.mk ([([0] : List Int), ([] : List Int), ([] : List Int)] : List (List Int)))).bind fun r1 =>
  bif (r1 == 0) then
    (livecheck_Check (TFunc.mk 0 ([(TSlot.mk 8 8)] : List TSlot) ([(TInstr.mk 16 0 0 0 0), (TInstr.mk 15 0 0 0 0), (TInstr.mk 23 0 0 0 0)] : List TInstr)) (TLive.mk ([([] : List Int), ([] : List Int), ([] : List Int)] : List (List Int)))).bind fun r2 =>
    some (r2 == 11)
  else
    some false

noncomputable def draw_New (list1 : (List Int)) (limit2 : Int) : Option (Tdraw_Codes) :=
  chk (0 ≤ (minI (list1.length : Int) limit2) ∧ (minI (list1.length : Int) limit2) ≤ list1.length) <|
  some (Tdraw_Codes.mk (list1.take (minI (list1.length : Int) limit2).toNat) 0)

noncomputable def draw_Codes_Left (c1 : Tdraw_Codes) : Option (Bool × Tdraw_Codes) :=
  some ((decide (c1.at_ < (c1.list.length : Int))), c1)

noncomputable def draw_Codes_Next_j1 (n2 : Int) (c3 : List Int) (c4 : Int) : Option (Int × Tdraw_Codes) :=
  (ixO c3 c4).bind fun x_x6 =>
  some (IntKind.i64.wrap ((IntKind.i64.wrap ((IntKind.i64.wrap (x_x6)) * n2)).tdiv 256), (Tdraw_Codes.mk c3 (IntKind.i64.wrap (c4 + 1))))
noncomputable def draw_Codes_Next (c1 : Tdraw_Codes) (n2 : Int) : Option (Int × Tdraw_Codes) :=
  (draw_Codes_Left c1).bind fun r5 =>
  bif (!r5.1) then
    some (0, r5.2)
  else
    bif (decide (n2 < 1)) then
      some (0, r5.2)
    else
      draw_Codes_Next_j1 n2 r5.2.list r5.2.at_

noncomputable def draw_Codes_Slot (c1 : Tdraw_Codes) : Option (TSlot × Tdraw_Codes) :=
  (draw_Codes_Next c1 7).bind fun r2 =>
  chk (0 ≤ r2.1 ∧ r2.1 < ([8, 4, 8, 1, 2, 16, 8] : List Int).length) <|
  ((([8, 4, 8, 1, 2, 16, 8] : List Int))[r2.1.toNat]?).bind fun x_e3 =>
  (draw_Codes_Next r2.2 8).bind fun r4 =>
  chk (0 ≤ r4.1 ∧ r4.1 < ([8, 4, 1, 8, 16, 2, 32, 64] : List Int).length) <|
  ((([8, 4, 1, 8, 16, 2, 32, 64] : List Int))[r4.1.toNat]?).bind fun x_e5 =>
  some ((TSlot.mk x_e3 x_e5), r4.2)

noncomputable def draw_Codes_Slots_b1 (c4 : List Int) (c5 : Int) (l6 : List TSlot) (n7 : Int) : Option (((List Int) × Int × (List TSlot) × Int) ⊕ ((List TSlot) × Tdraw_Codes)) :=
  bif (decide (n7 > 0)) then
    (draw_Codes_Slot (Tdraw_Codes.mk c4 c5)).bind fun r8 =>
    chk (l6.length + ([r8.1] : List TSlot).length ≤ 16777216) <|
    cnt (r8.2.list, r8.2.at_, l6 ++ ([r8.1] : List TSlot), IntKind.i64.wrap (n7 - 1))
  else
    lft (some (l6, (Tdraw_Codes.mk c4 c5)))
noncomputable def draw_Codes_Slots (c1 : Tdraw_Codes) (most2 : Int) : Option ((List TSlot) × Tdraw_Codes) :=
  (draw_Codes_Next c1 (IntKind.i64.wrap (most2 + 1))).bind fun r3 =>
  LoopT (fun s => draw_Codes_Slots_b1 s.1 s.2.1 s.2.2.1 s.2.2.2) (r3.2.list, r3.2.at_, ([] : List TSlot), r3.1)

noncomputable def draw_Codes_like_b1 (f2 : TFunc) (s3 : Int) (c1 : Tdraw_Codes) (l4 : List Int) (k5 : Int) : Option (((List Int) × Int) ⊕ (Int × Tdraw_Codes)) :=
  bif (decide (k5 < (f2.Slots.length : Int))) then
    (ixO f2.Slots k5).bind fun x_x6 =>
    (ixO f2.Slots s3).bind fun x_x7 =>
    bif (x_x6.Size == x_x7.Size) then
      chk (l4.length + ([k5] : List Int).length ≤ 16777216) <|
      cnt (l4 ++ ([k5] : List Int), IntKind.i64.wrap (k5 + 1))
    else
      cnt (l4, IntKind.i64.wrap (k5 + 1))
  else
    lft (
      (draw_Codes_Next c1 (l4.length : Int)).bind fun r8 =>
      chk (0 ≤ r8.1 ∧ r8.1 < l4.length) <|
      ((l4)[r8.1.toNat]?).bind fun l_e9 =>
      some (l_e9, r8.2))
noncomputable def draw_Codes_like (c1 : Tdraw_Codes) (f2 : TFunc) (s3 : Int) : Option (Int × Tdraw_Codes) :=
  LoopT (fun s => draw_Codes_like_b1 f2 s3 c1 s.1 s.2) (([] : List Int), 0)

noncomputable def draw_Codes_Word (c1 : Tdraw_Codes) : Option (Int × Tdraw_Codes) :=
  (draw_Codes_Next c1 6).bind fun r2 =>
  bif (r2.1 == 0) then
    (draw_Codes_Next r2.2 3).bind fun r3 =>
    some (IntKind.u64.wrap (18446744073709551615 - (IntKind.u64.wrap (r3.1))), r3.2)
  else
    bif (r2.1 == 1) then
      (draw_Codes_Next r2.2 64).bind fun r4 =>
      chk (0 ≤ r4.1) <|
      some (IntKind.u64.wrap (1 * 2 ^ (Nat.min r4.1.toNat IntKind.u64.bits)), r4.2)
    else
      bif (r2.1 == 2) then
        some (0, r2.2)
      else
        (draw_Codes_Next r2.2 256).bind fun r5 =>
        some (IntKind.u64.wrap (r5.1), r5.2)

noncomputable def draw_Codes_body_b7 (params4 : (List Int)) (i3 : Int) (r23 : Int × Tdraw_Codes) (c24 : List Int) (c25 : Int) (out26 : List TInstr) (a27 : Int) : Option (((List Int) × Int × (List TInstr) × Int) ⊕ ((List TInstr) × Tdraw_Codes)) :=
  (ixO params4 (IntKind.i64.wrap ((IntKind.i64.wrap (i3 + 1)) + r23.1))).bind fun x_x28 =>
  bif (decide (a27 < x_x28)) then
    (draw_Codes_Next (Tdraw_Codes.mk c24 c25) 8).bind fun r29 =>
    bif (decide (r29.1 < 7)) then
      (draw_Codes_Next r29.2 4).bind fun r30 =>
      chk (out26.length + ([(TInstr.mk 18 a27 r30.1 0 0)] : List TInstr).length ≤ 16777216) <|
      cnt (r30.2.list, r30.2.at_, out26 ++ ([(TInstr.mk 18 a27 r30.1 0 0)] : List TInstr), IntKind.i64.wrap (a27 + 1))
    else
      cnt (r29.2.list, r29.2.at_, out26, IntKind.i64.wrap (a27 + 1))
  else
    lft (
      chk (out26.length + ([(TInstr.mk 22 (IntKind.i64.wrap ((IntKind.i64.wrap (i3 + 1)) + r23.1)) 0 0 0)] : List TInstr).length ≤ 16777216) <|
      some (out26 ++ ([(TInstr.mk 22 (IntKind.i64.wrap ((IntKind.i64.wrap (i3 + 1)) + r23.1)) 0 0 0)] : List TInstr), (Tdraw_Codes.mk c24 c25)))
noncomputable def draw_Codes_body_j1 (r5 : Int × Tdraw_Codes) (r6 : Int × Tdraw_Codes) : Option ((List TInstr) × Tdraw_Codes) :=
  some (([(TInstr.mk 14 r5.1 0 0 0)] : List TInstr), r6.2)
noncomputable def draw_Codes_body_j6 (r6 : Int × Tdraw_Codes) (params4 : (List Int)) (i3 : Int) (r5 : Int × Tdraw_Codes) (x22 : Bool) : Option ((List TInstr) × Tdraw_Codes) :=
  bif x22 then
    (draw_Codes_Next r6.2 (IntKind.i64.wrap ((IntKind.i64.wrap ((params4.length : Int) - i3)) - 1))).bind fun r23 =>
    LoopT (fun s => draw_Codes_body_b7 params4 i3 r23 s.1 s.2.1 s.2.2.1 s.2.2.2) (r23.2.list, r23.2.at_, ([] : List TInstr), 0)
  else
    draw_Codes_body_j1 r5 r6
noncomputable def draw_Codes_body_j5 (r6 : Int × Tdraw_Codes) (f2 : TFunc) (r5 : Int × Tdraw_Codes) (params4 : (List Int)) (i3 : Int) (x20 : Bool) : Option ((List TInstr) × Tdraw_Codes) :=
  bif x20 then
    (draw_Codes_Next r6.2 f2.Params).bind fun r21 =>
    some (([(TInstr.mk 19 r5.1 r21.1 0 0)] : List TInstr), r21.2)
  else
    bif (decide (r6.1 ≥ 17)) then
      draw_Codes_body_j6 r6 params4 i3 r5 (decide ((IntKind.i64.wrap (i3 + 1)) < (params4.length : Int)))
    else
      draw_Codes_body_j6 r6 params4 i3 r5 false
noncomputable def draw_Codes_body_j4 (r6 : Int × Tdraw_Codes) (f2 : TFunc) (r5 : Int × Tdraw_Codes) (params4 : (List Int)) (i3 : Int) (x11 : Bool) : Option ((List TInstr) × Tdraw_Codes) :=
  bif x11 then
    (draw_Codes_Next r6.2 (f2.Slots.length : Int)).bind fun r12 =>
    (draw_Codes_like r12.2 f2 r12.1).bind fun r13 =>
    some (([(TInstr.mk 17 r13.1 r12.1 0 0)] : List TInstr), r13.2)
  else
    bif (decide (r6.1 < 11)) then
      (draw_Codes_Word r6.2).bind fun r14 =>
      some (([(TInstr.mk 0 r5.1 0 0 r14.1)] : List TInstr), r14.2)
    else
      bif (decide (r6.1 < 13)) then
        (draw_Codes_Next r6.2 10).bind fun r15 =>
        (draw_Codes_Next r15.2 4).bind fun r16 =>
        (draw_Codes_Next r16.2 8).bind fun r17 =>
        some (([(TInstr.mk (IntKind.i64.wrap (2 + r15.1)) r5.1 r16.1 r17.1 0)] : List TInstr), r17.2)
      else
        bif (decide (r6.1 < 15)) then
          some (([(TInstr.mk 14 r5.1 0 0 0)] : List TInstr), r6.2)
        else
          bif (r6.1 == 15) then
            (draw_Codes_Next r6.2 3).bind fun r18 =>
            chk (0 ≤ r18.1 ∧ r18.1 < ([13, 12, 1] : List Int).length) <|
            ((([13, 12, 1] : List Int))[r18.1.toNat]?).bind fun x_e19 =>
            some (([(TInstr.mk x_e19 r5.1 0 0 0)] : List TInstr), r18.2)
          else
            bif (r6.1 == 16) then
              draw_Codes_body_j5 r6 f2 r5 params4 i3 (decide (f2.Params > 0))
            else
              draw_Codes_body_j5 r6 f2 r5 params4 i3 false
noncomputable def draw_Codes_body_j3 (r6 : Int × Tdraw_Codes) (f2 : TFunc) (r5 : Int × Tdraw_Codes) (params4 : (List Int)) (i3 : Int) (x9 : Bool) : Option ((List TInstr) × Tdraw_Codes) :=
  bif x9 then
    (draw_Codes_Next r6.2 (f2.Slots.length : Int)).bind fun r10 =>
    some (([(TInstr.mk 15 r5.1 r10.1 0 0)] : List TInstr), r10.2)
  else
    bif (decide (r6.1 < 9)) then
      draw_Codes_body_j4 r6 f2 r5 params4 i3 (decide ((f2.Slots.length : Int) > 0))
    else
      draw_Codes_body_j4 r6 f2 r5 params4 i3 false
noncomputable def draw_Codes_body_j2 (r6 : Int × Tdraw_Codes) (f2 : TFunc) (r5 : Int × Tdraw_Codes) (params4 : (List Int)) (i3 : Int) (x7 : Bool) : Option ((List TInstr) × Tdraw_Codes) :=
  bif x7 then
    (draw_Codes_Next r6.2 (f2.Slots.length : Int)).bind fun r8 =>
    some (([(TInstr.mk 16 r8.1 r5.1 0 0)] : List TInstr), r8.2)
  else
    bif (decide (r6.1 < 6)) then
      draw_Codes_body_j3 r6 f2 r5 params4 i3 (decide ((f2.Slots.length : Int) > 0))
    else
      draw_Codes_body_j3 r6 f2 r5 params4 i3 false
noncomputable def draw_Codes_body (c1 : Tdraw_Codes) (f2 : TFunc) (i3 : Int) (params4 : (List Int)) : Option ((List TInstr) × Tdraw_Codes) :=
  (draw_Codes_Next c1 4).bind fun r5 =>
  (draw_Codes_Next r5.2 20).bind fun r6 =>
  bif (decide (r6.1 < 3)) then
    draw_Codes_body_j2 r6 f2 r5 params4 i3 (decide ((f2.Slots.length : Int) > 0))
  else
    draw_Codes_body_j2 r6 f2 r5 params4 i3 false

noncomputable def draw_Codes_function_j6 (k32 : Int) (code31 : List TInstr) (r33 : Int × Tdraw_Codes) (to34 : Int) (x35 : Bool) : Option (((List Int) × Int × (List TInstr) × Int) ⊕ (TFunc × Tdraw_Codes)) :=
  bif x35 then
    chk (0 ≤ k32 ∧ k32 < code31.length) <|
    ((code31)[k32.toNat]?).bind fun code_o38 =>
    cnt (r33.2.list, r33.2.at_, code31.set k32.toNat (TInstr.mk code_o38.Op to34 code_o38.B code_o38.C code_o38.Imm), IntKind.i64.wrap (k32 + 1))
  else
    chk (0 ≤ k32 ∧ k32 < code31.length) <|
    ((code31)[k32.toNat]?).bind fun code_e39 =>
    bif (code_e39.Op == 21) then
      chk (0 ≤ k32 ∧ k32 < code31.length) <|
      ((code31)[k32.toNat]?).bind fun code_e40 =>
      bif (decide (code_e40.B < 0)) then
        chk (0 ≤ k32 ∧ k32 < code31.length) <|
        ((code31)[k32.toNat]?).bind fun code_o41 =>
        cnt (r33.2.list, r33.2.at_, code31.set k32.toNat (TInstr.mk code_o41.Op code_o41.A to34 code_o41.C code_o41.Imm), IntKind.i64.wrap (k32 + 1))
      else
        cnt (r33.2.list, r33.2.at_, code31, IntKind.i64.wrap (k32 + 1))
    else
      cnt (r33.2.list, r33.2.at_, code31, IntKind.i64.wrap (k32 + 1))
noncomputable def draw_Codes_function_j5 (k32 : Int) (code31 : List TInstr) (r33 : Int × Tdraw_Codes) (to34 : Int) : Option (((List Int) × Int × (List TInstr) × Int) ⊕ (TFunc × Tdraw_Codes)) :=
  chk (0 ≤ k32 ∧ k32 < code31.length) <|
  ((code31)[k32.toNat]?).bind fun code_e36 =>
  bif (code_e36.Op == 20) then
    chk (0 ≤ k32 ∧ k32 < code31.length) <|
    ((code31)[k32.toNat]?).bind fun code_e37 =>
    draw_Codes_function_j6 k32 code31 r33 to34 (decide (code_e37.A < 0))
  else
    draw_Codes_function_j6 k32 code31 r33 to34 false
noncomputable def draw_Codes_function_b4 (x_x5 : Int) (f17 : List TSlot) (c29 : List Int) (c30 : Int) (code31 : List TInstr) (k32 : Int) : Option (((List Int) × Int × (List TInstr) × Int) ⊕ (TFunc × Tdraw_Codes)) :=
  bif (decide (k32 < (code31.length : Int))) then
    (draw_Codes_Next (Tdraw_Codes.mk c29 c30) 8).bind fun r33 =>
    bif (decide ((IntKind.i64.wrap ((IntKind.i64.wrap (k32 + r33.1)) - 2)) < 0)) then
      draw_Codes_function_j5 k32 code31 r33 (IntKind.i64.wrap ((code31.length : Int) - 1))
    else
      bif (decide ((IntKind.i64.wrap ((IntKind.i64.wrap (k32 + r33.1)) - 2)) ≥ (code31.length : Int))) then
        draw_Codes_function_j5 k32 code31 r33 (IntKind.i64.wrap ((code31.length : Int) - 1))
      else
        draw_Codes_function_j5 k32 code31 r33 (IntKind.i64.wrap ((IntKind.i64.wrap (k32 + r33.1)) - 2))
  else
    lft (some ((TFunc.mk x_x5 f17 code31), (Tdraw_Codes.mk c29 c30)))
noncomputable def draw_Codes_function_j3 (code16 : List TInstr) (x_x5 : Int) (f17 : List TSlot) (c23 : List Int) (c24 : Int) (end25 : Int) (end26 : Int) : Option (TFunc × Tdraw_Codes) :=
  chk (code16.length + ([(TInstr.mk end25 0 0 0 end26)] : List TInstr).length ≤ 16777216) <|
  LoopT (fun s => draw_Codes_function_b4 x_x5 f17 s.1 s.2.1 s.2.2.1 s.2.2.2) (c23, c24, code16 ++ ([(TInstr.mk end25 0 0 0 end26)] : List TInstr), 0)
noncomputable def draw_Codes_function_b2 (x_x5 : Int) (i2 : Int) (params3 : (List Int)) (c14 : List Int) (c15 : Int) (code16 : List TInstr) (f17 : List TSlot) (n18 : Int) : Option (((List Int) × Int × (List TInstr) × (List TSlot) × Int) ⊕ (TFunc × Tdraw_Codes)) :=
  bif (decide (n18 > 0)) then
    (draw_Codes_body (Tdraw_Codes.mk c14 c15) (TFunc.mk x_x5 f17 ([])) i2 params3).bind fun r19 =>
    chk (code16.length + r19.1.length ≤ 16777216) <|
    (draw_Codes_Next r19.2 9).bind fun r20 =>
    bif (r20.1 == 7) then
      (draw_Codes_Next r20.2 4).bind fun r21 =>
      chk ((code16 ++ r19.1).length + ([(TInstr.mk 21 r21.1 (-1) 0 0)] : List TInstr).length ≤ 16777216) <|
      cnt (r21.2.list, r21.2.at_, (code16 ++ r19.1) ++ ([(TInstr.mk 21 r21.1 (-1) 0 0)] : List TInstr), f17, IntKind.i64.wrap (n18 - 1))
    else
      bif (r20.1 == 8) then
        (draw_Codes_Next r20.2 3).bind fun r22 =>
        bif (r22.1 == 2) then
          chk ((code16 ++ r19.1).length + ([(TInstr.mk 20 (-1) 0 0 0)] : List TInstr).length ≤ 16777216) <|
          cnt (r22.2.list, r22.2.at_, (code16 ++ r19.1) ++ ([(TInstr.mk 20 (-1) 0 0 0)] : List TInstr), f17, IntKind.i64.wrap (n18 - 1))
        else
          cnt (r22.2.list, r22.2.at_, code16 ++ r19.1, f17, IntKind.i64.wrap (n18 - 1))
      else
        cnt (r20.2.list, r20.2.at_, code16 ++ r19.1, f17, IntKind.i64.wrap (n18 - 1))
  else
    lft (
      (draw_Codes_Next (Tdraw_Codes.mk c14 c15) 12).bind fun r27 =>
      bif (r27.1 == 11) then
        (draw_Codes_Word r27.2).bind fun r28 =>
        draw_Codes_function_j3 code16 x_x5 f17 r28.2.list r28.2.at_ 24 r28.1
      else
        draw_Codes_function_j3 code16 x_x5 f17 r27.2.list r27.2.at_ 23 0)
noncomputable def draw_Codes_function_b1 (r6 : (List TSlot) × Tdraw_Codes) (most4 : Int) (x_x5 : Int) (i2 : Int) (params3 : (List Int)) (c7 : List Int) (c8 : Int) (code9 : List TInstr) (s10 : Int) : Option (((List Int) × Int × (List TInstr) × Int) ⊕ (TFunc × Tdraw_Codes)) :=
  bif (decide (s10 < (r6.1.length : Int))) then
    (draw_Codes_Next (Tdraw_Codes.mk c7 c8) 4).bind fun r11 =>
    bif (decide (r11.1 < 3)) then
      (draw_Codes_Next r11.2 4).bind fun r12 =>
      chk (code9.length + ([(TInstr.mk 16 s10 r12.1 0 0)] : List TInstr).length ≤ 16777216) <|
      cnt (r12.2.list, r12.2.at_, code9 ++ ([(TInstr.mk 16 s10 r12.1 0 0)] : List TInstr), IntKind.i64.wrap (s10 + 1))
    else
      cnt (r11.2.list, r11.2.at_, code9, IntKind.i64.wrap (s10 + 1))
  else
    lft (
      (draw_Codes_Next (Tdraw_Codes.mk c7 c8) (IntKind.i64.wrap (most4 + 1))).bind fun r13 =>
      LoopT (fun s => draw_Codes_function_b2 x_x5 i2 params3 s.1 s.2.1 s.2.2.1 s.2.2.2.1 s.2.2.2.2) (r13.2.list, r13.2.at_, code9, r6.1, r13.1))
noncomputable def draw_Codes_function (c1 : Tdraw_Codes) (i2 : Int) (params3 : (List Int)) (most4 : Int) : Option (TFunc × Tdraw_Codes) :=
  (ixO params3 i2).bind fun x_x5 =>
  (draw_Codes_Slots c1 6).bind fun r6 =>
  LoopT (fun s => draw_Codes_function_b1 r6 most4 x_x5 i2 params3 s.1 s.2.1 s.2.2.1 s.2.2.2) (r6.2.list, r6.2.at_, ([] : List TInstr), 0)

noncomputable def draw_Codes_Program_b2 (most3 : Int) (c10 : List Int) (c11 : Int) (p12 : List TFunc) (i13 : Int) (params14 : List Int) : Option (((List Int) × Int × (List TFunc) × Int × (List Int)) ⊕ (TProgram × Tdraw_Codes)) :=
  bif (decide (i13 < (params14.length : Int))) then
    chk (([] : List TFunc).length + p12.length ≤ 16777216) <|
    (draw_Codes_function (Tdraw_Codes.mk c10 c11) i13 params14 most3).bind fun r15 =>
    chk ((([] : List TFunc) ++ p12).length + ([r15.1] : List TFunc).length ≤ 16777216) <|
    cnt (r15.2.list, r15.2.at_, (([] : List TFunc) ++ p12) ++ ([r15.1] : List TFunc), IntKind.i64.wrap (i13 + 1), params14)
  else
    lft (some ((TProgram.mk p12), (Tdraw_Codes.mk c10 c11)))
noncomputable def draw_Codes_Program_b1 (most3 : Int) (c5 : List Int) (c6 : Int) (params7 : List Int) (n8 : Int) : Option (((List Int) × Int × (List Int) × Int) ⊕ (TProgram × Tdraw_Codes)) :=
  bif (decide (n8 > 0)) then
    (draw_Codes_Next (Tdraw_Codes.mk c5 c6) 4).bind fun r9 =>
    chk (params7.length + ([r9.1] : List Int).length ≤ 16777216) <|
    cnt (r9.2.list, r9.2.at_, params7 ++ ([r9.1] : List Int), IntKind.i64.wrap (n8 - 1))
  else
    lft (LoopT (fun s => draw_Codes_Program_b2 most3 s.1 s.2.1 s.2.2.1 s.2.2.2.1 s.2.2.2.2) (c5, c6, [], 0, params7))
noncomputable def draw_Codes_Program (c1 : Tdraw_Codes) (funcs2 : Int) (most3 : Int) : Option (TProgram × Tdraw_Codes) :=
  (draw_Codes_Next c1 funcs2).bind fun r4 =>
  LoopT (fun s => draw_Codes_Program_b1 most3 s.1 s.2.1 s.2.2.1 s.2.2.2) (r4.2.list, r4.2.at_, ([0] : List Int), r4.1)

noncomputable def ref13_Next_j2 (x_x3 : TInstr) (k2 : Int) (x4 : Bool) : Option ((List Int)) :=
  bif x4 then
    some ([] : List Int)
  else
    bif (x_x3.Op == 21) then
      bif (decide (x_x3.B < (IntKind.i64.wrap (k2 + 1)))) then
        some ([x_x3.B, IntKind.i64.wrap (k2 + 1)] : List Int)
      else
        bif (decide (x_x3.B > (IntKind.i64.wrap (k2 + 1)))) then
          some ([IntKind.i64.wrap (k2 + 1), x_x3.B] : List Int)
        else
          some ([IntKind.i64.wrap (k2 + 1)] : List Int)
    else
      some ([IntKind.i64.wrap (k2 + 1)] : List Int)
noncomputable def ref13_Next_j1 (f1 : TFunc) (k2 : Int) : Option ((List Int)) :=
  (ixO f1.Code k2).bind fun x_x3 =>
  bif (x_x3.Op == 20) then
    some ([x_x3.A] : List Int)
  else
    bif (x_x3.Op == 23) then
      ref13_Next_j2 x_x3 k2 (x_x3.Op == 23)
    else
      ref13_Next_j2 x_x3 k2 (x_x3.Op == 24)
noncomputable def ref13_Next (f1 : TFunc) (k2 : Int) : Option ((List Int)) :=
  bif (decide (k2 < 0)) then
    some ([] : List Int)
  else
    bif (decide (k2 ≥ (f1.Code.length : Int))) then
      some ([] : List Int)
    else
      ref13_Next_j1 f1 k2

noncomputable def ref15_Removable (x1 : TInstr) : Option (Bool) :=
  bif (x1.Op == 16) then
    some true
  else
    some (x1.Op == 17)

noncomputable def ref15_Defines (x1 : TInstr) : Option (Int × Bool) :=
  (ref15_Removable x1).bind fun r2 =>
  bif r2 then
    some (x1.A, true)
  else
    some (0, false)

noncomputable def ref04_Remove_b1 (s1 : (List Int)) (n2 : Int) (out3 : List Int) (i4 : Int) : Option (((List Int) × Int) ⊕ ((List Int))) :=
  bif (decide (i4 < (s1.length : Int))) then
    (ixO s1 i4).bind fun x_x5 =>
    bif (x_x5 != n2) then
      (ixO s1 i4).bind fun x_x6 =>
      chk (out3.length + ([x_x6] : List Int).length ≤ 16777216) <|
      cnt (out3 ++ ([x_x6] : List Int), IntKind.i64.wrap (i4 + 1))
    else
      cnt (out3, IntKind.i64.wrap (i4 + 1))
  else
    lft (some out3)
noncomputable def ref04_Remove (s1 : (List Int)) (n2 : Int) : Option ((List Int)) :=
  LoopT (fun s => ref04_Remove_b1 s1 n2 s.1 s.2) (([] : List Int), 0)

noncomputable def ref15_Uses (x1 : TInstr) : Option ((List Int)) :=
  bif (x1.Op == 15) then
    some ([x1.B] : List Int)
  else
    bif (x1.Op == 17) then
      some ([x1.B] : List Int)
    else
      some ([] : List Int)

noncomputable def ref04_good (n1 : Int) : Option (Bool) :=
  bif (decide (n1 ≥ 0)) then
    some (decide (n1 < 512))
  else
    some false

noncomputable def ref04_Add_j2 (s1 : (List Int)) (i6 : Int) (out7 : List Int) (done8 : Bool) : Option (((List Int) × Bool × Int) ⊕ ((List Int))) :=
  (ixO s1 i6).bind fun x_x12 =>
  chk (out7.length + ([x_x12] : List Int).length ≤ 16777216) <|
  cnt (out7 ++ ([x_x12] : List Int), done8, IntKind.i64.wrap (i6 + 1))
noncomputable def ref04_Add_j3 (s1 : (List Int)) (i6 : Int) (n2 : Int) (out4 : List Int) (done5 : Bool) (x9 : Bool) : Option (((List Int) × Bool × Int) ⊕ ((List Int))) :=
  bif x9 then
    (ixO s1 i6).bind fun x_x11 =>
    bif (decide (x_x11 > n2)) then
      chk (out4.length + ([n2] : List Int).length ≤ 16777216) <|
      ref04_Add_j2 s1 i6 (out4 ++ ([n2] : List Int)) true
    else
      ref04_Add_j2 s1 i6 out4 true
  else
    ref04_Add_j2 s1 i6 out4 done5
noncomputable def ref04_Add_b1 (s1 : (List Int)) (n2 : Int) (out4 : List Int) (done5 : Bool) (i6 : Int) : Option (((List Int) × Bool × Int) ⊕ ((List Int))) :=
  bif (decide (i6 < (s1.length : Int))) then
    bif (!done5) then
      (ixO s1 i6).bind fun x_x10 =>
      ref04_Add_j3 s1 i6 n2 out4 done5 (decide (x_x10 ≥ n2))
    else
      ref04_Add_j3 s1 i6 n2 out4 done5 false
  else
    lft (
      bif (!done5) then
        chk (out4.length + ([n2] : List Int).length ≤ 16777216) <|
        some (out4 ++ ([n2] : List Int))
      else
        some out4)
noncomputable def ref04_Add (s1 : (List Int)) (n2 : Int) : Option ((List Int)) :=
  (ref04_good n2).bind fun r3 =>
  LoopT (fun s => ref04_Add_b1 s1 n2 s.1 s.2.1 s.2.2) (([] : List Int), (!r3), 0)

noncomputable def ref04_Union_b1 (b2 : (List Int)) (out3 : List Int) (i4 : Int) : Option (((List Int) × Int) ⊕ ((List Int))) :=
  bif (decide (i4 < (b2.length : Int))) then
    (ixO b2 i4).bind fun x_x5 =>
    (ref04_Add out3 x_x5).bind fun r6 =>
    cnt (r6, IntKind.i64.wrap (i4 + 1))
  else
    lft (some out3)
noncomputable def ref04_Union (a1 : (List Int)) (b2 : (List Int)) : Option ((List Int)) :=
  chk (([] : List Int).length + a1.length ≤ 16777216) <|
  LoopT (fun s => ref04_Union_b1 b2 s.1 s.2) (([] : List Int) ++ a1, 0)

noncomputable def ref15_In (x1 : TInstr) (out2 : (List Int)) : Option ((List Int)) :=
  (ref15_Defines x1).bind fun r3 =>
  bif r3.2 then
    (ref04_Remove out2 r3.1).bind fun r4 =>
    (ref15_Uses x1).bind fun r5 =>
    (ref04_Union r4 r5).bind fun r6 =>
    some r6
  else
    (ref15_Uses x1).bind fun r7 =>
    (ref04_Union out2 r7).bind fun r8 =>
    some r8

noncomputable def ref16_Step_j2 (k4 : Int) (x5 : List (List Int)) : Option (((List (List Int)) × Int) ⊕ (TLive)) :=
  cnt (x5, IntKind.i64.wrap (k4 + 1))
noncomputable def ref16_Step_b3 (r6 : (List Int)) (k4 : Int) (f1 : TFunc) (l2 : TLive) (x7 : List (List Int)) (i8 : Int) : Option (((List (List Int)) × Int) ⊕ (((List (List Int)) × Int) ⊕ (TLive))) :=
  bif (decide (i8 < (r6.length : Int))) then
    chk (0 ≤ i8 ∧ i8 < r6.length) <|
    ((r6)[i8.toNat]?).bind fun next_e9 =>
    chk (0 ≤ k4 ∧ k4 < x7.length) <|
    ((x7)[k4.toNat]?).bind fun x_e10 =>
    (ixO f1.Code next_e9).bind fun x_x11 =>
    (ixO l2.Out next_e9).bind fun x_x12 =>
    (ref15_In x_x11 x_x12).bind fun r13 =>
    (ref04_Union x_e10 r13).bind fun r14 =>
    chk (0 ≤ k4 ∧ k4 < x7.length) <|
    ((x7)[k4.toNat]?).bind fun _ =>
    cnt (x7.set k4.toNat r14, IntKind.i64.wrap (i8 + 1))
  else
    lft (ref16_Step_j2 k4 x7)
noncomputable def ref16_Step_b1 (f1 : TFunc) (l2 : TLive) (x3 : List (List Int)) (k4 : Int) : Option (((List (List Int)) × Int) ⊕ (TLive)) :=
  bif (decide (k4 < (f1.Code.length : Int))) then
    (ref13_Next f1 k4).bind fun r6 =>
    LoopT (fun s => ref16_Step_b3 r6 k4 f1 l2 s.1 s.2) (x3, 0)
  else
    lft (some (TLive.mk x3))
noncomputable def ref16_Step (f1 : TFunc) (l2 : TLive) : Option (TLive) :=
  chk (0 ≤ (f1.Code.length : Int) ∧ (f1.Code.length : Int) ≤ 16777216) <|
  LoopT (fun s => ref16_Step_b1 f1 l2 s.1 s.2) (List.replicate (f1.Code.length : Int).toNat ([] : (List Int)), 0)

noncomputable def ref04_Same_b1 (a1 : (List Int)) (b2 : (List Int)) (i3 : Int) : Option ((Int) ⊕ (Bool)) :=
  bif (decide (i3 < (a1.length : Int))) then
    (ixO a1 i3).bind fun x_x4 =>
    (ixO b2 i3).bind fun x_x5 =>
    bif (x_x4 != x_x5) then
      lft (some false)
    else
      cnt (IntKind.i64.wrap (i3 + 1))
  else
    lft (some true)
noncomputable def ref04_Same (a1 : (List Int)) (b2 : (List Int)) : Option (Bool) :=
  bif ((a1.length : Int) != (b2.length : Int)) then
    some false
  else
    LoopT (fun s => ref04_Same_b1 a1 b2 s) 0

noncomputable def ref04_SameAll_b1 (a1 : (List (List Int))) (b2 : (List (List Int))) (i3 : Int) : Option ((Int) ⊕ (Bool)) :=
  bif (decide (i3 < (a1.length : Int))) then
    (ixO a1 i3).bind fun x_x4 =>
    (ixO b2 i3).bind fun x_x5 =>
    (ref04_Same x_x4 x_x5).bind fun r6 =>
    bif (!r6) then
      lft (some false)
    else
      cnt (IntKind.i64.wrap (i3 + 1))
  else
    lft (some true)
noncomputable def ref04_SameAll (a1 : (List (List Int))) (b2 : (List (List Int))) : Option (Bool) :=
  bif ((a1.length : Int) != (b2.length : Int)) then
    some false
  else
    LoopT (fun s => ref04_SameAll_b1 a1 b2 s) 0

noncomputable def ref16_Same (a1 : TLive) (b2 : TLive) : Option (Bool) :=
  (ref04_SameAll a1.Out b2.Out).bind fun r3 =>
  some r3

noncomputable def ref16_Solve_b1 (f1 : TFunc) (l2 : List (List Int)) : Option (((List (List Int))) ⊕ (TLive)) :=
  (ref16_Step f1 (TLive.mk l2)).bind fun r3 =>
  (ref16_Same r3 (TLive.mk l2)).bind fun r4 =>
  bif r4 then
    lft (some (TLive.mk l2))
  else
    cnt r3.Out
noncomputable def ref16_Solve (f1 : TFunc) : Option (TLive) :=
  chk (0 ≤ (f1.Code.length : Int) ∧ (f1.Code.length : Int) ≤ 16777216) <|
  LoopT (fun s => ref16_Solve_b1 f1 s) (List.replicate (f1.Code.length : Int).toNat ([] : (List Int)))

noncomputable def draw_Codes_Int (c1 : Tdraw_Codes) : Option (Int × Tdraw_Codes) :=
  (draw_Codes_Next c1 12).bind fun r2 =>
  bif (r2.1 == 11) then
    (draw_Codes_Next r2.2 (([9223372036854775807, (-9223372036854775808), 2147483648, 2147483647, (-1), 16777216, 33554432, 1048577, 512, 80] : List Int).length : Int)).bind fun r3 =>
    chk (0 ≤ r3.1 ∧ r3.1 < ([9223372036854775807, (-9223372036854775808), 2147483648, 2147483647, (-1), 16777216, 33554432, 1048577, 512, 80] : List Int).length) <|
    ((([9223372036854775807, (-9223372036854775808), 2147483648, 2147483647, (-1), 16777216, 33554432, 1048577, 512, 80] : List Int))[r3.1.toNat]?).bind fun l_e4 =>
    some (l_e4, r3.2)
  else
    (draw_Codes_Next r2.2 256).bind fun r5 =>
    (draw_Codes_Next r5.2 7).bind fun r6 =>
    chk (0 ≤ r6.1) <|
    some (IntKind.i64.wrap ((r5.1.fdiv (2 ^ (Nat.min r6.1.toNat IntKind.i64.bits))) - (IntKind.i64.wrap (r2.1.tdiv 9))), r6.2)

noncomputable def draw_Codes_Live_j4 (n12 : Int) (c13 : List Int) (c14 : Int) (x15 : List (List Int)) : Option (((List Int) × Int × (List (List Int)) × Int) ⊕ (TLive × Tdraw_Codes)) :=
  cnt (c13, c14, x15, IntKind.i64.wrap (n12 - 1))
noncomputable def draw_Codes_Live_b5 (r16 : Int × Tdraw_Codes) (n12 : Int) (r17 : Int × Tdraw_Codes) (x18 : List (List Int)) (k19 : Int) : Option (((List (List Int)) × Int) ⊕ (((List Int) × Int × (List (List Int)) × Int) ⊕ (TLive × Tdraw_Codes))) :=
  bif (decide (k19 < (x18.length : Int))) then
    chk (0 ≤ k19 ∧ k19 < x18.length) <|
    ((x18)[k19.toNat]?).bind fun x_e20 =>
    (ref04_Add x_e20 r16.1).bind fun r21 =>
    chk (0 ≤ k19 ∧ k19 < x18.length) <|
    ((x18)[k19.toNat]?).bind fun _ =>
    cnt (x18.set k19.toNat r21, IntKind.i64.wrap (k19 + 1))
  else
    lft (draw_Codes_Live_j4 n12 r17.2.list r17.2.at_ x18)
noncomputable def draw_Codes_Live_j3 (c9 : List Int) (c10 : Int) (f2 : TFunc) (n12 : Int) (x11 : List (List Int)) : Option (((List Int) × Int × (List (List Int)) × Int) ⊕ (TLive × Tdraw_Codes)) :=
  (draw_Codes_Next (Tdraw_Codes.mk c9 c10) (f2.Slots.length : Int)).bind fun r16 =>
  (draw_Codes_Next r16.2 2).bind fun r17 =>
  bif (r17.1 == 0) then
    LoopT (fun s => draw_Codes_Live_b5 r16 n12 r17 s.1 s.2) (x11, 0)
  else
    (draw_Codes_Next r17.2 (x11.length : Int)).bind fun r23 =>
    (draw_Codes_Next r23.2 2).bind fun r24 =>
    bif (r24.1 == 0) then
      chk (0 ≤ r23.1 ∧ r23.1 < x11.length) <|
      ((x11)[r23.1.toNat]?).bind fun x_e25 =>
      (ref04_Add x_e25 r16.1).bind fun r26 =>
      chk (0 ≤ r23.1 ∧ r23.1 < x11.length) <|
      ((x11)[r23.1.toNat]?).bind fun _ =>
      draw_Codes_Live_j4 n12 r24.2.list r24.2.at_ (x11.set r23.1.toNat r26)
    else
      chk (0 ≤ r23.1 ∧ r23.1 < x11.length) <|
      ((x11)[r23.1.toNat]?).bind fun x_e28 =>
      (ref04_Remove x_e28 r16.1).bind fun r29 =>
      chk (0 ≤ r23.1 ∧ r23.1 < x11.length) <|
      ((x11)[r23.1.toNat]?).bind fun _ =>
      draw_Codes_Live_j4 n12 r24.2.list r24.2.at_ (x11.set r23.1.toNat r29)
noncomputable def draw_Codes_Live_j1 (c5 : List Int) (c6 : Int) (x7 : List (List Int)) : Option (TLive × Tdraw_Codes) :=
  (draw_Codes_Next (Tdraw_Codes.mk c5 c6) 12).bind fun r31 =>
  bif (r31.1 == 10) then
    chk (0 ≤ (1 : Int) ∧ (1 : Int) ≤ x7.length) <|
    some ((TLive.mk (x7.drop ((1 : Int).toNat))), r31.2)
  else
    bif (r31.1 == 11) then
      (draw_Codes_Int r31.2).bind fun r32 =>
      (draw_Codes_Int r32.2).bind fun r33 =>
      chk (0 ≤ (0 : Int) ∧ (0 : Int) < x7.length) <|
      ((x7)[(0 : Int).toNat]?).bind fun _ =>
      some ((TLive.mk (x7.set ((0 : Int).toNat) ([r32.1, r33.1] : List Int))), r33.2)
    else
      some ((TLive.mk x7), r31.2)
noncomputable def draw_Codes_Live_b2 (f2 : TFunc) (c9 : List Int) (c10 : Int) (x11 : List (List Int)) (n12 : Int) : Option (((List Int) × Int × (List (List Int)) × Int) ⊕ (TLive × Tdraw_Codes)) :=
  bif (decide (n12 > 0)) then
    bif (decide ((f2.Slots.length : Int) > 0)) then
      draw_Codes_Live_j3 c9 c10 f2 n12 x11
    else
      lft (draw_Codes_Live_j1 c9 c10 x11)
  else
    lft (draw_Codes_Live_j1 c9 c10 x11)
noncomputable def draw_Codes_Live (c1 : Tdraw_Codes) (f2 : TFunc) : Option (TLive × Tdraw_Codes) :=
  (ref16_Solve f2).bind fun r3 =>
  (draw_Codes_Next c1 3).bind fun r4 =>
  bif (r4.1 == 0) then
    some (r3, r4.2)
  else
    chk (([] : List (List Int)).length + r3.Out.length ≤ 16777216) <|
    (draw_Codes_Next r4.2 4).bind fun r8 =>
    LoopT (fun s => draw_Codes_Live_b2 f2 s.1 s.2.1 s.2.2.1 s.2.2.2) (r8.2.list, r8.2.at_, ([] : List (List Int)) ++ r3.Out, r8.1)

noncomputable def law17_scene (codes1 : (List Int)) : Option (TFunc × TLive × Tdraw_Codes) :=
  (draw_New codes1 250).bind fun r2 =>
  (draw_Codes_Program r2 3 12).bind fun r3 =>
  (draw_Codes_Next r3.2 (r3.1.Funcs.length : Int)).bind fun r4 =>
  (ixO r3.1.Funcs r4.1).bind fun x_x5 =>
  (draw_Codes_Live r4.2 x_x5).bind fun r6 =>
  some (x_x5, r6.1, r6.2)

noncomputable def livecheck_Slack_1_fp_fp_fp (j1 : Int) (cap2 : Int) (cap3 : (List Int)) (cap4 : TLive) : Option ((List Int)) :=
  bif (j1 == cap2) then
    some cap3
  else
    (ixO cap4.Out j1).bind fun x_x5 =>
    some x_x5

noncomputable def bitset_set_int_has_fp (s1 : Tbitset_set_int_) (n2 : Int) : Option (Bool) :=
  (bitset_within_int n2).bind fun r3 =>
  bif r3 then
    chk (0 ≤ (IntKind.i64.wrap (n2.tdiv 64)) ∧ (IntKind.i64.wrap (n2.tdiv 64)) < 8) <|
    ((s1.toList)[(IntKind.i64.wrap (n2.tdiv 64)).toNat]?).bind fun e4 =>
    chk (0 ≤ ((IntKind.u64.wrap (n2)).tmod 64)) <|
    some ((IntKind.u64.wrap ((BitVec.ofInt IntKind.u64.bits (e4.fdiv (2 ^ (Nat.min ((IntKind.u64.wrap (n2)).tmod 64).toNat IntKind.u64.bits))) &&& BitVec.ofInt IntKind.u64.bits 1).toNat)) == 1)
  else
    some false

noncomputable def bitset_Within_1_fp (n1 : Int) (cap2 : Tbitset_set_int_) : Option (Bool) :=
  (bitset_set_int_has_fp cap2 n1).bind fun r3 =>
  some (!r3)

noncomputable def slices_IndexFunc_int_int_Within_1fp_b1 (s1 : (List Int)) (f2 : Tbitset_set_int_) (x3 : Int) : Option ((Int) ⊕ (Int)) :=
  bif (decide (x3 < (s1.length : Int))) then
    (ixO s1 x3).bind fun x_x4 =>
    (bitset_Within_1_fp x_x4 f2).bind fun r5 =>
    bif r5 then
      lft (some x3)
    else
      cnt (IntKind.i64.wrap (x3 + 1))
  else
    lft (some (-1))
noncomputable def slices_IndexFunc_int_int_Within_1fp (s1 : (List Int)) (f2 : Tbitset_set_int_) : Option (Int) :=
  LoopT (fun s => slices_IndexFunc_int_int_Within_1fp_b1 s1 f2 s) 0

noncomputable def slices_ContainsFunc_int_int_Within_1fp (s1 : (List Int)) (f2 : Tbitset_set_int_) : Option (Bool) :=
  (slices_IndexFunc_int_int_Within_1fp s1 f2).bind fun r3 =>
  some (decide (r3 ≥ 0))

noncomputable def bitset_Within (a1 : (List Int)) (b2 : (List Int)) : Option (Bool) :=
  (bitset_of_int b2).bind fun r3 =>
  (slices_ContainsFunc_int_int_Within_1fp a1 r3).bind fun r4 =>
  some (!r4)

noncomputable def livecheck_holds_1_Slack_1_fp (need1 : (List Int)) (cap2 : Int) (cap3 : (List Int)) (cap4 : TLive) (cap5 : Int) : Option (Bool) :=
  (livecheck_Slack_1_fp_fp_fp cap5 cap2 cap3 cap4).bind fun r6 =>
  (bitset_Within need1 r6).bind fun r7 =>
  some r7

noncomputable def livecheck_demands_Slack_1_holds_1Slack_1_b1 (r10 : (List Int)) (f1 : TFunc) (set3 : Int) (set4 : (List Int)) (set5 : TLive) (visit6 : Int) (visit7 : (List Int)) (visit8 : TLive) (visit9 : Int) (x11 : Int) : Option ((Int) ⊕ (Bool)) :=
  bif (decide (x11 < (r10.length : Int))) then
    chk (0 ≤ x11 ∧ x11 < r10.length) <|
    ((r10)[x11.toNat]?).bind fun x_e12 =>
    (ixO f1.Code x_e12).bind fun x_x13 =>
    (livecheck_Slack_1_fp_fp_fp x_e12 set3 set4 set5).bind fun r14 =>
    (effect_In x_x13 r14).bind fun r15 =>
    (livecheck_holds_1_Slack_1_fp r15 visit6 visit7 visit8 visit9).bind fun r16 =>
    bif (!r16) then
      lft (some false)
    else
      cnt (IntKind.i64.wrap (x11 + 1))
  else
    lft (some true)
noncomputable def livecheck_demands_Slack_1_holds_1Slack_1 (f1 : TFunc) (k2 : Int) (set3 : Int) (set4 : (List Int)) (set5 : TLive) (visit6 : Int) (visit7 : (List Int)) (visit8 : TLive) (visit9 : Int) : Option (Bool) :=
  (flow_Next f1 k2).bind fun r10 =>
  LoopT (fun s => livecheck_demands_Slack_1_holds_1Slack_1_b1 r10 f1 set3 set4 set5 visit6 visit7 visit8 visit9 s) 0

noncomputable def livecheck_holds_Slack_1 (f1 : TFunc) (k2 : Int) (set3 : Int) (set4 : (List Int)) (set5 : TLive) : Option (Bool) :=
  (livecheck_demands_Slack_1_holds_1Slack_1 f1 k2 set3 set4 set5 set3 set4 set5 k2).bind fun r6 =>
  some r6

noncomputable def livecheck_Slack_b2 (x_x6 : (List Int)) (f1 : TFunc) (x4 : Int) (l2 : TLive) (x7 : Int) (n8 : Int) : Option ((Int × Int) ⊕ ((Int × Int) ⊕ (Int))) :=
  bif (decide (x7 < (x_x6.length : Int))) then
    (ixO x_x6 x7).bind fun x_x9 =>
    (bitset_Remove x_x6 x_x9).bind fun r10 =>
    (livecheck_holds_Slack_1 f1 x4 x4 r10 l2).bind fun r11 =>
    bif r11 then
      cnt (IntKind.i64.wrap (x7 + 1), IntKind.i64.wrap (n8 + 1))
    else
      cnt (IntKind.i64.wrap (x7 + 1), n8)
  else
    lft (cnt (IntKind.i64.wrap (x4 + 1), n8))
noncomputable def livecheck_Slack_b1 (l2 : TLive) (f1 : TFunc) (x4 : Int) (n5 : Int) : Option ((Int × Int) ⊕ (Int)) :=
  bif (decide (x4 < (l2.Out.length : Int))) then
    (ixO l2.Out x4).bind fun x_x6 =>
    LoopT (fun s => livecheck_Slack_b2 x_x6 f1 x4 l2 s.1 s.2) (0, n5)
  else
    lft (some n5)
noncomputable def livecheck_Slack (f1 : TFunc) (l2 : TLive) : Option (Int) :=
  (livecheck_Check f1 l2).bind fun r3 =>
  bif (r3 != 0) then
    some 0
  else
    LoopT (fun s => livecheck_Slack_b1 l2 f1 s.1 s.2) (0, 0)

noncomputable def law17_LivecheckAcceptsSolutions_j3 (k8 : Int) (x7 : List (List Int)) (r4 : TFunc × TLive × Tdraw_Codes) (slot2 : Int) : Option (((List (List Int)) × Int) ⊕ (Bool)) :=
  chk (0 ≤ k8 ∧ k8 < x7.length) <|
  ((x7)[k8.toNat]?).bind fun x_e9 =>
  chk ((r4.1.Slots.length : Int) ≠ 0) <|
  (ref04_Add x_e9 ((IntKind.i64.wrap (slot2)).tmod (r4.1.Slots.length : Int))).bind fun r10 =>
  chk (0 ≤ k8 ∧ k8 < x7.length) <|
  ((x7)[k8.toNat]?).bind fun _ =>
  cnt (x7.set k8.toNat r10, IntKind.i64.wrap (k8 + 1))
noncomputable def law17_LivecheckAcceptsSolutions_j1 (r4 : TFunc × TLive × Tdraw_Codes) (r5 : TLive) (x6 : List (List Int)) : Option (Bool) :=
  (livecheck_Check r4.1 r5).bind fun r12 =>
  bif (r12 == 0) then
    (livecheck_Check r4.1 (TLive.mk x6)).bind fun r13 =>
    bif (r13 == 0) then
      (livecheck_Slack r4.1 r5).bind fun r14 =>
      some (r14 == 0)
    else
      some false
  else
    some false
noncomputable def law17_LivecheckAcceptsSolutions_b2 (r4 : TFunc × TLive × Tdraw_Codes) (slot2 : Int) (r5 : TLive) (x7 : List (List Int)) (k8 : Int) : Option (((List (List Int)) × Int) ⊕ (Bool)) :=
  bif (decide (k8 < (x7.length : Int))) then
    bif (decide ((r4.1.Slots.length : Int) > 0)) then
      law17_LivecheckAcceptsSolutions_j3 k8 x7 r4 slot2
    else
      lft (law17_LivecheckAcceptsSolutions_j1 r4 r5 x7)
  else
    lft (law17_LivecheckAcceptsSolutions_j1 r4 r5 x7)
noncomputable def law17_LivecheckAcceptsSolutions (codes1 : (List Int)) (slot2 : Int) : Option (Bool) :=
  (law17_awake).bind fun r3 =>
  bif (!r3) then
    some false
  else
    (law17_scene codes1).bind fun r4 =>
    (ref16_Solve r4.1).bind fun r5 =>
    chk (([] : List (List Int)).length + r5.Out.length ≤ 16777216) <|
    LoopT (fun s => law17_LivecheckAcceptsSolutions_b2 r4 slot2 r5 s.1 s.2) (([] : List (List Int)) ++ r5.Out, 0)

noncomputable def ref04_Check_b1 (s1 : (List Int)) (i2 : Int) : Option ((Int) ⊕ (Bool)) :=
  bif (decide (i2 < (s1.length : Int))) then
    (ixO s1 i2).bind fun x_x3 =>
    (ref04_good x_x3).bind fun r4 =>
    bif (!r4) then
      lft (some false)
    else
      bif (decide (i2 > 0)) then
        (ixO s1 i2).bind fun x_x5 =>
        (ixO s1 (IntKind.i64.wrap (i2 - 1))).bind fun x_x6 =>
        bif (decide (x_x5 ≤ x_x6)) then
          lft (some false)
        else
          cnt (IntKind.i64.wrap (i2 + 1))
      else
        cnt (IntKind.i64.wrap (i2 + 1))
  else
    lft (some true)
noncomputable def ref04_Check (s1 : (List Int)) : Option (Bool) :=
  LoopT (fun s => ref04_Check_b1 s1 s) 0

noncomputable def ref17_shape_b1 (l2 : TLive) (f1 : TFunc) (k3 : Int) : Option ((Int) ⊕ (Bool)) :=
  bif (decide (k3 < (l2.Out.length : Int))) then
    (ixO l2.Out k3).bind fun x_x4 =>
    (ref04_Check x_x4).bind fun r5 =>
    bif (!r5) then
      lft (some false)
    else
      (ixO l2.Out k3).bind fun x_x6 =>
      bif (decide ((x_x6.length : Int) > 0)) then
        (ixO l2.Out k3).bind fun x_x7 =>
        (ixO x_x7 (IntKind.i64.wrap ((x_x6.length : Int) - 1))).bind fun x_x8 =>
        bif (decide (x_x8 ≥ (f1.Slots.length : Int))) then
          lft (some false)
        else
          cnt (IntKind.i64.wrap (k3 + 1))
      else
        cnt (IntKind.i64.wrap (k3 + 1))
  else
    lft (some true)
noncomputable def ref17_shape (f1 : TFunc) (l2 : TLive) : Option (Bool) :=
  bif ((l2.Out.length : Int) != (f1.Code.length : Int)) then
    some false
  else
    LoopT (fun s => ref17_shape_b1 l2 f1 s) 0

noncomputable def ref04_Has_b1 (s1 : (List Int)) (n2 : Int) (i3 : Int) : Option ((Int) ⊕ (Bool)) :=
  bif (decide (i3 < (s1.length : Int))) then
    (ixO s1 i3).bind fun x_x4 =>
    bif (x_x4 == n2) then
      lft (some true)
    else
      cnt (IntKind.i64.wrap (i3 + 1))
  else
    lft (some false)
noncomputable def ref04_Has (s1 : (List Int)) (n2 : Int) : Option (Bool) :=
  LoopT (fun s => ref04_Has_b1 s1 n2 s) 0

noncomputable def ref04_Minus_b1 (a1 : (List Int)) (b2 : (List Int)) (out3 : List Int) (i4 : Int) : Option (((List Int) × Int) ⊕ ((List Int))) :=
  bif (decide (i4 < (a1.length : Int))) then
    (ixO a1 i4).bind fun x_x5 =>
    (ref04_Has b2 x_x5).bind fun r6 =>
    bif (!r6) then
      (ixO a1 i4).bind fun x_x7 =>
      chk (out3.length + ([x_x7] : List Int).length ≤ 16777216) <|
      cnt (out3 ++ ([x_x7] : List Int), IntKind.i64.wrap (i4 + 1))
    else
      cnt (out3, IntKind.i64.wrap (i4 + 1))
  else
    lft (some out3)
noncomputable def ref04_Minus (a1 : (List Int)) (b2 : (List Int)) : Option ((List Int)) :=
  LoopT (fun s => ref04_Minus_b1 a1 b2 s.1 s.2) (([] : List Int), 0)

noncomputable def ref17_missing_b1 (r4 : (List Int)) (f1 : TFunc) (l2 : TLive) (k3 : Int) (out5 : List Int) (i6 : Int) : Option (((List Int) × Int) ⊕ ((List Int))) :=
  bif (decide (i6 < (r4.length : Int))) then
    chk (0 ≤ i6 ∧ i6 < r4.length) <|
    ((r4)[i6.toNat]?).bind fun next_e7 =>
    (ixO f1.Code next_e7).bind fun x_x8 =>
    (ixO l2.Out next_e7).bind fun x_x9 =>
    (ref15_In x_x8 x_x9).bind fun r10 =>
    (ixO l2.Out k3).bind fun x_x11 =>
    (ref04_Minus r10 x_x11).bind fun r12 =>
    (ref04_Union out5 r12).bind fun r13 =>
    cnt (r13, IntKind.i64.wrap (i6 + 1))
  else
    lft (some out5)
noncomputable def ref17_missing (f1 : TFunc) (l2 : TLive) (k3 : Int) : Option ((List Int)) :=
  (ref13_Next f1 k3).bind fun r4 =>
  LoopT (fun s => ref17_missing_b1 r4 f1 l2 k3 s.1 s.2) (([] : List Int), 0)

noncomputable def ref17_First_b1 (f1 : TFunc) (l2 : TLive) (k4 : Int) : Option ((Int) ⊕ (Int × Int × Bool)) :=
  bif (decide (k4 < (f1.Code.length : Int))) then
    (ref17_missing f1 l2 k4).bind fun r5 =>
    bif (decide ((r5.length : Int) > 0)) then
      chk (0 ≤ (0 : Int) ∧ (0 : Int) < r5.length) <|
      ((r5)[(0 : Int).toNat]?).bind fun m_e6 =>
      lft (some (k4, m_e6, true))
    else
      cnt (IntKind.i64.wrap (k4 + 1))
  else
    lft (some (0, 0, false))
noncomputable def ref17_First (f1 : TFunc) (l2 : TLive) : Option (Int × Int × Bool) :=
  (ref17_shape f1 l2).bind fun r3 =>
  bif (!r3) then
    some (0, 0, false)
  else
    LoopT (fun s => ref17_First_b1 f1 l2 s) 0

noncomputable def ref17_Check (f1 : TFunc) (l2 : TLive) : Option (Int) :=
  (ref17_First f1 l2).bind fun r3 =>
  bif r3.2.2 then
    some 11
  else
    (ref17_shape f1 l2).bind fun r4 =>
    bif (!r4) then
      some 11
    else
      some 0

end Go.Proofs.YtcelninhkmhjkaaDoor
