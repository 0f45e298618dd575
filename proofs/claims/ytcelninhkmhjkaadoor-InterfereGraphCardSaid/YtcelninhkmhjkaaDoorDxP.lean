/-
 The programs on typed data; written by a program (dx.py).
-/
import Derived.Test.YtcelninhkmhjkaaDoorDxT
namespace Go.Proofs.YtcelninhkmhjkaaDoor
open Go Go.Dw Go.Proofs
set_option maxRecDepth 100000
noncomputable def KA (s1 : (List Kh)) (v2 : Kh) (x3 : Int) : Option ((Int) ⊕ (Int)) :=
 bif (decide (x3 < (s1.length : Int))) then
  (ixO s1 x3).bind fun x_x4 =>
  bif ((v2.a0 == x_x4.a0) && ((v2.a1 == x_x4.a1) && true)) then
   lft (some x3)
  else
   cnt (IntKind.i64.wrap (x3 + 1))
 else
  lft (some (-1))
noncomputable def LZ (s1 : (List Kh)) (v2 : Kh) : Option (Int) :=
 Ks (fun s=>KA s1 v2 s) 0

noncomputable def La (s1 : (List Kh)) (v2 : Kh) : Option (Bool) :=
 (LZ s1 v2).bind fun r3 =>
 some (decide (r3 ≥ 0))

noncomputable def Lj (f1 : JO) (l2 : List Kh) (x3 : Int) : Option (((List Kh) × Int) ⊕ ((List Kh))) :=
 bif (decide (x3 < (f1.Code.length : Int))) then
  (ixO f1.Code x3).bind fun x_x4 =>
  bif (x_x4.Op == 17) then
   bif (x_x4.A != x_x4.B) then
    (La l2 (Kh.mk x_x4.A x_x4.B)).bind fun r5 =>
    bif (!r5) then
     chk (l2.length + ([(Kh.mk x_x4.A x_x4.B)] : List Kh).length ≤ 16777216) <|
     cnt (l2 ++ ([(Kh.mk x_x4.A x_x4.B)] : List Kh),IntKind.i64.wrap (x3 + 1))
    else
     cnt (l2,IntKind.i64.wrap (x3 + 1))
   else
    cnt (l2,IntKind.i64.wrap (x3 + 1))
  else
   cnt (l2,IntKind.i64.wrap (x3 + 1))
 else
  lft (some l2)
noncomputable def Oj (f1 : JO) : Option ((List Kh)) :=
 Ks (fun s=>Lj f1 s.1 s.2) (([] : List Kh),0)

noncomputable def Rk  : Option (Bool) :=
 (Oj (JO.mk 0 ([(Kr.mk 8 8),(Kr.mk 8 8)] : List Kr) ([(JL.mk 17 0 1 0 0),(JL.mk 23 0 0 0 0)] : List JL))).bind fun r1 =>
 some ((r1.length : Int) == 1)

noncomputable def Vs (list1 : (List Int)) (limit2 : Int) : Option (JK) :=
 chk (0 ≤ (UI (list1.length : Int) limit2) ∧ (UI (list1.length : Int) limit2) ≤ list1.length) <|
 some (JK.mk (list1.take (UI (list1.length : Int) limit2).toNat) 0)

noncomputable def Px (c1 : JK) : Option (Bool × JK) :=
 some ((decide (c1.at_ < (c1.list.length : Int))),c1)

noncomputable def PC (n2 : Int) (c3 : List Int) (c4 : Int) : Option (Int × JK) :=
 (ixO c3 c4).bind fun x_x6 =>
 some (IntKind.i64.wrap ((IntKind.i64.wrap ((IntKind.i64.wrap (x_x6)) * n2)).tdiv 256),(JK.mk c3 (IntKind.i64.wrap (c4 + 1))))
noncomputable def JV (c1 : JK) (n2 : Int) : Option (Int × JK) :=
 (Px c1).bind fun r5 =>
 bif (!r5.1) then
  some (0,r5.2)
 else
  bif (decide (n2 < 1)) then
   some (0,r5.2)
  else
   PC n2 r5.2.list r5.2.at_

noncomputable def Of (c1 : JK) : Option (Kr × JK) :=
 (JV c1 7).bind fun r2 =>
 chk (0 ≤ r2.1 ∧ r2.1 < ([8,4,8,1,2,16,8] : List Int).length) <|
 ((([8,4,8,1,2,16,8] : List Int))[r2.1.toNat]?).bind fun x_e3 =>
 (JV r2.2 8).bind fun r4 =>
 chk (0 ≤ r4.1 ∧ r4.1 < ([8,4,1,8,16,2,32,64] : List Int).length) <|
 ((([8,4,1,8,16,2,32,64] : List Int))[r4.1.toNat]?).bind fun x_e5 =>
 some ((Kr.mk x_e3 x_e5),r4.2)

noncomputable def Pc (c4 : List Int) (c5 : Int) (l6 : List Kr) (n7 : Int) : Option (((List Int) × Int × (List Kr) × Int) ⊕ ((List Kr) × JK)) :=
 bif (decide (n7 > 0)) then
  (Of (JK.mk c4 c5)).bind fun r8 =>
  chk (l6.length + ([r8.1] : List Kr).length ≤ 16777216) <|
  cnt (r8.2.list,r8.2.at_,l6 ++ ([r8.1] : List Kr),IntKind.i64.wrap (n7 - 1))
 else
  lft (some (l6,(JK.mk c4 c5)))
noncomputable def NA (c1 : JK) (most2 : Int) : Option ((List Kr) × JK) :=
 (JV c1 (IntKind.i64.wrap (most2 + 1))).bind fun r3 =>
 Ks (fun s=>Pc s.1 s.2.1 s.2.2.1 s.2.2.2) (r3.2.list,r3.2.at_,([] : List Kr),r3.1)

noncomputable def PE (f2 : JO) (s3 : Int) (c1 : JK) (l4 : List Int) (k5 : Int) : Option (((List Int) × Int) ⊕ (Int × JK)) :=
 bif (decide (k5 < (f2.Slots.length : Int))) then
  (ixO f2.Slots k5).bind fun x_x6 =>
  (ixO f2.Slots s3).bind fun x_x7 =>
  bif (x_x6.Size == x_x7.Size) then
   chk (l4.length + ([k5] : List Int).length ≤ 16777216) <|
   cnt (l4 ++ ([k5] : List Int),IntKind.i64.wrap (k5 + 1))
  else
   cnt (l4,IntKind.i64.wrap (k5 + 1))
 else
  lft (
   (JV c1 (l4.length : Int)).bind fun r8 =>
   chk (0 ≤ r8.1 ∧ r8.1 < l4.length) <|
   ((l4)[r8.1.toNat]?).bind fun l_e9 =>
   some (l_e9,r8.2))
noncomputable def Oh (c1 : JK) (f2 : JO) (s3 : Int) : Option (Int × JK) :=
 Ks (fun s=>PE f2 s3 c1 s.1 s.2) (([] : List Int),0)

noncomputable def Na (c1 : JK) : Option (Int × JK) :=
 (JV c1 6).bind fun r2 =>
 bif (r2.1 == 0) then
  (JV r2.2 3).bind fun r3 =>
  some (IntKind.u64.wrap (18446744073709551615 - (IntKind.u64.wrap (r3.1))),r3.2)
 else
  bif (r2.1 == 1) then
   (JV r2.2 64).bind fun r4 =>
   chk (0 ≤ r4.1) <|
   some (IntKind.u64.wrap (1 * 2 ^ (Nat.min r4.1.toNat IntKind.u64.bits)),r4.2)
  else
   bif (r2.1 == 2) then
    some (0,r2.2)
   else
    (JV r2.2 256).bind fun r5 =>
    some (IntKind.u64.wrap (r5.1),r5.2)

noncomputable def PD (params4 : (List Int)) (i3 : Int) (r23 : Int × JK) (c24 : List Int) (c25 : Int) (out26 : List JL) (a27 : Int) : Option (((List Int) × Int × (List JL) × Int) ⊕ ((List JL) × JK)) :=
 (ixO params4 (IntKind.i64.wrap ((IntKind.i64.wrap (i3 + 1)) + r23.1))).bind fun x_x28 =>
 bif (decide (a27 < x_x28)) then
  (JV (JK.mk c24 c25) 8).bind fun r29 =>
  bif (decide (r29.1 < 7)) then
   (JV r29.2 4).bind fun r30 =>
   chk (out26.length + ([(JL.mk 18 a27 r30.1 0 0)] : List JL).length ≤ 16777216) <|
   cnt (r30.2.list,r30.2.at_,out26 ++ ([(JL.mk 18 a27 r30.1 0 0)] : List JL),IntKind.i64.wrap (a27 + 1))
  else
   cnt (r29.2.list,r29.2.at_,out26,IntKind.i64.wrap (a27 + 1))
 else
  lft (
   chk (out26.length + ([(JL.mk 22 (IntKind.i64.wrap ((IntKind.i64.wrap (i3 + 1)) + r23.1)) 0 0 0)] : List JL).length ≤ 16777216) <|
   some (out26 ++ ([(JL.mk 22 (IntKind.i64.wrap ((IntKind.i64.wrap (i3 + 1)) + r23.1)) 0 0 0)] : List JL),(JK.mk c24 c25)))
noncomputable def Sk (r5 : Int × JK) (r6 : Int × JK) : Option ((List JL) × JK) :=
 some (([(JL.mk 14 r5.1 0 0 0)] : List JL),r6.2)
noncomputable def MM (r6 : Int × JK) (params4 : (List Int)) (i3 : Int) (r5 : Int × JK) (x22 : Bool) : Option ((List JL) × JK) :=
 bif x22 then
  (JV r6.2 (IntKind.i64.wrap ((IntKind.i64.wrap ((params4.length : Int) - i3)) - 1))).bind fun r23 =>
  Ks (fun s=>PD params4 i3 r23 s.1 s.2.1 s.2.2.1 s.2.2.2) (r23.2.list,r23.2.at_,([] : List JL),0)
 else
  Sk r5 r6
noncomputable def ML (r6 : Int × JK) (f2 : JO) (r5 : Int × JK) (params4 : (List Int)) (i3 : Int) (x20 : Bool) : Option ((List JL) × JK) :=
 bif x20 then
  (JV r6.2 f2.Params).bind fun r21 =>
  some (([(JL.mk 19 r5.1 r21.1 0 0)] : List JL),r21.2)
 else
  bif (decide (r6.1 ≥ 17)) then
   MM r6 params4 i3 r5 (decide ((IntKind.i64.wrap (i3 + 1)) < (params4.length : Int)))
  else
   MM r6 params4 i3 r5 false
noncomputable def MK (r6 : Int × JK) (f2 : JO) (r5 : Int × JK) (params4 : (List Int)) (i3 : Int) (x11 : Bool) : Option ((List JL) × JK) :=
 bif x11 then
  (JV r6.2 (f2.Slots.length : Int)).bind fun r12 =>
  (Oh r12.2 f2 r12.1).bind fun r13 =>
  some (([(JL.mk 17 r13.1 r12.1 0 0)] : List JL),r13.2)
 else
  bif (decide (r6.1 < 11)) then
   (Na r6.2).bind fun r14 =>
   some (([(JL.mk 0 r5.1 0 0 r14.1)] : List JL),r14.2)
  else
   bif (decide (r6.1 < 13)) then
    (JV r6.2 10).bind fun r15 =>
    (JV r15.2 4).bind fun r16 =>
    (JV r16.2 8).bind fun r17 =>
    some (([(JL.mk (IntKind.i64.wrap (2 + r15.1)) r5.1 r16.1 r17.1 0)] : List JL),r17.2)
   else
    bif (decide (r6.1 < 15)) then
     some (([(JL.mk 14 r5.1 0 0 0)] : List JL),r6.2)
    else
     bif (r6.1 == 15) then
      (JV r6.2 3).bind fun r18 =>
      chk (0 ≤ r18.1 ∧ r18.1 < ([13,12,1] : List Int).length) <|
      ((([13,12,1] : List Int))[r18.1.toNat]?).bind fun x_e19 =>
      some (([(JL.mk x_e19 r5.1 0 0 0)] : List JL),r18.2)
     else
      bif (r6.1 == 16) then
       ML r6 f2 r5 params4 i3 (decide (f2.Params > 0))
      else
       ML r6 f2 r5 params4 i3 false
noncomputable def MJ (r6 : Int × JK) (f2 : JO) (r5 : Int × JK) (params4 : (List Int)) (i3 : Int) (x9 : Bool) : Option ((List JL) × JK) :=
 bif x9 then
  (JV r6.2 (f2.Slots.length : Int)).bind fun r10 =>
  some (([(JL.mk 15 r5.1 r10.1 0 0)] : List JL),r10.2)
 else
  bif (decide (r6.1 < 9)) then
   MK r6 f2 r5 params4 i3 (decide ((f2.Slots.length : Int) > 0))
  else
   MK r6 f2 r5 params4 i3 false
noncomputable def MI (r6 : Int × JK) (f2 : JO) (r5 : Int × JK) (params4 : (List Int)) (i3 : Int) (x7 : Bool) : Option ((List JL) × JK) :=
 bif x7 then
  (JV r6.2 (f2.Slots.length : Int)).bind fun r8 =>
  some (([(JL.mk 16 r8.1 r5.1 0 0)] : List JL),r8.2)
 else
  bif (decide (r6.1 < 6)) then
   MJ r6 f2 r5 params4 i3 (decide ((f2.Slots.length : Int) > 0))
  else
   MJ r6 f2 r5 params4 i3 false
noncomputable def Og (c1 : JK) (f2 : JO) (i3 : Int) (params4 : (List Int)) : Option ((List JL) × JK) :=
 (JV c1 4).bind fun r5 =>
 (JV r5.2 20).bind fun r6 =>
 bif (decide (r6.1 < 3)) then
  MI r6 f2 r5 params4 i3 (decide ((f2.Slots.length : Int) > 0))
 else
  MI r6 f2 r5 params4 i3 false

noncomputable def Mu (k32 : Int) (code31 : List JL) (r33 : Int × JK) (to34 : Int) (x35 : Bool) : Option (((List Int) × Int × (List JL) × Int) ⊕ (JO × JK)) :=
 bif x35 then
  chk (0 ≤ k32 ∧ k32 < code31.length) <|
  ((code31)[k32.toNat]?).bind fun code_o38 =>
  cnt (r33.2.list,r33.2.at_,code31.set k32.toNat (JL.mk code_o38.Op to34 code_o38.B code_o38.C code_o38.Imm),IntKind.i64.wrap (k32 + 1))
 else
  chk (0 ≤ k32 ∧ k32 < code31.length) <|
  ((code31)[k32.toNat]?).bind fun code_e39 =>
  bif (code_e39.Op == 21) then
   chk (0 ≤ k32 ∧ k32 < code31.length) <|
   ((code31)[k32.toNat]?).bind fun code_e40 =>
   bif (decide (code_e40.B < 0)) then
    chk (0 ≤ k32 ∧ k32 < code31.length) <|
    ((code31)[k32.toNat]?).bind fun code_o41 =>
    cnt (r33.2.list,r33.2.at_,code31.set k32.toNat (JL.mk code_o41.Op code_o41.A to34 code_o41.C code_o41.Imm),IntKind.i64.wrap (k32 + 1))
   else
    cnt (r33.2.list,r33.2.at_,code31,IntKind.i64.wrap (k32 + 1))
  else
   cnt (r33.2.list,r33.2.at_,code31,IntKind.i64.wrap (k32 + 1))
noncomputable def KQ (k32 : Int) (code31 : List JL) (r33 : Int × JK) (to34 : Int) : Option (((List Int) × Int × (List JL) × Int) ⊕ (JO × JK)) :=
 chk (0 ≤ k32 ∧ k32 < code31.length) <|
 ((code31)[k32.toNat]?).bind fun code_e36 =>
 bif (code_e36.Op == 20) then
  chk (0 ≤ k32 ∧ k32 < code31.length) <|
  ((code31)[k32.toNat]?).bind fun code_e37 =>
  Mu k32 code31 r33 to34 (decide (code_e37.A < 0))
 else
  Mu k32 code31 r33 to34 false
noncomputable def Mt (x_x5 : Int) (f17 : List Kr) (c29 : List Int) (c30 : Int) (code31 : List JL) (k32 : Int) : Option (((List Int) × Int × (List JL) × Int) ⊕ (JO × JK)) :=
 bif (decide (k32 < (code31.length : Int))) then
  (JV (JK.mk c29 c30) 8).bind fun r33 =>
  bif (decide ((IntKind.i64.wrap ((IntKind.i64.wrap (k32 + r33.1)) - 2)) < 0)) then
   KQ k32 code31 r33 (IntKind.i64.wrap ((code31.length : Int) - 1))
  else
   bif (decide ((IntKind.i64.wrap ((IntKind.i64.wrap (k32 + r33.1)) - 2)) ≥ (code31.length : Int))) then
    KQ k32 code31 r33 (IntKind.i64.wrap ((code31.length : Int) - 1))
   else
    KQ k32 code31 r33 (IntKind.i64.wrap ((IntKind.i64.wrap (k32 + r33.1)) - 2))
 else
  lft (some ((JO.mk x_x5 f17 code31),(JK.mk c29 c30)))
noncomputable def LB (code16 : List JL) (x_x5 : Int) (f17 : List Kr) (c23 : List Int) (c24 : Int) (end25 : Int) (end26 : Int) : Option (JO × JK) :=
 chk (code16.length + ([(JL.mk end25 0 0 0 end26)] : List JL).length ≤ 16777216) <|
 Ks (fun s=>Mt x_x5 f17 s.1 s.2.1 s.2.2.1 s.2.2.2) (c23,c24,code16 ++ ([(JL.mk end25 0 0 0 end26)] : List JL),0)
noncomputable def NR (x_x5 : Int) (i2 : Int) (params3 : (List Int)) (c14 : List Int) (c15 : Int) (code16 : List JL) (f17 : List Kr) (n18 : Int) : Option (((List Int) × Int × (List JL) × (List Kr) × Int) ⊕ (JO × JK)) :=
 bif (decide (n18 > 0)) then
  (Og (JK.mk c14 c15) (JO.mk x_x5 f17 ([])) i2 params3).bind fun r19 =>
  chk (code16.length + r19.1.length ≤ 16777216) <|
  (JV r19.2 9).bind fun r20 =>
  bif (r20.1 == 7) then
   (JV r20.2 4).bind fun r21 =>
   chk ((code16 ++ r19.1).length + ([(JL.mk 21 r21.1 (-1) 0 0)] : List JL).length ≤ 16777216) <|
   cnt (r21.2.list,r21.2.at_,(code16 ++ r19.1) ++ ([(JL.mk 21 r21.1 (-1) 0 0)] : List JL),f17,IntKind.i64.wrap (n18 - 1))
  else
   bif (r20.1 == 8) then
    (JV r20.2 3).bind fun r22 =>
    bif (r22.1 == 2) then
     chk ((code16 ++ r19.1).length + ([(JL.mk 20 (-1) 0 0 0)] : List JL).length ≤ 16777216) <|
     cnt (r22.2.list,r22.2.at_,(code16 ++ r19.1) ++ ([(JL.mk 20 (-1) 0 0 0)] : List JL),f17,IntKind.i64.wrap (n18 - 1))
    else
     cnt (r22.2.list,r22.2.at_,code16 ++ r19.1,f17,IntKind.i64.wrap (n18 - 1))
   else
    cnt (r20.2.list,r20.2.at_,code16 ++ r19.1,f17,IntKind.i64.wrap (n18 - 1))
 else
  lft (
   (JV (JK.mk c14 c15) 12).bind fun r27 =>
   bif (r27.1 == 11) then
    (Na r27.2).bind fun r28 =>
    LB code16 x_x5 f17 r28.2.list r28.2.at_ 24 r28.1
   else
    LB code16 x_x5 f17 r27.2.list r27.2.at_ 23 0)
noncomputable def NQ (r6 : (List Kr) × JK) (most4 : Int) (x_x5 : Int) (i2 : Int) (params3 : (List Int)) (c7 : List Int) (c8 : Int) (code9 : List JL) (s10 : Int) : Option (((List Int) × Int × (List JL) × Int) ⊕ (JO × JK)) :=
 bif (decide (s10 < (r6.1.length : Int))) then
  (JV (JK.mk c7 c8) 4).bind fun r11 =>
  bif (decide (r11.1 < 3)) then
   (JV r11.2 4).bind fun r12 =>
   chk (code9.length + ([(JL.mk 16 s10 r12.1 0 0)] : List JL).length ≤ 16777216) <|
   cnt (r12.2.list,r12.2.at_,code9 ++ ([(JL.mk 16 s10 r12.1 0 0)] : List JL),IntKind.i64.wrap (s10 + 1))
  else
   cnt (r11.2.list,r11.2.at_,code9,IntKind.i64.wrap (s10 + 1))
 else
  lft (
   (JV (JK.mk c7 c8) (IntKind.i64.wrap (most4 + 1))).bind fun r13 =>
   Ks (fun s=>NR x_x5 i2 params3 s.1 s.2.1 s.2.2.1 s.2.2.2.1 s.2.2.2.2) (r13.2.list,r13.2.at_,code9,r6.1,r13.1))
noncomputable def Mq (c1 : JK) (i2 : Int) (params3 : (List Int)) (most4 : Int) : Option (JO × JK) :=
 (ixO params3 i2).bind fun x_x5 =>
 (NA c1 6).bind fun r6 =>
 Ks (fun s=>NQ r6 most4 x_x5 i2 params3 s.1 s.2.1 s.2.2.1 s.2.2.2) (r6.2.list,r6.2.at_,([] : List JL),0)

noncomputable def Oe (most3 : Int) (c10 : List Int) (c11 : Int) (p12 : List JO) (i13 : Int) (params14 : List Int) : Option (((List Int) × Int × (List JO) × Int × (List Int)) ⊕ (Ou × JK)) :=
 bif (decide (i13 < (params14.length : Int))) then
  chk (([] : List JO).length + p12.length ≤ 16777216) <|
  (Mq (JK.mk c10 c11) i13 params14 most3).bind fun r15 =>
  chk ((([] : List JO) ++ p12).length + ([r15.1] : List JO).length ≤ 16777216) <|
  cnt (r15.2.list,r15.2.at_,(([] : List JO) ++ p12) ++ ([r15.1] : List JO),IntKind.i64.wrap (i13 + 1),params14)
 else
  lft (some ((Ou.mk p12),(JK.mk c10 c11)))
noncomputable def Od (most3 : Int) (c5 : List Int) (c6 : Int) (params7 : List Int) (n8 : Int) : Option (((List Int) × Int × (List Int) × Int) ⊕ (Ou × JK)) :=
 bif (decide (n8 > 0)) then
  (JV (JK.mk c5 c6) 4).bind fun r9 =>
  chk (params7.length + ([r9.1] : List Int).length ≤ 16777216) <|
  cnt (r9.2.list,r9.2.at_,params7 ++ ([r9.1] : List Int),IntKind.i64.wrap (n8 - 1))
 else
  lft (Ks (fun s=>Oe most3 s.1 s.2.1 s.2.2.1 s.2.2.2.1 s.2.2.2.2) (c5,c6,[],0,params7))
noncomputable def MH (c1 : JK) (funcs2 : Int) (most3 : Int) : Option (Ou × JK) :=
 (JV c1 funcs2).bind fun r4 =>
 Ks (fun s=>Od most3 s.1 s.2.1 s.2.2.1 s.2.2.2) (r4.2.list,r4.2.at_,([0] : List Int),r4.1)

noncomputable def Md (x_x3 : JL) (k2 : Int) (x4 : Bool) : Option ((List Int)) :=
 bif x4 then
  some ([] : List Int)
 else
  bif (x_x3.Op == 21) then
   bif (decide (x_x3.B < (IntKind.i64.wrap (k2 + 1)))) then
    some ([x_x3.B,IntKind.i64.wrap (k2 + 1)] : List Int)
   else
    bif (decide (x_x3.B > (IntKind.i64.wrap (k2 + 1)))) then
     some ([IntKind.i64.wrap (k2 + 1),x_x3.B] : List Int)
    else
     some ([IntKind.i64.wrap (k2 + 1)] : List Int)
  else
   some ([IntKind.i64.wrap (k2 + 1)] : List Int)
noncomputable def TA (f1 : JO) (k2 : Int) : Option ((List Int)) :=
 (ixO f1.Code k2).bind fun x_x3 =>
 bif (x_x3.Op == 20) then
  some ([x_x3.A] : List Int)
 else
  bif (x_x3.Op == 23) then
   Md x_x3 k2 (x_x3.Op == 23)
  else
   Md x_x3 k2 (x_x3.Op == 24)
noncomputable def QV (f1 : JO) (k2 : Int) : Option ((List Int)) :=
 bif (decide (k2 < 0)) then
  some ([] : List Int)
 else
  bif (decide (k2 ≥ (f1.Code.length : Int))) then
   some ([] : List Int)
  else
   TA f1 k2

noncomputable def On (x1 : JL) : Option (Bool) :=
 bif (x1.Op == 16) then
  some true
 else
  some (x1.Op == 17)

noncomputable def Nm (x1 : JL) : Option (Int × Bool) :=
 (On x1).bind fun r2 =>
 bif r2 then
  some (x1.A,true)
 else
  some (0,false)

noncomputable def Ng (s1 : (List Int)) (n2 : Int) (out3 : List Int) (i4 : Int) : Option (((List Int) × Int) ⊕ ((List Int))) :=
 bif (decide (i4 < (s1.length : Int))) then
  (ixO s1 i4).bind fun x_x5 =>
  bif (x_x5 != n2) then
   (ixO s1 i4).bind fun x_x6 =>
   chk (out3.length + ([x_x6] : List Int).length ≤ 16777216) <|
   cnt (out3 ++ ([x_x6] : List Int),IntKind.i64.wrap (i4 + 1))
  else
   cnt (out3,IntKind.i64.wrap (i4 + 1))
 else
  lft (some out3)
noncomputable def OX (s1 : (List Int)) (n2 : Int) : Option ((List Int)) :=
 Ks (fun s=>Ng s1 n2 s.1 s.2) (([] : List Int),0)

noncomputable def QW (x1 : JL) : Option ((List Int)) :=
 bif (x1.Op == 15) then
  some ([x1.B] : List Int)
 else
  bif (x1.Op == 17) then
   some ([x1.B] : List Int)
  else
   some ([] : List Int)

noncomputable def OL (n1 : Int) : Option (Bool) :=
 bif (decide (n1 ≥ 0)) then
  some (decide (n1 < 512))
 else
  some false

noncomputable def Nf (s1 : (List Int)) (i6 : Int) (out7 : List Int) (done8 : Bool) : Option (((List Int) × Bool × Int) ⊕ ((List Int))) :=
 (ixO s1 i6).bind fun x_x12 =>
 chk (out7.length + ([x_x12] : List Int).length ≤ 16777216) <|
 cnt (out7 ++ ([x_x12] : List Int),done8,IntKind.i64.wrap (i6 + 1))
noncomputable def Oa (s1 : (List Int)) (i6 : Int) (n2 : Int) (out4 : List Int) (done5 : Bool) (x9 : Bool) : Option (((List Int) × Bool × Int) ⊕ ((List Int))) :=
 bif x9 then
  (ixO s1 i6).bind fun x_x11 =>
  bif (decide (x_x11 > n2)) then
   chk (out4.length + ([n2] : List Int).length ≤ 16777216) <|
   Nf s1 i6 (out4 ++ ([n2] : List Int)) true
  else
   Nf s1 i6 out4 true
 else
  Nf s1 i6 out4 done5
noncomputable def LY (s1 : (List Int)) (n2 : Int) (out4 : List Int) (done5 : Bool) (i6 : Int) : Option (((List Int) × Bool × Int) ⊕ ((List Int))) :=
 bif (decide (i6 < (s1.length : Int))) then
  bif (!done5) then
   (ixO s1 i6).bind fun x_x10 =>
   Oa s1 i6 n2 out4 done5 (decide (x_x10 ≥ n2))
  else
   Oa s1 i6 n2 out4 done5 false
 else
  lft (
   bif (!done5) then
    chk (out4.length + ([n2] : List Int).length ≤ 16777216) <|
    some (out4 ++ ([n2] : List Int))
   else
    some out4)
noncomputable def NZ (s1 : (List Int)) (n2 : Int) : Option ((List Int)) :=
 (OL n2).bind fun r3 =>
 Ks (fun s=>LY s1 n2 s.1 s.2.1 s.2.2) (([] : List Int),(!r3),0)

noncomputable def OO (b2 : (List Int)) (out3 : List Int) (i4 : Int) : Option (((List Int) × Int) ⊕ ((List Int))) :=
 bif (decide (i4 < (b2.length : Int))) then
  (ixO b2 i4).bind fun x_x5 =>
  (NZ out3 x_x5).bind fun r6 =>
  cnt (r6,IntKind.i64.wrap (i4 + 1))
 else
  lft (some out3)
noncomputable def NS (a1 : (List Int)) (b2 : (List Int)) : Option ((List Int)) :=
 chk (([] : List Int).length + a1.length ≤ 16777216) <|
 Ks (fun s=>OO b2 s.1 s.2) (([] : List Int) ++ a1,0)

noncomputable def TQ (x1 : JL) (out2 : (List Int)) : Option ((List Int)) :=
 (Nm x1).bind fun r3 =>
 bif r3.2 then
  (OX out2 r3.1).bind fun r4 =>
  (QW x1).bind fun r5 =>
  (NS r4 r5).bind fun r6 =>
  some r6
 else
  (QW x1).bind fun r7 =>
  (NS out2 r7).bind fun r8 =>
  some r8

noncomputable def TB (k4 : Int) (x5 : List (List Int)) : Option (((List (List Int)) × Int) ⊕ (JR)) :=
 cnt (x5,IntKind.i64.wrap (k4 + 1))
noncomputable def Pt (r6 : (List Int)) (k4 : Int) (f1 : JO) (l2 : JR) (x7 : List (List Int)) (i8 : Int) : Option (((List (List Int)) × Int) ⊕ (((List (List Int)) × Int) ⊕ (JR))) :=
 bif (decide (i8 < (r6.length : Int))) then
  chk (0 ≤ i8 ∧ i8 < r6.length) <|
  ((r6)[i8.toNat]?).bind fun next_e9 =>
  chk (0 ≤ k4 ∧ k4 < x7.length) <|
  ((x7)[k4.toNat]?).bind fun x_e10 =>
  (ixO f1.Code next_e9).bind fun x_x11 =>
  (ixO l2.Out next_e9).bind fun x_x12 =>
  (TQ x_x11 x_x12).bind fun r13 =>
  (NS x_e10 r13).bind fun r14 =>
  chk (0 ≤ k4 ∧ k4 < x7.length) <|
  ((x7)[k4.toNat]?).bind fun _ =>
  cnt (x7.set k4.toNat r14,IntKind.i64.wrap (i8 + 1))
 else
  lft (TB k4 x7)
noncomputable def Ps (f1 : JO) (l2 : JR) (x3 : List (List Int)) (k4 : Int) : Option (((List (List Int)) × Int) ⊕ (JR)) :=
 bif (decide (k4 < (f1.Code.length : Int))) then
  (QV f1 k4).bind fun r6 =>
  Ks (fun s=>Pt r6 k4 f1 l2 s.1 s.2) (x3,0)
 else
  lft (some (JR.mk x3))
noncomputable def SK (f1 : JO) (l2 : JR) : Option (JR) :=
 chk (0 ≤ (f1.Code.length : Int) ∧ (f1.Code.length : Int) ≤ 16777216) <|
 Ks (fun s=>Ps f1 l2 s.1 s.2) (List.replicate (f1.Code.length : Int).toNat ([] : (List Int)),0)

noncomputable def Ox (a1 : (List Int)) (b2 : (List Int)) (i3 : Int) : Option ((Int) ⊕ (Bool)) :=
 bif (decide (i3 < (a1.length : Int))) then
  (ixO a1 i3).bind fun x_x4 =>
  (ixO b2 i3).bind fun x_x5 =>
  bif (x_x4 != x_x5) then
   lft (some false)
  else
   cnt (IntKind.i64.wrap (i3 + 1))
 else
  lft (some true)
noncomputable def SH (a1 : (List Int)) (b2 : (List Int)) : Option (Bool) :=
 bif ((a1.length : Int) != (b2.length : Int)) then
  some false
 else
  Ks (fun s=>Ox a1 b2 s) 0

noncomputable def MF (a1 : (List (List Int))) (b2 : (List (List Int))) (i3 : Int) : Option ((Int) ⊕ (Bool)) :=
 bif (decide (i3 < (a1.length : Int))) then
  (ixO a1 i3).bind fun x_x4 =>
  (ixO b2 i3).bind fun x_x5 =>
  (SH x_x4 x_x5).bind fun r6 =>
  bif (!r6) then
   lft (some false)
  else
   cnt (IntKind.i64.wrap (i3 + 1))
 else
  lft (some true)
noncomputable def Nl (a1 : (List (List Int))) (b2 : (List (List Int))) : Option (Bool) :=
 bif ((a1.length : Int) != (b2.length : Int)) then
  some false
 else
  Ks (fun s=>MF a1 b2 s) 0

noncomputable def SI (a1 : JR) (b2 : JR) : Option (Bool) :=
 (Nl a1.Out b2.Out).bind fun r3 =>
 some r3

noncomputable def SJ (f1 : JO) (l2 : List (List Int)) : Option (((List (List Int))) ⊕ (JR)) :=
 (SK f1 (JR.mk l2)).bind fun r3 =>
 (SI r3 (JR.mk l2)).bind fun r4 =>
 bif r4 then
  lft (some (JR.mk l2))
 else
  cnt r3.Out
noncomputable def Rp (f1 : JO) : Option (JR) :=
 chk (0 ≤ (f1.Code.length : Int) ∧ (f1.Code.length : Int) ≤ 16777216) <|
 Ks (fun s=>SJ f1 s) (List.replicate (f1.Code.length : Int).toNat ([] : (List Int)))

noncomputable def Nz (c1 : JK) : Option (Int × JK) :=
 (JV c1 12).bind fun r2 =>
 bif (r2.1 == 11) then
  (JV r2.2 (([9223372036854775807,(-9223372036854775808),2147483648,2147483647,(-1),16777216,33554432,1048577,512,80] : List Int).length : Int)).bind fun r3 =>
  chk (0 ≤ r3.1 ∧ r3.1 < ([9223372036854775807,(-9223372036854775808),2147483648,2147483647,(-1),16777216,33554432,1048577,512,80] : List Int).length) <|
  ((([9223372036854775807,(-9223372036854775808),2147483648,2147483647,(-1),16777216,33554432,1048577,512,80] : List Int))[r3.1.toNat]?).bind fun l_e4 =>
  some (l_e4,r3.2)
 else
  (JV r2.2 256).bind fun r5 =>
  (JV r5.2 7).bind fun r6 =>
  chk (0 ≤ r6.1) <|
  some (IntKind.i64.wrap ((r5.1.fdiv (2 ^ (Nat.min r6.1.toNat IntKind.i64.bits))) - (IntKind.i64.wrap (r2.1.tdiv 9))),r6.2)

noncomputable def LW (n12 : Int) (c13 : List Int) (c14 : Int) (x15 : List (List Int)) : Option (((List Int) × Int × (List (List Int)) × Int) ⊕ (JR × JK)) :=
 cnt (c13,c14,x15,IntKind.i64.wrap (n12 - 1))
noncomputable def Pz (r16 : Int × JK) (n12 : Int) (r17 : Int × JK) (x18 : List (List Int)) (k19 : Int) : Option (((List (List Int)) × Int) ⊕ (((List Int) × Int × (List (List Int)) × Int) ⊕ (JR × JK))) :=
 bif (decide (k19 < (x18.length : Int))) then
  chk (0 ≤ k19 ∧ k19 < x18.length) <|
  ((x18)[k19.toNat]?).bind fun x_e20 =>
  (NZ x_e20 r16.1).bind fun r21 =>
  chk (0 ≤ k19 ∧ k19 < x18.length) <|
  ((x18)[k19.toNat]?).bind fun _ =>
  cnt (x18.set k19.toNat r21,IntKind.i64.wrap (k19 + 1))
 else
  lft (LW n12 r17.2.list r17.2.at_ x18)
noncomputable def PA (c9 : List Int) (c10 : Int) (f2 : JO) (n12 : Int) (x11 : List (List Int)) : Option (((List Int) × Int × (List (List Int)) × Int) ⊕ (JR × JK)) :=
 (JV (JK.mk c9 c10) (f2.Slots.length : Int)).bind fun r16 =>
 (JV r16.2 2).bind fun r17 =>
 bif (r17.1 == 0) then
  Ks (fun s=>Pz r16 n12 r17 s.1 s.2) (x11,0)
 else
  (JV r17.2 (x11.length : Int)).bind fun r23 =>
  (JV r23.2 2).bind fun r24 =>
  bif (r24.1 == 0) then
   chk (0 ≤ r23.1 ∧ r23.1 < x11.length) <|
   ((x11)[r23.1.toNat]?).bind fun x_e25 =>
   (NZ x_e25 r16.1).bind fun r26 =>
   chk (0 ≤ r23.1 ∧ r23.1 < x11.length) <|
   ((x11)[r23.1.toNat]?).bind fun _ =>
   LW n12 r24.2.list r24.2.at_ (x11.set r23.1.toNat r26)
  else
   chk (0 ≤ r23.1 ∧ r23.1 < x11.length) <|
   ((x11)[r23.1.toNat]?).bind fun x_e28 =>
   (OX x_e28 r16.1).bind fun r29 =>
   chk (0 ≤ r23.1 ∧ r23.1 < x11.length) <|
   ((x11)[r23.1.toNat]?).bind fun _ =>
   LW n12 r24.2.list r24.2.at_ (x11.set r23.1.toNat r29)
noncomputable def MG (c5 : List Int) (c6 : Int) (x7 : List (List Int)) : Option (JR × JK) :=
 (JV (JK.mk c5 c6) 12).bind fun r31 =>
 bif (r31.1 == 10) then
  chk (0 ≤ (1 : Int) ∧ (1 : Int) ≤ x7.length) <|
  some ((JR.mk (x7.drop ((1 : Int).toNat))),r31.2)
 else
  bif (r31.1 == 11) then
   (Nz r31.2).bind fun r32 =>
   (Nz r32.2).bind fun r33 =>
   chk (0 ≤ (0 : Int) ∧ (0 : Int) < x7.length) <|
   ((x7)[(0 : Int).toNat]?).bind fun _ =>
   some ((JR.mk (x7.set ((0 : Int).toNat) ([r32.1,r33.1] : List Int))),r33.2)
  else
   some ((JR.mk x7),r31.2)
noncomputable def Py (f2 : JO) (c9 : List Int) (c10 : Int) (x11 : List (List Int)) (n12 : Int) : Option (((List Int) × Int × (List (List Int)) × Int) ⊕ (JR × JK)) :=
 bif (decide (n12 > 0)) then
  bif (decide ((f2.Slots.length : Int) > 0)) then
   PA c9 c10 f2 n12 x11
  else
   lft (MG c9 c10 x11)
 else
  lft (MG c9 c10 x11)
noncomputable def Oc (c1 : JK) (f2 : JO) : Option (JR × JK) :=
 (Rp f2).bind fun r3 =>
 (JV c1 3).bind fun r4 =>
 bif (r4.1 == 0) then
  some (r3,r4.2)
 else
  chk (([] : List (List Int)).length + r3.Out.length ≤ 16777216) <|
  (JV r4.2 4).bind fun r8 =>
  Ks (fun s=>Py f2 s.1 s.2.1 s.2.2.1 s.2.2.2) (r8.2.list,r8.2.at_,([] : List (List Int)) ++ r3.Out,r8.1)

noncomputable def Rl (codes1 : (List Int)) : Option (JO × JR × JK) :=
 (Vs codes1 250).bind fun r2 =>
 (MH r2 3 16).bind fun r3 =>
 (JV r3.2 (r3.1.Funcs.length : Int)).bind fun r4 =>
 (ixO r3.1.Funcs r4.1).bind fun x_x5 =>
 (Oc r4.2 x_x5).bind fun r6 =>
 some (x_x5,r6.1,r6.2)

noncomputable def Lp (n1 : Int) : Option (Bool) :=
 bif (decide (n1 ≥ 0)) then
  some (decide (n1 < 512))
 else
  some false

noncomputable def Mj (s1 : (List Int)) (x2 : Int) : Option ((Int) ⊕ (Bool)) :=
 bif (decide (x2 < (s1.length : Int))) then
  (ixO s1 x2).bind fun x_x3 =>
  (Lp x_x3).bind fun r4 =>
  bif (!r4) then
   lft (some false)
  else
   bif (decide (x2 > 0)) then
    (ixO s1 (IntKind.i64.wrap (x2 - 1))).bind fun x_x5 =>
    bif (decide (x_x3 ≤ x_x5)) then
     lft (some false)
    else
     cnt (IntKind.i64.wrap (x2 + 1))
   else
    cnt (IntKind.i64.wrap (x2 + 1))
 else
  lft (some true)
noncomputable def Qg (s1 : (List Int)) : Option (Bool) :=
 Ks (fun s=>Mj s1 s) 0

noncomputable def LQ (s1 : (List Int)) (cap2 : JO) : Option (Bool) :=
 (Qg s1).bind fun r3 =>
 bif (!r3) then
  some true
 else
  bif (decide ((s1.length : Int) > 0)) then
   (ixO s1 (IntKind.i64.wrap ((s1.length : Int) - 1))).bind fun x_x4 =>
   some (decide (x_x4 ≥ (cap2.Slots.length : Int)))
  else
   some false

noncomputable def Lk (s1 : (List (List Int))) (f2 : JO) (x3 : Int) : Option ((Int) ⊕ (Int)) :=
 bif (decide (x3 < (s1.length : Int))) then
  (ixO s1 x3).bind fun x_x4 =>
  (LQ x_x4 f2).bind fun r5 =>
  bif r5 then
   lft (some x3)
  else
   cnt (IntKind.i64.wrap (x3 + 1))
 else
  lft (some (-1))
noncomputable def KF (s1 : (List (List Int))) (f2 : JO) : Option (Int) :=
 Ks (fun s=>Lk s1 f2 s) 0

noncomputable def KH (s1 : (List (List Int))) (f2 : JO) : Option (Bool) :=
 (KF s1 f2).bind fun r3 =>
 some (decide (r3 ≥ 0))

noncomputable def MD (f1 : JO) (l2 : JR) : Option (Bool) :=
 bif ((l2.Out.length : Int) == (f1.Code.length : Int)) then
  (KH l2.Out f1).bind fun r3 =>
  some (!r3)
 else
  some false

noncomputable def Qq (l1 : JR) : Option (JR) :=
 some l1

noncomputable def Qx (op1 : Int) : Option (Bool) :=
 bif (op1 == 20) then
  some true
 else
  bif (op1 == 23) then
   some true
  else
   some (op1 == 24)

noncomputable def Sn (x_x3 : JL) (l4 : List Int) : Option ((List Int)) :=
 bif (x_x3.Op == 20) then
  chk (l4.length + ([x_x3.A] : List Int).length ≤ 16777216) <|
  chk ((l4 ++ ([x_x3.A] : List Int)).length < 4611686018427387904) <|
  chk ((LL (l4 ++ ([x_x3.A] : List Int))).length < 4611686018427387904) <|
  some (Lib.compact (LL (l4 ++ ([x_x3.A] : List Int))))
 else
  bif (x_x3.Op == 21) then
   chk (l4.length + ([x_x3.B] : List Int).length ≤ 16777216) <|
   chk ((l4 ++ ([x_x3.B] : List Int)).length < 4611686018427387904) <|
   chk ((LL (l4 ++ ([x_x3.B] : List Int))).length < 4611686018427387904) <|
   some (Lib.compact (LL (l4 ++ ([x_x3.B] : List Int))))
  else
   chk (l4.length < 4611686018427387904) <|
   chk ((LL l4).length < 4611686018427387904) <|
   some (Lib.compact (LL l4))
noncomputable def Uz (f1 : JO) (k2 : Int) : Option ((List Int)) :=
 (ixO f1.Code k2).bind fun x_x3 =>
 (Qx x_x3.Op).bind fun r5 =>
 bif (!r5) then
  chk (([] : List Int).length + ([IntKind.i64.wrap (k2 + 1)] : List Int).length ≤ 16777216) <|
  Sn x_x3 (([] : List Int) ++ ([IntKind.i64.wrap (k2 + 1)] : List Int))
 else
  Sn x_x3 ([] : List Int)
noncomputable def Ug (f1 : JO) (k2 : Int) : Option ((List Int)) :=
 bif (decide (k2 < 0)) then
  some ([] : List Int)
 else
  bif (decide (k2 ≥ (f1.Code.length : Int))) then
   some ([] : List Int)
  else
   Uz f1 k2

noncomputable def Nw (j1 : Int) (cap2 : JR) : Option ((List Int)) :=
 (ixO cap2.Out j1).bind fun x_x3 =>
 some x_x3

noncomputable def MN (x1 : JL) : Option (Int × Bool) :=
 bif (x1.Op == 16) then
  bif (x1.Op == 16) then
   some (x1.A,true)
  else
   some (0,false)
 else
  bif (x1.Op == 17) then
   some (x1.A,true)
  else
   some (0,false)

noncomputable def LV (s1 : JN) (n2 : Int) (in3 : Bool) : Option (JN) :=
 chk (0 ≤ ((IntKind.u64.wrap (n2)).tmod 64)) <|
 (Lp n2).bind fun r4 =>
 bif (!r4) then
  some s1
 else
  bif in3 then
   chk (0 ≤ (IntKind.i64.wrap (n2.tdiv 64)) ∧ (IntKind.i64.wrap (n2.tdiv 64)) < 8) <|
   ((s1.toList)[(IntKind.i64.wrap (n2.tdiv 64)).toNat]?).bind fun s_e5 =>
   chk (0 ≤ (IntKind.i64.wrap (n2.tdiv 64)) ∧ (IntKind.i64.wrap (n2.tdiv 64)) < 8) <|
   ((s1.toList)[(IntKind.i64.wrap (n2.tdiv 64)).toNat]?).bind fun _ =>
   some (s1.set ((IntKind.i64.wrap (n2.tdiv 64)).toNat) (IntKind.u64.wrap ((BitVec.ofInt IntKind.u64.bits s_e5 ||| BitVec.ofInt IntKind.u64.bits (IntKind.u64.wrap (1 * 2 ^ (Nat.min ((IntKind.u64.wrap (n2)).tmod 64).toNat IntKind.u64.bits)))).toNat)))
  else
   chk (0 ≤ (IntKind.i64.wrap (n2.tdiv 64)) ∧ (IntKind.i64.wrap (n2.tdiv 64)) < 8) <|
   ((s1.toList)[(IntKind.i64.wrap (n2.tdiv 64)).toNat]?).bind fun s_e7 =>
   chk (0 ≤ (IntKind.i64.wrap (n2.tdiv 64)) ∧ (IntKind.i64.wrap (n2.tdiv 64)) < 8) <|
   ((s1.toList)[(IntKind.i64.wrap (n2.tdiv 64)).toNat]?).bind fun _ =>
   some (s1.set ((IntKind.i64.wrap (n2.tdiv 64)).toNat) (IntKind.u64.wrap ((BitVec.ofInt IntKind.u64.bits s_e7 &&& ~~~ BitVec.ofInt IntKind.u64.bits (IntKind.u64.wrap (1 * 2 ^ (Nat.min ((IntKind.u64.wrap (n2)).tmod 64).toNat IntKind.u64.bits)))).toNat)))

noncomputable def QI (l1 : (List Int)) (x2 : JN) (x3 : Int) : Option ((JN × Int) ⊕ (JN)) :=
 bif (decide (x3 < (l1.length : Int))) then
  (ixO l1 x3).bind fun x_x4 =>
  (LV x2 x_x4 true).bind fun r5 =>
  cnt (r5,IntKind.i64.wrap (x3 + 1))
 else
  lft (some x2)
noncomputable def Lx (l1 : (List Int)) : Option (JN) :=
 Ks (fun s=>QI l1 s.1 s.2) ((JN.mk 0 0 0 0 0 0 0 0),0)

noncomputable def NO (x3 : Int) (l5 : List Int) (x6 : Int) : Option (((List Int) × Int) ⊕ (((List Int) × Int) ⊕ ((List Int) × JN))) :=
 bif (x6 != 0) then
  (ZJ x6).bind fun r7 =>
  chk (l5.length + ([IntKind.i64.wrap ((IntKind.i64.wrap (64 * x3)) + r7)] : List Int).length ≤ 16777216) <|
  cnt (l5 ++ ([IntKind.i64.wrap ((IntKind.i64.wrap (64 * x3)) + r7)] : List Int),IntKind.u64.wrap ((BitVec.ofInt IntKind.u64.bits x6 &&& BitVec.ofInt IntKind.u64.bits (IntKind.u64.wrap (x6 - 1))).toNat))
 else
  lft (cnt (l5,IntKind.i64.wrap (x3 + 1)))
noncomputable def NN (s1 : JN) (l2 : List Int) (x3 : Int) : Option (((List Int) × Int) ⊕ ((List Int) × JN)) :=
 bif (decide (x3 < 8)) then
  chk (0 ≤ x3 ∧ x3 < 8) <|
  ((s1.toList)[x3.toNat]?).bind fun s_e4 =>
  Ks (fun s=>NO x3 s.1 s.2) (l2,s_e4)
 else
  lft (some (l2,s1))
noncomputable def KV (s1 : JN) : Option ((List Int) × JN) :=
 Ks (fun s=>NN s1 s.1 s.2) (([] : List Int),0)

noncomputable def Ov (s1 : (List Int)) (n2 : Int) : Option ((List Int)) :=
 (Lx s1).bind fun r3 =>
 (LV r3 n2 false).bind fun r4 =>
 (KV r4).bind fun r5 =>
 some r5.1

noncomputable def PR (x1 : JL) : Option ((List Int)) :=
 bif (x1.Op == 15) then
  bif (x1.Op == 15) then
   some ([x1.B] : List Int)
  else
   some ([] : List Int)
 else
  bif (x1.Op == 17) then
   some ([x1.B] : List Int)
  else
   some ([] : List Int)

noncomputable def QC (l1 : (List Int)) : Option ((List Int)) :=
 (Lx l1).bind fun r2 =>
 (KV r2).bind fun r3 =>
 some r3.1

noncomputable def ON (x1 : Int) (y2 : Int) : Option (Int) :=
 some (IntKind.u64.wrap ((BitVec.ofInt IntKind.u64.bits x1 ||| BitVec.ofInt IntKind.u64.bits y2).toNat))

noncomputable def Li (s1 : JN) (t2 : JN) (x3 : JN) (x4 : Int) : Option ((JN × Int) ⊕ (JN × JN × JN)) :=
 bif (decide (x4 < 8)) then
  chk (0 ≤ x4 ∧ x4 < 8) <|
  ((s1.toList)[x4.toNat]?).bind fun s_e5 =>
  chk (0 ≤ x4 ∧ x4 < 8) <|
  ((t2.toList)[x4.toNat]?).bind fun t_e6 =>
  (ON s_e5 t_e6).bind fun r7 =>
  chk (0 ≤ x4 ∧ x4 < 8) <|
  ((x3.toList)[x4.toNat]?).bind fun _ =>
  cnt ((x3.set x4.toNat r7),IntKind.i64.wrap (x4 + 1))
 else
  lft (some (x3,s1,t2))
noncomputable def KY (s1 : JN) (t2 : JN) : Option (JN × JN × JN) :=
 Ks (fun s=>Li s1 t2 s.1 s.2) ((JN.mk 0 0 0 0 0 0 0 0),0)

noncomputable def MY (a1 : (List Int)) (b2 : (List Int)) : Option ((List Int)) :=
 (Lx a1).bind fun r3 =>
 (Lx b2).bind fun r4 =>
 (KY r3 r4).bind fun r5 =>
 (KV r5.1).bind fun r6 =>
 some r6.1

noncomputable def Uf (x1 : JL) (out2 : (List Int)) : Option ((List Int)) :=
 (MN x1).bind fun r3 =>
 bif r3.2 then
  (Ov out2 r3.1).bind fun r4 =>
  (PR x1).bind fun r5 =>
  (QC r5).bind fun r6 =>
  (MY r4 r6).bind fun r7 =>
  some r7
 else
  (PR x1).bind fun r8 =>
  (QC r8).bind fun r9 =>
  (MY out2 r9).bind fun r10 =>
  some r10

noncomputable def OM (x1 : Int) (y2 : Int) : Option (Int) :=
 some (IntKind.u64.wrap ((BitVec.ofInt IntKind.u64.bits x1 &&& ~~~ BitVec.ofInt IntKind.u64.bits y2).toNat))

noncomputable def Lh (s1 : JN) (t2 : JN) (x3 : JN) (x4 : Int) : Option ((JN × Int) ⊕ (JN × JN × JN)) :=
 bif (decide (x4 < 8)) then
  chk (0 ≤ x4 ∧ x4 < 8) <|
  ((s1.toList)[x4.toNat]?).bind fun s_e5 =>
  chk (0 ≤ x4 ∧ x4 < 8) <|
  ((t2.toList)[x4.toNat]?).bind fun t_e6 =>
  (OM s_e5 t_e6).bind fun r7 =>
  chk (0 ≤ x4 ∧ x4 < 8) <|
  ((x3.toList)[x4.toNat]?).bind fun _ =>
  cnt ((x3.set x4.toNat r7),IntKind.i64.wrap (x4 + 1))
 else
  lft (some (x3,s1,t2))
noncomputable def KX (s1 : JN) (t2 : JN) : Option (JN × JN × JN) :=
 Ks (fun s=>Lh s1 t2 s.1 s.2) ((JN.mk 0 0 0 0 0 0 0 0),0)

noncomputable def OR (a1 : (List Int)) (b2 : (List Int)) : Option ((List Int)) :=
 (Lx a1).bind fun r3 =>
 (Lx b2).bind fun r4 =>
 (KX r3 r4).bind fun r5 =>
 (KV r5.1).bind fun r6 =>
 some r6.1

noncomputable def LK (need1 : (List Int)) (cap2 : (List Int)) (cap3 : JR) (cap4 : Int) : Option (Bool × (List Int)) :=
 (ixO cap3.Out cap4).bind fun x_x5 =>
 (OR need1 x_x5).bind fun r6 =>
 (MY cap2 r6).bind fun r7 =>
 some (true,r7)

noncomputable def Ky (r7 : (List Int)) (f1 : JO) (set3 : JR) (visit5 : JR) (visit6 : Int) (x8 : List Int) (x9 : Int) : Option (((List Int) × Int) ⊕ (Bool × (List Int))) :=
 bif (decide (x9 < (r7.length : Int))) then
  chk (0 ≤ x9 ∧ x9 < r7.length) <|
  ((r7)[x9.toNat]?).bind fun x_e10 =>
  (ixO f1.Code x_e10).bind fun x_x11 =>
  (Nw x_e10 set3).bind fun r12 =>
  (Uf x_x11 r12).bind fun r13 =>
  (LK r13 x8 visit5 visit6).bind fun r14 =>
  bif (!r14.1) then
   lft (some (false,r14.2))
  else
   cnt (r14.2,IntKind.i64.wrap (x9 + 1))
 else
  lft (some (true,x8))
noncomputable def KE (f1 : JO) (k2 : Int) (set3 : JR) (visit4 : (List Int)) (visit5 : JR) (visit6 : Int) : Option (Bool × (List Int)) :=
 (Ug f1 k2).bind fun r7 =>
 Ks (fun s=>Ky r7 f1 set3 visit5 visit6 s.1 s.2) (visit4,0)

noncomputable def PF (f1 : JO) (l2 : JR) (x4 : Int) : Option ((Int) ⊕ (Int × Int × Bool)) :=
 bif (decide (x4 < (f1.Code.length : Int))) then
  (Qq l2).bind fun r5 =>
  (KE f1 x4 r5 ([]) l2 x4).bind fun r6 =>
  bif (decide ((r6.2.length : Int) > 0)) then
   (ixO r6.2 0).bind fun x_x7 =>
   lft (some (x4,x_x7,true))
  else
   cnt (IntKind.i64.wrap (x4 + 1))
 else
  lft (some (0,0,false))
noncomputable def Ok (f1 : JO) (l2 : JR) : Option (Int × Int × Bool) :=
 (MD f1 l2).bind fun r3 =>
 bif (!r3) then
  some (0,0,false)
 else
  Ks (fun s=>PF f1 l2 s) 0

noncomputable def Nd (f1 : JO) (l2 : JR) : Option (Int) :=
 (MD f1 l2).bind fun r3 =>
 bif (!r3) then
  some 11
 else
  (Ok f1 l2).bind fun r4 =>
  bif r4.2.2 then
   some 11
  else
   some 0

noncomputable def Nk (x1 : JL) (y2 : Int) : Option (Bool) :=
 bif (x1.Op == 17) then
  some (x1.B == y2)
 else
  some false

noncomputable def Nc (x_x4 : (List Bool)) (x3 : Int) (out5 : List (List Int)) (x6 : Int) : Option (((List (List Int)) × Int) ⊕ (((List (List Int)) × Int) ⊕ ((List (List Int))))) :=
 bif (decide (x6 < (x_x4.length : Int))) then
  (ixO x_x4 x6).bind fun x_x7 =>
  bif x_x7 then
   chk (0 ≤ x3 ∧ x3 < out5.length) <|
   ((out5)[x3.toNat]?).bind fun out_e8 =>
   chk (out_e8.length + ([x6] : List Int).length ≤ 16777216) <|
   chk (0 ≤ x3 ∧ x3 < out5.length) <|
   cnt (out5.set x3.toNat (out_e8 ++ ([x6] : List Int)),IntKind.i64.wrap (x6 + 1))
  else
   cnt (out5,IntKind.i64.wrap (x6 + 1))
 else
  lft (cnt (out5,IntKind.i64.wrap (x3 + 1)))
noncomputable def Nb (m1 : (List (List Bool))) (out2 : List (List Int)) (x3 : Int) : Option (((List (List Int)) × Int) ⊕ ((List (List Int)))) :=
 bif (decide (x3 < (m1.length : Int))) then
  (ixO m1 x3).bind fun x_x4 =>
  Ks (fun s=>Nc x_x4 x3 s.1 s.2) (out2,0)
 else
  lft (some out2)
noncomputable def Lq (m1 : (List (List Bool))) : Option ((List (List Int))) :=
 chk (0 ≤ (m1.length : Int) ∧ (m1.length : Int) ≤ 16777216) <|
 Ks (fun s=>Nb m1 s.1 s.2) (List.replicate (m1.length : Int).toNat ([] : (List Int)),0)

noncomputable def KC (x15 : List (List Bool)) (r11 : Int × Bool) (x_x17 : Int) (x16 : Int) (x18 : Bool) : Option (((List (List Bool)) × Int) ⊕ (((List (List Bool)) × Int) ⊕ ((List (List Int)) × Int))) :=
 bif x18 then
  ((x15)[r11.1.toNat]?).bind fun row20 =>
  ((x15)[x_x17.toNat]?).bind fun row21 =>
  chk (r11.1.toNat ≠ x_x17.toNat) <|
  chk (0 ≤ r11.1 ∧ r11.1 < x15.length) <|
  chk (0 ≤ x_x17 ∧ x_x17 < x15.length) <|
  chk (0 ≤ x_x17 ∧ x_x17 < row20.length) <|
  ((row20)[x_x17.toNat]?).bind fun _ =>
  chk (0 ≤ r11.1 ∧ r11.1 < row21.length) <|
  ((row21)[r11.1.toNat]?).bind fun _ =>
  cnt ((x15.set r11.1.toNat (row20.set x_x17.toNat true)).set x_x17.toNat (row21.set r11.1.toNat true),IntKind.i64.wrap (x16 + 1))
 else
  cnt (x15,IntKind.i64.wrap (x16 + 1))
noncomputable def My (x_x14 : (List Int)) (r11 : Int × Bool) (x_x10 : JL) (x9 : Int) (x15 : List (List Bool)) (x16 : Int) : Option (((List (List Bool)) × Int) ⊕ (((List (List Bool)) × Int) ⊕ ((List (List Int)) × Int))) :=
 bif (decide (x16 < (x_x14.length : Int))) then
  (ixO x_x14 x16).bind fun x_x17 =>
  bif (x_x17 != r11.1) then
   (Nk x_x10 x_x17).bind fun r19 =>
   KC x15 r11 x_x17 x16 (!r19)
  else
   KC x15 r11 x_x17 x16 false
 else
  lft (cnt (x15,IntKind.i64.wrap (x9 + 1)))
noncomputable def Ld (l2 : JR) (x9 : Int) (r11 : Int × Bool) (x_x10 : JL) (x8 : List (List Bool)) (x12 : Bool) (x13 : Bool) : Option (((List (List Bool)) × Int) ⊕ ((List (List Int)) × Int)) :=
 (ixO l2.Out x9).bind fun x_x14 =>
 Ks (fun s=>My x_x14 r11 x_x10 x9 s.1 s.2) (x8,0)
noncomputable def Mx (f1 : JO) (l2 : JR) (x8 : List (List Bool)) (x9 : Int) : Option (((List (List Bool)) × Int) ⊕ ((List (List Int)) × Int)) :=
 bif (decide (x9 < (f1.Code.length : Int))) then
  (ixO f1.Code x9).bind fun x_x10 =>
  (MN x_x10).bind fun r11 =>
  bif (!r11.2) then
   cnt (x8,IntKind.i64.wrap (x9 + 1))
  else
   bif (x_x10.Op == 17) then
    bif (x_x10.A == x_x10.B) then
     cnt (x8,IntKind.i64.wrap (x9 + 1))
    else
     Ld l2 x9 r11 x_x10 x8 true (x_x10.A == x_x10.B)
   else
    Ld l2 x9 r11 x_x10 x8 false false
 else
  lft (
   (Lq x8).bind fun r24 =>
   some (r24,0))
noncomputable def Ly (f1 : JO) (l2 : JR) (x4 : List (List Bool)) : Option ((List (List Int)) × Int) :=
 Ks (fun s=>Mx f1 l2 s.1 s.2) (x4,0)
noncomputable def Mw (f1 : JO) (l2 : JR) (m5 : List (List Bool)) (x6 : Int) : Option (((List (List Bool)) × Int) ⊕ ((List (List Int)) × Int)) :=
 bif (decide (x6 < ((List.replicate (f1.Slots.length : Int).toNat ([] : (List Bool))).length : Int))) then
  chk (0 ≤ (f1.Slots.length : Int) ∧ (f1.Slots.length : Int) ≤ 16777216) <|
  chk (0 ≤ x6 ∧ x6 < m5.length) <|
  ((m5)[x6.toNat]?).bind fun _ =>
  cnt (m5.set x6.toNat (List.replicate (f1.Slots.length : Int).toNat false),IntKind.i64.wrap (x6 + 1))
 else
  lft (Ly f1 l2 m5)
noncomputable def Mh (f1 : JO) (l2 : JR) : Option ((List (List Int)) × Int) :=
 (Nd f1 l2).bind fun r3 =>
 bif (r3 != 0) then
  some (([] : List (List Int)),r3)
 else
  chk (0 ≤ (f1.Slots.length : Int) ∧ (f1.Slots.length : Int) ≤ 16777216) <|
  Ks (fun s=>Mw f1 l2 s.1 s.2) (List.replicate (f1.Slots.length : Int).toNat ([] : (List Bool)),0)

noncomputable def Oi (f1 : JO) (l2 : JR) : Option ((List (List Int)) × Int) :=
 (Mh f1 l2).bind fun r3 =>
 some (r3.1,r3.2)

noncomputable def MP (s1 : (List Int)) (i2 : Int) : Option ((Int) ⊕ (Bool)) :=
 bif (decide (i2 < (s1.length : Int))) then
  (ixO s1 i2).bind fun x_x3 =>
  (OL x_x3).bind fun r4 =>
  bif (!r4) then
   lft (some false)
  else
   bif (decide (i2 > 0)) then
    (ixO s1 i2).bind fun x_x5 =>
    (ixO s1 (IntKind.i64.wrap (i2 - 1))).bind fun x_x6 =>
    bif (decide (x_x5 ≤ x_x6)) then
     lft (some false)
    else
     cnt (IntKind.i64.wrap (i2 + 1))
   else
    cnt (IntKind.i64.wrap (i2 + 1))
 else
  lft (some true)
noncomputable def Rn (s1 : (List Int)) : Option (Bool) :=
 Ks (fun s=>MP s1 s) 0

noncomputable def SM (l2 : JR) (f1 : JO) (k3 : Int) : Option ((Int) ⊕ (Bool)) :=
 bif (decide (k3 < (l2.Out.length : Int))) then
  (ixO l2.Out k3).bind fun x_x4 =>
  (Rn x_x4).bind fun r5 =>
  bif (!r5) then
   lft (some false)
  else
   (ixO l2.Out k3).bind fun x_x6 =>
   bif (decide ((x_x6.length : Int) > 0)) then
    (ixO l2.Out k3).bind fun x_x7 =>
    (ixO x_x7 (IntKind.i64.wrap ((x_x6.length : Int) - 1))).bind fun x_x8 =>
    bif (decide (x_x8 ≥ (f1.Slots.length : Int))) then
     lft (some false)
    else
     cnt (IntKind.i64.wrap (k3 + 1))
   else
    cnt (IntKind.i64.wrap (k3 + 1))
 else
  lft (some true)
noncomputable def PV (f1 : JO) (l2 : JR) : Option (Bool) :=
 bif ((l2.Out.length : Int) != (f1.Code.length : Int)) then
  some false
 else
  Ks (fun s=>SM l2 f1 s) 0

noncomputable def Qt (s1 : (List Int)) (n2 : Int) (i3 : Int) : Option ((Int) ⊕ (Bool)) :=
 bif (decide (i3 < (s1.length : Int))) then
  (ixO s1 i3).bind fun x_x4 =>
  bif (x_x4 == n2) then
   lft (some true)
  else
   cnt (IntKind.i64.wrap (i3 + 1))
 else
  lft (some false)
noncomputable def Uk (s1 : (List Int)) (n2 : Int) : Option (Bool) :=
 Ks (fun s=>Qt s1 n2 s) 0

noncomputable def NG (a1 : (List Int)) (b2 : (List Int)) (out3 : List Int) (i4 : Int) : Option (((List Int) × Int) ⊕ ((List Int))) :=
 bif (decide (i4 < (a1.length : Int))) then
  (ixO a1 i4).bind fun x_x5 =>
  (Uk b2 x_x5).bind fun r6 =>
  bif (!r6) then
   (ixO a1 i4).bind fun x_x7 =>
   chk (out3.length + ([x_x7] : List Int).length ≤ 16777216) <|
   cnt (out3 ++ ([x_x7] : List Int),IntKind.i64.wrap (i4 + 1))
  else
   cnt (out3,IntKind.i64.wrap (i4 + 1))
 else
  lft (some out3)
noncomputable def Ro (a1 : (List Int)) (b2 : (List Int)) : Option ((List Int)) :=
 Ks (fun s=>NG a1 b2 s.1 s.2) (([] : List Int),0)

noncomputable def NH (r4 : (List Int)) (f1 : JO) (l2 : JR) (k3 : Int) (out5 : List Int) (i6 : Int) : Option (((List Int) × Int) ⊕ ((List Int))) :=
 bif (decide (i6 < (r4.length : Int))) then
  chk (0 ≤ i6 ∧ i6 < r4.length) <|
  ((r4)[i6.toNat]?).bind fun next_e7 =>
  (ixO f1.Code next_e7).bind fun x_x8 =>
  (ixO l2.Out next_e7).bind fun x_x9 =>
  (TQ x_x8 x_x9).bind fun r10 =>
  (ixO l2.Out k3).bind fun x_x11 =>
  (Ro r10 x_x11).bind fun r12 =>
  (NS out5 r12).bind fun r13 =>
  cnt (r13,IntKind.i64.wrap (i6 + 1))
 else
  lft (some out5)
noncomputable def Pu (f1 : JO) (l2 : JR) (k3 : Int) : Option ((List Int)) :=
 (QV f1 k3).bind fun r4 =>
 Ks (fun s=>NH r4 f1 l2 k3 s.1 s.2) (([] : List Int),0)

noncomputable def SL (f1 : JO) (l2 : JR) (k4 : Int) : Option ((Int) ⊕ (Int × Int × Bool)) :=
 bif (decide (k4 < (f1.Code.length : Int))) then
  (Pu f1 l2 k4).bind fun r5 =>
  bif (decide ((r5.length : Int) > 0)) then
   chk (0 ≤ (0 : Int) ∧ (0 : Int) < r5.length) <|
   ((r5)[(0 : Int).toNat]?).bind fun m_e6 =>
   lft (some (k4,m_e6,true))
  else
   cnt (IntKind.i64.wrap (k4 + 1))
 else
  lft (some (0,0,false))
noncomputable def Rr (f1 : JO) (l2 : JR) : Option (Int × Int × Bool) :=
 (PV f1 l2).bind fun r3 =>
 bif (!r3) then
  some (0,0,false)
 else
  Ks (fun s=>SL f1 l2 s) 0

noncomputable def Rq (f1 : JO) (l2 : JR) : Option (Int) :=
 (Rr f1 l2).bind fun r3 =>
 bif r3.2.2 then
  some 11
 else
  (PV f1 l2).bind fun r4 =>
  bif (!r4) then
   some 11
  else
   some 0

noncomputable def MQ (r14 : Int × Bool) (out15 : List (List Int)) (x_x19 : Int) (i16 : Int) (x20 : Bool) (x21 : Bool) (x22 : Bool) (x23 : Bool) : Option (((List (List Int)) × Int) ⊕ (((List (List Int)) × Int) ⊕ ((List (List Int)) × Int))) :=
 chk (0 ≤ r14.1 ∧ r14.1 < out15.length) <|
 ((out15)[r14.1.toNat]?).bind fun out_e24 =>
 (NZ out_e24 x_x19).bind fun r25 =>
 chk (0 ≤ x_x19 ∧ x_x19 < out15.length) <|
 ((out15)[x_x19.toNat]?).bind fun out_e26 =>
 (NZ out_e26 r14.1).bind fun r27 =>
 chk (0 ≤ r14.1 ∧ r14.1 < out15.length) <|
 ((out15)[r14.1.toNat]?).bind fun _ =>
 chk (0 ≤ x_x19 ∧ x_x19 < (out15.set r14.1.toNat r25).length) <|
 ((out15.set r14.1.toNat r25)[x_x19.toNat]?).bind fun _ =>
 cnt ((out15.set r14.1.toNat r25).set x_x19.toNat r27,IntKind.i64.wrap (i16 + 1))
noncomputable def SO (l2 : JR) (k6 : Int) (i16 : Int) (r14 : Int × Bool) (out15 : List (List Int)) (strict3 : Bool) (x_x13 : JL) : Option (((List (List Int)) × Int) ⊕ (((List (List Int)) × Int) ⊕ ((List (List Int)) × Int))) :=
 (ixO l2.Out k6).bind fun x_x18 =>
 (ixO x_x18 i16).bind fun x_x19 =>
 bif (x_x19 == r14.1) then
  cnt (out15,IntKind.i64.wrap (i16 + 1))
 else
  bif (!strict3) then
   bif (x_x13.Op == 17) then
    bif (x_x13.B == x_x19) then
     cnt (out15,IntKind.i64.wrap (i16 + 1))
    else
     MQ r14 out15 x_x19 i16 true (x_x13.Op == 17) true (x_x13.B == x_x19)
   else
    MQ r14 out15 x_x19 i16 true (x_x13.Op == 17) false false
  else
   MQ r14 out15 x_x19 i16 false false false false
noncomputable def NI (k6 : Int) (x7 : Int) (x8 : Int) (x9 : Int) (x10 : Int) (x11 : Int) (out12 : List (List Int)) : Option (((List (List Int)) × Int) ⊕ ((List (List Int)) × Int)) :=
 cnt (out12,IntKind.i64.wrap (k6 + 1))
noncomputable def Qw (l2 : JR) (k6 : Int) (r14 : Int × Bool) (strict3 : Bool) (x_x13 : JL) (out15 : List (List Int)) (i16 : Int) : Option (((List (List Int)) × Int) ⊕ (((List (List Int)) × Int) ⊕ ((List (List Int)) × Int))) :=
 (ixO l2.Out k6).bind fun x_x17 =>
 bif (decide (i16 < (x_x17.length : Int))) then
  bif r14.2 then
   SO l2 k6 i16 r14 out15 strict3 x_x13
  else
   lft (NI k6 x_x13.Op x_x13.A x_x13.B x_x13.C x_x13.Imm out15)
 else
  lft (NI k6 x_x13.Op x_x13.A x_x13.B x_x13.C x_x13.Imm out15)
noncomputable def OP (l2 : JR) (k6 : Int) (r14 : Int × Bool) (strict3 : Bool) (x_x13 : JL) (out5 : List (List Int)) : Option (((List (List Int)) × Int) ⊕ ((List (List Int)) × Int)) :=
 Ks (fun s=>Qw l2 k6 r14 strict3 x_x13 s.1 s.2) (out5,0)
noncomputable def SN (f1 : JO) (l2 : JR) (strict3 : Bool) (out5 : List (List Int)) (k6 : Int) : Option (((List (List Int)) × Int) ⊕ ((List (List Int)) × Int)) :=
 bif (decide (k6 < (f1.Code.length : Int))) then
  (ixO f1.Code k6).bind fun x_x13 =>
  (Nm x_x13).bind fun r14 =>
  bif (x_x13.Op == 17) then
   bif (x_x13.A == x_x13.B) then
    NI k6 x_x13.Op x_x13.A x_x13.B x_x13.C x_x13.Imm out5
   else
    OP l2 k6 r14 strict3 x_x13 out5
  else
   OP l2 k6 r14 strict3 x_x13 out5
 else
  lft (some (out5,0))
noncomputable def PW (f1 : JO) (l2 : JR) (strict3 : Bool) : Option ((List (List Int)) × Int) :=
 (Rq f1 l2).bind fun r4 =>
 bif (r4 != 0) then
  some (([] : List (List Int)),r4)
 else
  chk (0 ≤ (f1.Slots.length : Int) ∧ (f1.Slots.length : Int) ≤ 16777216) <|
  Ks (fun s=>SN f1 l2 strict3 s.1 s.2) (List.replicate (f1.Slots.length : Int).toNat ([] : (List Int)),0)

noncomputable def Tw (f1 : JO) (l2 : JR) : Option ((List (List Int)) × Int) :=
 (PW f1 l2 false).bind fun r3 =>
 some (r3.1,r3.2)

noncomputable def NT (p1 : JL) (p2 : Int) : Option (Bool) :=
 some false

noncomputable def Kz (x15 : List (List Bool)) (r11 : Int × Bool) (x_x17 : Int) (x16 : Int) (x18 : Bool) : Option (((List (List Bool)) × Int) ⊕ (((List (List Bool)) × Int) ⊕ ((List (List Int)) × Int))) :=
 bif x18 then
  ((x15)[r11.1.toNat]?).bind fun row20 =>
  ((x15)[x_x17.toNat]?).bind fun row21 =>
  chk (r11.1.toNat ≠ x_x17.toNat) <|
  chk (0 ≤ r11.1 ∧ r11.1 < x15.length) <|
  chk (0 ≤ x_x17 ∧ x_x17 < x15.length) <|
  chk (0 ≤ x_x17 ∧ x_x17 < row20.length) <|
  ((row20)[x_x17.toNat]?).bind fun _ =>
  chk (0 ≤ r11.1 ∧ r11.1 < row21.length) <|
  ((row21)[r11.1.toNat]?).bind fun _ =>
  cnt ((x15.set r11.1.toNat (row20.set x_x17.toNat true)).set x_x17.toNat (row21.set r11.1.toNat true),IntKind.i64.wrap (x16 + 1))
 else
  cnt (x15,IntKind.i64.wrap (x16 + 1))
noncomputable def Mm (x_x14 : (List Int)) (r11 : Int × Bool) (x_x10 : JL) (x9 : Int) (x15 : List (List Bool)) (x16 : Int) : Option (((List (List Bool)) × Int) ⊕ (((List (List Bool)) × Int) ⊕ ((List (List Int)) × Int))) :=
 bif (decide (x16 < (x_x14.length : Int))) then
  (ixO x_x14 x16).bind fun x_x17 =>
  bif (x_x17 != r11.1) then
   (NT x_x10 x_x17).bind fun r19 =>
   Kz x15 r11 x_x17 x16 (!r19)
  else
   Kz x15 r11 x_x17 x16 false
 else
  lft (cnt (x15,IntKind.i64.wrap (x9 + 1)))
noncomputable def KZ (l2 : JR) (x9 : Int) (r11 : Int × Bool) (x_x10 : JL) (x8 : List (List Bool)) (x12 : Bool) (x13 : Bool) : Option (((List (List Bool)) × Int) ⊕ ((List (List Int)) × Int)) :=
 (ixO l2.Out x9).bind fun x_x14 =>
 Ks (fun s=>Mm x_x14 r11 x_x10 x9 s.1 s.2) (x8,0)
noncomputable def Ml (f1 : JO) (l2 : JR) (x8 : List (List Bool)) (x9 : Int) : Option (((List (List Bool)) × Int) ⊕ ((List (List Int)) × Int)) :=
 bif (decide (x9 < (f1.Code.length : Int))) then
  (ixO f1.Code x9).bind fun x_x10 =>
  (MN x_x10).bind fun r11 =>
  bif (!r11.2) then
   cnt (x8,IntKind.i64.wrap (x9 + 1))
  else
   bif (x_x10.Op == 17) then
    bif (x_x10.A == x_x10.B) then
     cnt (x8,IntKind.i64.wrap (x9 + 1))
    else
     KZ l2 x9 r11 x_x10 x8 true (x_x10.A == x_x10.B)
   else
    KZ l2 x9 r11 x_x10 x8 false false
 else
  lft (
   (Lq x8).bind fun r24 =>
   some (r24,0))
noncomputable def Lr (f1 : JO) (l2 : JR) (x4 : List (List Bool)) : Option ((List (List Int)) × Int) :=
 Ks (fun s=>Ml f1 l2 s.1 s.2) (x4,0)
noncomputable def Mk (f1 : JO) (l2 : JR) (m5 : List (List Bool)) (x6 : Int) : Option (((List (List Bool)) × Int) ⊕ ((List (List Int)) × Int)) :=
 bif (decide (x6 < ((List.replicate (f1.Slots.length : Int).toNat ([] : (List Bool))).length : Int))) then
  chk (0 ≤ (f1.Slots.length : Int) ∧ (f1.Slots.length : Int) ≤ 16777216) <|
  chk (0 ≤ x6 ∧ x6 < m5.length) <|
  ((m5)[x6.toNat]?).bind fun _ =>
  cnt (m5.set x6.toNat (List.replicate (f1.Slots.length : Int).toNat false),IntKind.i64.wrap (x6 + 1))
 else
  lft (Lr f1 l2 m5)
noncomputable def LX (f1 : JO) (l2 : JR) : Option ((List (List Int)) × Int) :=
 (Nd f1 l2).bind fun r3 =>
 bif (r3 != 0) then
  some (([] : List (List Int)),r3)
 else
  chk (0 ≤ (f1.Slots.length : Int) ∧ (f1.Slots.length : Int) ≤ 16777216) <|
  Ks (fun s=>Mk f1 l2 s.1 s.2) (List.replicate (f1.Slots.length : Int).toNat ([] : (List Bool)),0)

noncomputable def NB (f1 : JO) (l2 : JR) : Option ((List (List Int)) × Int) :=
 (LX f1 l2).bind fun r3 =>
 some (r3.1,r3.2)

noncomputable def SA (f1 : JO) (l2 : JR) : Option ((List (List Int)) × Int) :=
 (PW f1 l2 true).bind fun r3 =>
 some (r3.1,r3.2)

noncomputable def Nt (r4 : JO × JR × JK) (raw2 : JR) (x5 : Int) : Option ((Int) ⊕ (Bool)) :=
 bif (decide (x5 < (([r4.2.1,raw2] : List JR).length : Int))) then
  chk (0 ≤ x5 ∧ x5 < ([r4.2.1,raw2] : List JR).length) <|
  ((([r4.2.1,raw2] : List JR))[x5.toNat]?).bind fun x_e6 =>
  (Oi r4.1 x_e6).bind fun r7 =>
  (Tw r4.1 x_e6).bind fun r8 =>
  (NB r4.1 x_e6).bind fun r9 =>
  (SA r4.1 x_e6).bind fun r10 =>
  bif (r7.2 != r8.2) then
   lft (some false)
  else
   (Nl r7.1 r8.1).bind fun r11 =>
   bif (!r11) then
    lft (some false)
   else
    bif (r9.2 != r10.2) then
     lft (some false)
    else
     (Nl r9.1 r10.1).bind fun r12 =>
     bif (!r12) then
      lft (some false)
     else
      cnt (IntKind.i64.wrap (x5 + 1))
 else
  lft (some true)
noncomputable def Nu (codes1 : (List Int)) (raw2 : JR) : Option (Bool) :=
 (Rl codes1).bind fun r4 =>
 Ks (fun s=>Nt r4 raw2 s) 0
noncomputable def Mg (codes1 : (List Int)) (raw2 : JR) : Option (Bool) :=
 (Rk).bind fun r3 =>
 bif (!r3) then
  some (decide ((raw2.Out.length : Int) > 100))
 else
  bif (decide ((raw2.Out.length : Int) > 100)) then
   some (decide ((raw2.Out.length : Int) > 100))
  else
   Nu codes1 raw2

end Go.Proofs.YtcelninhkmhjkaaDoor
