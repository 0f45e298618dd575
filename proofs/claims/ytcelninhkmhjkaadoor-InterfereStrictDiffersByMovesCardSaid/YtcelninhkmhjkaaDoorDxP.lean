/-
 The programs on typed data; written by a program (dx.py).
-/
import Derived.Test.YtcelninhkmhjkaaDoorDxT
namespace Go.Proofs.YtcelninhkmhjkaaDoor
open Go Go.Dw Go.Proofs
set_option maxRecDepth 100000
noncomputable def KA (s1 : (List JY)) (v2 : JY) (x3 : Int) : Option ((Int) ⊕ (Int)) :=
 bif (decide (x3 < (s1.length : Int))) then
  (ixO s1 x3).bind fun x_x4 =>
  bif ((v2.a0 == x_x4.a0) && ((v2.a1 == x_x4.a1) && true)) then
   lft (some x3)
  else
   cnt (IntKind.i64.wrap (x3 + 1))
 else
  lft (some (-1))
noncomputable def LX (s1 : (List JY)) (v2 : JY) : Option (Int) :=
 Ks (fun s=>KA s1 v2 s) 0

noncomputable def Lh (s1 : (List JY)) (v2 : JY) : Option (Bool) :=
 (LX s1 v2).bind fun r3 =>
 some (decide (r3 ≥ 0))

noncomputable def Ln (f1 : JO) (l2 : List JY) (x3 : Int) : Option (((List JY) × Int) ⊕ ((List JY))) :=
 bif (decide (x3 < (f1.Code.length : Int))) then
  (ixO f1.Code x3).bind fun x_x4 =>
  bif (x_x4.Op == 17) then
   bif (x_x4.A != x_x4.B) then
    (Lh l2 (JY.mk x_x4.A x_x4.B)).bind fun r5 =>
    bif (!r5) then
     chk (l2.length + ([(JY.mk x_x4.A x_x4.B)] : List JY).length ≤ 16777216) <|
     cnt (l2 ++ ([(JY.mk x_x4.A x_x4.B)] : List JY),IntKind.i64.wrap (x3 + 1))
    else
     cnt (l2,IntKind.i64.wrap (x3 + 1))
   else
    cnt (l2,IntKind.i64.wrap (x3 + 1))
  else
   cnt (l2,IntKind.i64.wrap (x3 + 1))
 else
  lft (some l2)
noncomputable def MY (f1 : JO) : Option ((List JY)) :=
 Ks (fun s=>Ln f1 s.1 s.2) (([] : List JY),0)

noncomputable def Rb  : Option (Bool) :=
 (MY (JO.mk 0 ([(Ko.mk 8 8),(Ko.mk 8 8)] : List Ko) ([(JL.mk 17 0 1 0 0),(JL.mk 23 0 0 0 0)] : List JL))).bind fun r1 =>
 some ((r1.length : Int) == 1)

noncomputable def UM (list1 : (List Int)) (limit2 : Int) : Option (JJ) :=
 chk (0 ≤ (Uo (list1.length : Int) limit2) ∧ (Uo (list1.length : Int) limit2) ≤ list1.length) <|
 some (JJ.mk (list1.take (Uo (list1.length : Int) limit2).toNat) 0)

noncomputable def Ps (c1 : JJ) : Option (Bool × JJ) :=
 some ((decide (c1.at_ < (c1.list.length : Int))),c1)

noncomputable def Px (n2 : Int) (c3 : List Int) (c4 : Int) : Option (Int × JJ) :=
 (ixO c3 c4).bind fun x_x6 =>
 some (IntKind.i64.wrap ((IntKind.i64.wrap ((IntKind.i64.wrap (x_x6)) * n2)).tdiv 256),(JJ.mk c3 (IntKind.i64.wrap (c4 + 1))))
noncomputable def JT (c1 : JJ) (n2 : Int) : Option (Int × JJ) :=
 (Ps c1).bind fun r5 =>
 bif (!r5.1) then
  some (0,r5.2)
 else
  bif (decide (n2 < 1)) then
   some (0,r5.2)
  else
   Px n2 r5.2.list r5.2.at_

noncomputable def Oc (c1 : JJ) : Option (Ko × JJ) :=
 (JT c1 7).bind fun r2 =>
 chk (0 ≤ r2.1 ∧ r2.1 < ([8,4,8,1,2,16,8] : List Int).length) <|
 ((([8,4,8,1,2,16,8] : List Int))[r2.1.toNat]?).bind fun x_e3 =>
 (JT r2.2 8).bind fun r4 =>
 chk (0 ≤ r4.1 ∧ r4.1 < ([8,4,1,8,16,2,32,64] : List Int).length) <|
 ((([8,4,1,8,16,2,32,64] : List Int))[r4.1.toNat]?).bind fun x_e5 =>
 some ((Ko.mk x_e3 x_e5),r4.2)

noncomputable def OX (c4 : List Int) (c5 : Int) (l6 : List Ko) (n7 : Int) : Option (((List Int) × Int × (List Ko) × Int) ⊕ ((List Ko) × JJ)) :=
 bif (decide (n7 > 0)) then
  (Oc (JJ.mk c4 c5)).bind fun r8 =>
  chk (l6.length + ([r8.1] : List Ko).length ≤ 16777216) <|
  cnt (r8.2.list,r8.2.at_,l6 ++ ([r8.1] : List Ko),IntKind.i64.wrap (n7 - 1))
 else
  lft (some (l6,(JJ.mk c4 c5)))
noncomputable def Nz (c1 : JJ) (most2 : Int) : Option ((List Ko) × JJ) :=
 (JT c1 (IntKind.i64.wrap (most2 + 1))).bind fun r3 =>
 Ks (fun s=>OX s.1 s.2.1 s.2.2.1 s.2.2.2) (r3.2.list,r3.2.at_,([] : List Ko),r3.1)

noncomputable def Pz (f2 : JO) (s3 : Int) (c1 : JJ) (l4 : List Int) (k5 : Int) : Option (((List Int) × Int) ⊕ (Int × JJ)) :=
 bif (decide (k5 < (f2.Slots.length : Int))) then
  (ixO f2.Slots k5).bind fun x_x6 =>
  (ixO f2.Slots s3).bind fun x_x7 =>
  bif (x_x6.Size == x_x7.Size) then
   chk (l4.length + ([k5] : List Int).length ≤ 16777216) <|
   cnt (l4 ++ ([k5] : List Int),IntKind.i64.wrap (k5 + 1))
  else
   cnt (l4,IntKind.i64.wrap (k5 + 1))
 else
  lft (
   (JT c1 (l4.length : Int)).bind fun r8 =>
   chk (0 ≤ r8.1 ∧ r8.1 < l4.length) <|
   ((l4)[r8.1.toNat]?).bind fun l_e9 =>
   some (l_e9,r8.2))
noncomputable def Oe (c1 : JJ) (f2 : JO) (s3 : Int) : Option (Int × JJ) :=
 Ks (fun s=>Pz f2 s3 c1 s.1 s.2) (([] : List Int),0)

noncomputable def MX (c1 : JJ) : Option (Int × JJ) :=
 (JT c1 6).bind fun r2 =>
 bif (r2.1 == 0) then
  (JT r2.2 3).bind fun r3 =>
  some (IntKind.u64.wrap (18446744073709551615 - (IntKind.u64.wrap (r3.1))),r3.2)
 else
  bif (r2.1 == 1) then
   (JT r2.2 64).bind fun r4 =>
   chk (0 ≤ r4.1) <|
   some (IntKind.u64.wrap (1 * 2 ^ (Nat.min r4.1.toNat IntKind.u64.bits)),r4.2)
  else
   bif (r2.1 == 2) then
    some (0,r2.2)
   else
    (JT r2.2 256).bind fun r5 =>
    some (IntKind.u64.wrap (r5.1),r5.2)

noncomputable def Py (params4 : (List Int)) (i3 : Int) (r23 : Int × JJ) (c24 : List Int) (c25 : Int) (out26 : List JL) (a27 : Int) : Option (((List Int) × Int × (List JL) × Int) ⊕ ((List JL) × JJ)) :=
 (ixO params4 (IntKind.i64.wrap ((IntKind.i64.wrap (i3 + 1)) + r23.1))).bind fun x_x28 =>
 bif (decide (a27 < x_x28)) then
  (JT (JJ.mk c24 c25) 8).bind fun r29 =>
  bif (decide (r29.1 < 7)) then
   (JT r29.2 4).bind fun r30 =>
   chk (out26.length + ([(JL.mk 18 a27 r30.1 0 0)] : List JL).length ≤ 16777216) <|
   cnt (r30.2.list,r30.2.at_,out26 ++ ([(JL.mk 18 a27 r30.1 0 0)] : List JL),IntKind.i64.wrap (a27 + 1))
  else
   cnt (r29.2.list,r29.2.at_,out26,IntKind.i64.wrap (a27 + 1))
 else
  lft (
   chk (out26.length + ([(JL.mk 22 (IntKind.i64.wrap ((IntKind.i64.wrap (i3 + 1)) + r23.1)) 0 0 0)] : List JL).length ≤ 16777216) <|
   some (out26 ++ ([(JL.mk 22 (IntKind.i64.wrap ((IntKind.i64.wrap (i3 + 1)) + r23.1)) 0 0 0)] : List JL),(JJ.mk c24 c25)))
noncomputable def RZ (r5 : Int × JJ) (r6 : Int × JJ) : Option ((List JL) × JJ) :=
 some (([(JL.mk 14 r5.1 0 0 0)] : List JL),r6.2)
noncomputable def MM (r6 : Int × JJ) (params4 : (List Int)) (i3 : Int) (r5 : Int × JJ) (x22 : Bool) : Option ((List JL) × JJ) :=
 bif x22 then
  (JT r6.2 (IntKind.i64.wrap ((IntKind.i64.wrap ((params4.length : Int) - i3)) - 1))).bind fun r23 =>
  Ks (fun s=>Py params4 i3 r23 s.1 s.2.1 s.2.2.1 s.2.2.2) (r23.2.list,r23.2.at_,([] : List JL),0)
 else
  RZ r5 r6
noncomputable def ML (r6 : Int × JJ) (f2 : JO) (r5 : Int × JJ) (params4 : (List Int)) (i3 : Int) (x20 : Bool) : Option ((List JL) × JJ) :=
 bif x20 then
  (JT r6.2 f2.Params).bind fun r21 =>
  some (([(JL.mk 19 r5.1 r21.1 0 0)] : List JL),r21.2)
 else
  bif (decide (r6.1 ≥ 17)) then
   MM r6 params4 i3 r5 (decide ((IntKind.i64.wrap (i3 + 1)) < (params4.length : Int)))
  else
   MM r6 params4 i3 r5 false
noncomputable def MK (r6 : Int × JJ) (f2 : JO) (r5 : Int × JJ) (params4 : (List Int)) (i3 : Int) (x11 : Bool) : Option ((List JL) × JJ) :=
 bif x11 then
  (JT r6.2 (f2.Slots.length : Int)).bind fun r12 =>
  (Oe r12.2 f2 r12.1).bind fun r13 =>
  some (([(JL.mk 17 r13.1 r12.1 0 0)] : List JL),r13.2)
 else
  bif (decide (r6.1 < 11)) then
   (MX r6.2).bind fun r14 =>
   some (([(JL.mk 0 r5.1 0 0 r14.1)] : List JL),r14.2)
  else
   bif (decide (r6.1 < 13)) then
    (JT r6.2 10).bind fun r15 =>
    (JT r15.2 4).bind fun r16 =>
    (JT r16.2 8).bind fun r17 =>
    some (([(JL.mk (IntKind.i64.wrap (2 + r15.1)) r5.1 r16.1 r17.1 0)] : List JL),r17.2)
   else
    bif (decide (r6.1 < 15)) then
     some (([(JL.mk 14 r5.1 0 0 0)] : List JL),r6.2)
    else
     bif (r6.1 == 15) then
      (JT r6.2 3).bind fun r18 =>
      chk (0 ≤ r18.1 ∧ r18.1 < ([13,12,1] : List Int).length) <|
      ((([13,12,1] : List Int))[r18.1.toNat]?).bind fun x_e19 =>
      some (([(JL.mk x_e19 r5.1 0 0 0)] : List JL),r18.2)
     else
      bif (r6.1 == 16) then
       ML r6 f2 r5 params4 i3 (decide (f2.Params > 0))
      else
       ML r6 f2 r5 params4 i3 false
noncomputable def MJ (r6 : Int × JJ) (f2 : JO) (r5 : Int × JJ) (params4 : (List Int)) (i3 : Int) (x9 : Bool) : Option ((List JL) × JJ) :=
 bif x9 then
  (JT r6.2 (f2.Slots.length : Int)).bind fun r10 =>
  some (([(JL.mk 15 r5.1 r10.1 0 0)] : List JL),r10.2)
 else
  bif (decide (r6.1 < 9)) then
   MK r6 f2 r5 params4 i3 (decide ((f2.Slots.length : Int) > 0))
  else
   MK r6 f2 r5 params4 i3 false
noncomputable def MI (r6 : Int × JJ) (f2 : JO) (r5 : Int × JJ) (params4 : (List Int)) (i3 : Int) (x7 : Bool) : Option ((List JL) × JJ) :=
 bif x7 then
  (JT r6.2 (f2.Slots.length : Int)).bind fun r8 =>
  some (([(JL.mk 16 r8.1 r5.1 0 0)] : List JL),r8.2)
 else
  bif (decide (r6.1 < 6)) then
   MJ r6 f2 r5 params4 i3 (decide ((f2.Slots.length : Int) > 0))
  else
   MJ r6 f2 r5 params4 i3 false
noncomputable def Od (c1 : JJ) (f2 : JO) (i3 : Int) (params4 : (List Int)) : Option ((List JL) × JJ) :=
 (JT c1 4).bind fun r5 =>
 (JT r5.2 20).bind fun r6 =>
 bif (decide (r6.1 < 3)) then
  MI r6 f2 r5 params4 i3 (decide ((f2.Slots.length : Int) > 0))
 else
  MI r6 f2 r5 params4 i3 false

noncomputable def Mw (k32 : Int) (code31 : List JL) (r33 : Int × JJ) (to34 : Int) (x35 : Bool) : Option (((List Int) × Int × (List JL) × Int) ⊕ (JO × JJ)) :=
 bif x35 then
  chk (0 ≤ k32 ∧ k32 < code31.length) <|
  ((code31)[k32.toNat]?).bind fun code_o38 =>
  cnt (r33.2.list,r33.2.at_,code31.set k32.toNat (JL.mk code_o38.Op to34 code_o38.B code_o38.C code_o38.Imm),IntKind.i64.wrap (k32 + 1))
 else
  chk (0 ≤ k32 ∧ k32 < code31.length) <|
  ((code31)[k32.toNat]?).bind fun code_e39 =>
  bif (code_e39.Op == 21) then
   chk (0 ≤ k32 ∧ k32 < code31.length) <|
   ((code31)[k32.toNat]?).bind fun code_e40 =>
   bif (decide (code_e40.B < 0)) then
    chk (0 ≤ k32 ∧ k32 < code31.length) <|
    ((code31)[k32.toNat]?).bind fun code_o41 =>
    cnt (r33.2.list,r33.2.at_,code31.set k32.toNat (JL.mk code_o41.Op code_o41.A to34 code_o41.C code_o41.Imm),IntKind.i64.wrap (k32 + 1))
   else
    cnt (r33.2.list,r33.2.at_,code31,IntKind.i64.wrap (k32 + 1))
  else
   cnt (r33.2.list,r33.2.at_,code31,IntKind.i64.wrap (k32 + 1))
noncomputable def KT (k32 : Int) (code31 : List JL) (r33 : Int × JJ) (to34 : Int) : Option (((List Int) × Int × (List JL) × Int) ⊕ (JO × JJ)) :=
 chk (0 ≤ k32 ∧ k32 < code31.length) <|
 ((code31)[k32.toNat]?).bind fun code_e36 =>
 bif (code_e36.Op == 20) then
  chk (0 ≤ k32 ∧ k32 < code31.length) <|
  ((code31)[k32.toNat]?).bind fun code_e37 =>
  Mw k32 code31 r33 to34 (decide (code_e37.A < 0))
 else
  Mw k32 code31 r33 to34 false
noncomputable def Mv (x_x5 : Int) (f17 : List Ko) (c29 : List Int) (c30 : Int) (code31 : List JL) (k32 : Int) : Option (((List Int) × Int × (List JL) × Int) ⊕ (JO × JJ)) :=
 bif (decide (k32 < (code31.length : Int))) then
  (JT (JJ.mk c29 c30) 8).bind fun r33 =>
  bif (decide ((IntKind.i64.wrap ((IntKind.i64.wrap (k32 + r33.1)) - 2)) < 0)) then
   KT k32 code31 r33 (IntKind.i64.wrap ((code31.length : Int) - 1))
  else
   bif (decide ((IntKind.i64.wrap ((IntKind.i64.wrap (k32 + r33.1)) - 2)) ≥ (code31.length : Int))) then
    KT k32 code31 r33 (IntKind.i64.wrap ((code31.length : Int) - 1))
   else
    KT k32 code31 r33 (IntKind.i64.wrap ((IntKind.i64.wrap (k32 + r33.1)) - 2))
 else
  lft (some ((JO.mk x_x5 f17 code31),(JJ.mk c29 c30)))
noncomputable def LF (code16 : List JL) (x_x5 : Int) (f17 : List Ko) (c23 : List Int) (c24 : Int) (end25 : Int) (end26 : Int) : Option (JO × JJ) :=
 chk (code16.length + ([(JL.mk end25 0 0 0 end26)] : List JL).length ≤ 16777216) <|
 Ks (fun s=>Mv x_x5 f17 s.1 s.2.1 s.2.2.1 s.2.2.2) (c23,c24,code16 ++ ([(JL.mk end25 0 0 0 end26)] : List JL),0)
noncomputable def NN (x_x5 : Int) (i2 : Int) (params3 : (List Int)) (c14 : List Int) (c15 : Int) (code16 : List JL) (f17 : List Ko) (n18 : Int) : Option (((List Int) × Int × (List JL) × (List Ko) × Int) ⊕ (JO × JJ)) :=
 bif (decide (n18 > 0)) then
  (Od (JJ.mk c14 c15) (JO.mk x_x5 f17 ([])) i2 params3).bind fun r19 =>
  chk (code16.length + r19.1.length ≤ 16777216) <|
  (JT r19.2 9).bind fun r20 =>
  bif (r20.1 == 7) then
   (JT r20.2 4).bind fun r21 =>
   chk ((code16 ++ r19.1).length + ([(JL.mk 21 r21.1 (-1) 0 0)] : List JL).length ≤ 16777216) <|
   cnt (r21.2.list,r21.2.at_,(code16 ++ r19.1) ++ ([(JL.mk 21 r21.1 (-1) 0 0)] : List JL),f17,IntKind.i64.wrap (n18 - 1))
  else
   bif (r20.1 == 8) then
    (JT r20.2 3).bind fun r22 =>
    bif (r22.1 == 2) then
     chk ((code16 ++ r19.1).length + ([(JL.mk 20 (-1) 0 0 0)] : List JL).length ≤ 16777216) <|
     cnt (r22.2.list,r22.2.at_,(code16 ++ r19.1) ++ ([(JL.mk 20 (-1) 0 0 0)] : List JL),f17,IntKind.i64.wrap (n18 - 1))
    else
     cnt (r22.2.list,r22.2.at_,code16 ++ r19.1,f17,IntKind.i64.wrap (n18 - 1))
   else
    cnt (r20.2.list,r20.2.at_,code16 ++ r19.1,f17,IntKind.i64.wrap (n18 - 1))
 else
  lft (
   (JT (JJ.mk c14 c15) 12).bind fun r27 =>
   bif (r27.1 == 11) then
    (MX r27.2).bind fun r28 =>
    LF code16 x_x5 f17 r28.2.list r28.2.at_ 24 r28.1
   else
    LF code16 x_x5 f17 r27.2.list r27.2.at_ 23 0)
noncomputable def NM (r6 : (List Ko) × JJ) (most4 : Int) (x_x5 : Int) (i2 : Int) (params3 : (List Int)) (c7 : List Int) (c8 : Int) (code9 : List JL) (s10 : Int) : Option (((List Int) × Int × (List JL) × Int) ⊕ (JO × JJ)) :=
 bif (decide (s10 < (r6.1.length : Int))) then
  (JT (JJ.mk c7 c8) 4).bind fun r11 =>
  bif (decide (r11.1 < 3)) then
   (JT r11.2 4).bind fun r12 =>
   chk (code9.length + ([(JL.mk 16 s10 r12.1 0 0)] : List JL).length ≤ 16777216) <|
   cnt (r12.2.list,r12.2.at_,code9 ++ ([(JL.mk 16 s10 r12.1 0 0)] : List JL),IntKind.i64.wrap (s10 + 1))
  else
   cnt (r11.2.list,r11.2.at_,code9,IntKind.i64.wrap (s10 + 1))
 else
  lft (
   (JT (JJ.mk c7 c8) (IntKind.i64.wrap (most4 + 1))).bind fun r13 =>
   Ks (fun s=>NN x_x5 i2 params3 s.1 s.2.1 s.2.2.1 s.2.2.2.1 s.2.2.2.2) (r13.2.list,r13.2.at_,code9,r6.1,r13.1))
noncomputable def Mr (c1 : JJ) (i2 : Int) (params3 : (List Int)) (most4 : Int) : Option (JO × JJ) :=
 (ixO params3 i2).bind fun x_x5 =>
 (Nz c1 6).bind fun r6 =>
 Ks (fun s=>NM r6 most4 x_x5 i2 params3 s.1 s.2.1 s.2.2.1 s.2.2.2) (r6.2.list,r6.2.at_,([] : List JL),0)

noncomputable def Ob (most3 : Int) (c10 : List Int) (c11 : Int) (p12 : List JO) (i13 : Int) (params14 : List Int) : Option (((List Int) × Int × (List JO) × Int × (List Int)) ⊕ (On × JJ)) :=
 bif (decide (i13 < (params14.length : Int))) then
  chk (([] : List JO).length + p12.length ≤ 16777216) <|
  (Mr (JJ.mk c10 c11) i13 params14 most3).bind fun r15 =>
  chk ((([] : List JO) ++ p12).length + ([r15.1] : List JO).length ≤ 16777216) <|
  cnt (r15.2.list,r15.2.at_,(([] : List JO) ++ p12) ++ ([r15.1] : List JO),IntKind.i64.wrap (i13 + 1),params14)
 else
  lft (some ((On.mk p12),(JJ.mk c10 c11)))
noncomputable def Oa (most3 : Int) (c5 : List Int) (c6 : Int) (params7 : List Int) (n8 : Int) : Option (((List Int) × Int × (List Int) × Int) ⊕ (On × JJ)) :=
 bif (decide (n8 > 0)) then
  (JT (JJ.mk c5 c6) 4).bind fun r9 =>
  chk (params7.length + ([r9.1] : List Int).length ≤ 16777216) <|
  cnt (r9.2.list,r9.2.at_,params7 ++ ([r9.1] : List Int),IntKind.i64.wrap (n8 - 1))
 else
  lft (Ks (fun s=>Ob most3 s.1 s.2.1 s.2.2.1 s.2.2.2.1 s.2.2.2.2) (c5,c6,[],0,params7))
noncomputable def MH (c1 : JJ) (funcs2 : Int) (most3 : Int) : Option (On × JJ) :=
 (JT c1 funcs2).bind fun r4 =>
 Ks (fun s=>Oa most3 s.1 s.2.1 s.2.2.1 s.2.2.2) (r4.2.list,r4.2.at_,([0] : List Int),r4.1)

noncomputable def Mc (x_x3 : JL) (k2 : Int) (x4 : Bool) : Option ((List Int)) :=
 bif x4 then
  some ([] : List Int)
 else
  bif (x_x3.Op == 21) then
   bif (decide (x_x3.B < (IntKind.i64.wrap (k2 + 1)))) then
    some ([x_x3.B,IntKind.i64.wrap (k2 + 1)] : List Int)
   else
    bif (decide (x_x3.B > (IntKind.i64.wrap (k2 + 1)))) then
     some ([IntKind.i64.wrap (k2 + 1),x_x3.B] : List Int)
    else
     some ([IntKind.i64.wrap (k2 + 1)] : List Int)
  else
   some ([IntKind.i64.wrap (k2 + 1)] : List Int)
noncomputable def Tl (f1 : JO) (k2 : Int) : Option ((List Int)) :=
 (ixO f1.Code k2).bind fun x_x3 =>
 bif (x_x3.Op == 20) then
  some ([x_x3.A] : List Int)
 else
  bif (x_x3.Op == 23) then
   Mc x_x3 k2 (x_x3.Op == 23)
  else
   Mc x_x3 k2 (x_x3.Op == 24)
noncomputable def Sx (f1 : JO) (k2 : Int) : Option ((List Int)) :=
 bif (decide (k2 < 0)) then
  some ([] : List Int)
 else
  bif (decide (k2 ≥ (f1.Code.length : Int))) then
   some ([] : List Int)
  else
   Tl f1 k2

noncomputable def PC (x1 : JL) : Option (Bool) :=
 bif (x1.Op == 16) then
  some true
 else
  some (x1.Op == 17)

noncomputable def QW (x1 : JL) : Option (Int × Bool) :=
 (PC x1).bind fun r2 =>
 bif r2 then
  some (x1.A,true)
 else
  some (0,false)

noncomputable def Nd (s1 : (List Int)) (n2 : Int) (out3 : List Int) (i4 : Int) : Option (((List Int) × Int) ⊕ ((List Int))) :=
 bif (decide (i4 < (s1.length : Int))) then
  (ixO s1 i4).bind fun x_x5 =>
  bif (x_x5 != n2) then
   (ixO s1 i4).bind fun x_x6 =>
   chk (out3.length + ([x_x6] : List Int).length ≤ 16777216) <|
   cnt (out3 ++ ([x_x6] : List Int),IntKind.i64.wrap (i4 + 1))
  else
   cnt (out3,IntKind.i64.wrap (i4 + 1))
 else
  lft (some out3)
noncomputable def OQ (s1 : (List Int)) (n2 : Int) : Option ((List Int)) :=
 Ks (fun s=>Nd s1 n2 s.1 s.2) (([] : List Int),0)

noncomputable def QM (x1 : JL) : Option ((List Int)) :=
 bif (x1.Op == 15) then
  some ([x1.B] : List Int)
 else
  bif (x1.Op == 17) then
   some ([x1.B] : List Int)
  else
   some ([] : List Int)

noncomputable def Sw (n1 : Int) : Option (Bool) :=
 bif (decide (n1 ≥ 0)) then
  some (decide (n1 < 512))
 else
  some false

noncomputable def Nc (s1 : (List Int)) (i6 : Int) (out7 : List Int) (done8 : Bool) : Option (((List Int) × Bool × Int) ⊕ ((List Int))) :=
 (ixO s1 i6).bind fun x_x12 =>
 chk (out7.length + ([x_x12] : List Int).length ≤ 16777216) <|
 cnt (out7 ++ ([x_x12] : List Int),done8,IntKind.i64.wrap (i6 + 1))
noncomputable def NW (s1 : (List Int)) (i6 : Int) (n2 : Int) (out4 : List Int) (done5 : Bool) (x9 : Bool) : Option (((List Int) × Bool × Int) ⊕ ((List Int))) :=
 bif x9 then
  (ixO s1 i6).bind fun x_x11 =>
  bif (decide (x_x11 > n2)) then
   chk (out4.length + ([n2] : List Int).length ≤ 16777216) <|
   Nc s1 i6 (out4 ++ ([n2] : List Int)) true
  else
   Nc s1 i6 out4 true
 else
  Nc s1 i6 out4 done5
noncomputable def LW (s1 : (List Int)) (n2 : Int) (out4 : List Int) (done5 : Bool) (i6 : Int) : Option (((List Int) × Bool × Int) ⊕ ((List Int))) :=
 bif (decide (i6 < (s1.length : Int))) then
  bif (!done5) then
   (ixO s1 i6).bind fun x_x10 =>
   NW s1 i6 n2 out4 done5 (decide (x_x10 ≥ n2))
  else
   NW s1 i6 n2 out4 done5 false
 else
  lft (
   bif (!done5) then
    chk (out4.length + ([n2] : List Int).length ≤ 16777216) <|
    some (out4 ++ ([n2] : List Int))
   else
    some out4)
noncomputable def OG (s1 : (List Int)) (n2 : Int) : Option ((List Int)) :=
 (Sw n2).bind fun r3 =>
 Ks (fun s=>LW s1 n2 s.1 s.2.1 s.2.2) (([] : List Int),(!r3),0)

noncomputable def OK (b2 : (List Int)) (out3 : List Int) (i4 : Int) : Option (((List Int) × Int) ⊕ ((List Int))) :=
 bif (decide (i4 < (b2.length : Int))) then
  (ixO b2 i4).bind fun x_x5 =>
  (OG out3 x_x5).bind fun r6 =>
  cnt (r6,IntKind.i64.wrap (i4 + 1))
 else
  lft (some out3)
noncomputable def OH (a1 : (List Int)) (b2 : (List Int)) : Option ((List Int)) :=
 chk (([] : List Int).length + a1.length ≤ 16777216) <|
 Ks (fun s=>OK b2 s.1 s.2) (([] : List Int) ++ a1,0)

noncomputable def UY (x1 : JL) (out2 : (List Int)) : Option ((List Int)) :=
 (QW x1).bind fun r3 =>
 bif r3.2 then
  (OQ out2 r3.1).bind fun r4 =>
  (QM x1).bind fun r5 =>
  (OH r4 r5).bind fun r6 =>
  some r6
 else
  (QM x1).bind fun r7 =>
  (OH out2 r7).bind fun r8 =>
  some r8

noncomputable def Tm (k4 : Int) (x5 : List (List Int)) : Option (((List (List Int)) × Int) ⊕ (JV)) :=
 cnt (x5,IntKind.i64.wrap (k4 + 1))
noncomputable def Pn (r6 : (List Int)) (k4 : Int) (f1 : JO) (l2 : JV) (x7 : List (List Int)) (i8 : Int) : Option (((List (List Int)) × Int) ⊕ (((List (List Int)) × Int) ⊕ (JV))) :=
 bif (decide (i8 < (r6.length : Int))) then
  chk (0 ≤ i8 ∧ i8 < r6.length) <|
  ((r6)[i8.toNat]?).bind fun next_e9 =>
  chk (0 ≤ k4 ∧ k4 < x7.length) <|
  ((x7)[k4.toNat]?).bind fun x_e10 =>
  (ixO f1.Code next_e9).bind fun x_x11 =>
  (ixO l2.Out next_e9).bind fun x_x12 =>
  (UY x_x11 x_x12).bind fun r13 =>
  (OH x_e10 r13).bind fun r14 =>
  chk (0 ≤ k4 ∧ k4 < x7.length) <|
  ((x7)[k4.toNat]?).bind fun _ =>
  cnt (x7.set k4.toNat r14,IntKind.i64.wrap (i8 + 1))
 else
  lft (Tm k4 x7)
noncomputable def Pm (f1 : JO) (l2 : JV) (x3 : List (List Int)) (k4 : Int) : Option (((List (List Int)) × Int) ⊕ (JV)) :=
 bif (decide (k4 < (f1.Code.length : Int))) then
  (Sx f1 k4).bind fun r6 =>
  Ks (fun s=>Pn r6 k4 f1 l2 s.1 s.2) (x3,0)
 else
  lft (some (JV.mk x3))
noncomputable def SA (f1 : JO) (l2 : JV) : Option (JV) :=
 chk (0 ≤ (f1.Code.length : Int) ∧ (f1.Code.length : Int) ≤ 16777216) <|
 Ks (fun s=>Pm f1 l2 s.1 s.2) (List.replicate (f1.Code.length : Int).toNat ([] : (List Int)),0)

noncomputable def Ou (a1 : (List Int)) (b2 : (List Int)) (i3 : Int) : Option ((Int) ⊕ (Bool)) :=
 bif (decide (i3 < (a1.length : Int))) then
  (ixO a1 i3).bind fun x_x4 =>
  (ixO b2 i3).bind fun x_x5 =>
  bif (x_x4 != x_x5) then
   lft (some false)
  else
   cnt (IntKind.i64.wrap (i3 + 1))
 else
  lft (some true)
noncomputable def Su (a1 : (List Int)) (b2 : (List Int)) : Option (Bool) :=
 bif ((a1.length : Int) != (b2.length : Int)) then
  some false
 else
  Ks (fun s=>Ou a1 b2 s) 0

noncomputable def MF (a1 : (List (List Int))) (b2 : (List (List Int))) (i3 : Int) : Option ((Int) ⊕ (Bool)) :=
 bif (decide (i3 < (a1.length : Int))) then
  (ixO a1 i3).bind fun x_x4 =>
  (ixO b2 i3).bind fun x_x5 =>
  (Su x_x4 x_x5).bind fun r6 =>
  bif (!r6) then
   lft (some false)
  else
   cnt (IntKind.i64.wrap (i3 + 1))
 else
  lft (some true)
noncomputable def Pl (a1 : (List (List Int))) (b2 : (List (List Int))) : Option (Bool) :=
 bif ((a1.length : Int) != (b2.length : Int)) then
  some false
 else
  Ks (fun s=>MF a1 b2 s) 0

noncomputable def Sy (a1 : JV) (b2 : JV) : Option (Bool) :=
 (Pl a1.Out b2.Out).bind fun r3 =>
 some r3

noncomputable def Sz (f1 : JO) (l2 : List (List Int)) : Option (((List (List Int))) ⊕ (JV)) :=
 (SA f1 (JV.mk l2)).bind fun r3 =>
 (Sy r3 (JV.mk l2)).bind fun r4 =>
 bif r4 then
  lft (some (JV.mk l2))
 else
  cnt r3.Out
noncomputable def PO (f1 : JO) : Option (JV) :=
 chk (0 ≤ (f1.Code.length : Int) ∧ (f1.Code.length : Int) ≤ 16777216) <|
 Ks (fun s=>Sz f1 s) (List.replicate (f1.Code.length : Int).toNat ([] : (List Int)))

noncomputable def Nx (c1 : JJ) : Option (Int × JJ) :=
 (JT c1 12).bind fun r2 =>
 bif (r2.1 == 11) then
  (JT r2.2 (([9223372036854775807,(-9223372036854775808),2147483648,2147483647,(-1),16777216,33554432,1048577,512,80] : List Int).length : Int)).bind fun r3 =>
  chk (0 ≤ r3.1 ∧ r3.1 < ([9223372036854775807,(-9223372036854775808),2147483648,2147483647,(-1),16777216,33554432,1048577,512,80] : List Int).length) <|
  ((([9223372036854775807,(-9223372036854775808),2147483648,2147483647,(-1),16777216,33554432,1048577,512,80] : List Int))[r3.1.toNat]?).bind fun l_e4 =>
  some (l_e4,r3.2)
 else
  (JT r2.2 256).bind fun r5 =>
  (JT r5.2 7).bind fun r6 =>
  chk (0 ≤ r6.1) <|
  some (IntKind.i64.wrap ((r5.1.fdiv (2 ^ (Nat.min r6.1.toNat IntKind.i64.bits))) - (IntKind.i64.wrap (r2.1.tdiv 9))),r6.2)

noncomputable def LU (n12 : Int) (c13 : List Int) (c14 : Int) (x15 : List (List Int)) : Option (((List Int) × Int × (List (List Int)) × Int) ⊕ (JV × JJ)) :=
 cnt (c13,c14,x15,IntKind.i64.wrap (n12 - 1))
noncomputable def Pu (r16 : Int × JJ) (n12 : Int) (r17 : Int × JJ) (x18 : List (List Int)) (k19 : Int) : Option (((List (List Int)) × Int) ⊕ (((List Int) × Int × (List (List Int)) × Int) ⊕ (JV × JJ))) :=
 bif (decide (k19 < (x18.length : Int))) then
  chk (0 ≤ k19 ∧ k19 < x18.length) <|
  ((x18)[k19.toNat]?).bind fun x_e20 =>
  (OG x_e20 r16.1).bind fun r21 =>
  chk (0 ≤ k19 ∧ k19 < x18.length) <|
  ((x18)[k19.toNat]?).bind fun _ =>
  cnt (x18.set k19.toNat r21,IntKind.i64.wrap (k19 + 1))
 else
  lft (LU n12 r17.2.list r17.2.at_ x18)
noncomputable def Pv (c9 : List Int) (c10 : Int) (f2 : JO) (n12 : Int) (x11 : List (List Int)) : Option (((List Int) × Int × (List (List Int)) × Int) ⊕ (JV × JJ)) :=
 (JT (JJ.mk c9 c10) (f2.Slots.length : Int)).bind fun r16 =>
 (JT r16.2 2).bind fun r17 =>
 bif (r17.1 == 0) then
  Ks (fun s=>Pu r16 n12 r17 s.1 s.2) (x11,0)
 else
  (JT r17.2 (x11.length : Int)).bind fun r23 =>
  (JT r23.2 2).bind fun r24 =>
  bif (r24.1 == 0) then
   chk (0 ≤ r23.1 ∧ r23.1 < x11.length) <|
   ((x11)[r23.1.toNat]?).bind fun x_e25 =>
   (OG x_e25 r16.1).bind fun r26 =>
   chk (0 ≤ r23.1 ∧ r23.1 < x11.length) <|
   ((x11)[r23.1.toNat]?).bind fun _ =>
   LU n12 r24.2.list r24.2.at_ (x11.set r23.1.toNat r26)
  else
   chk (0 ≤ r23.1 ∧ r23.1 < x11.length) <|
   ((x11)[r23.1.toNat]?).bind fun x_e28 =>
   (OQ x_e28 r16.1).bind fun r29 =>
   chk (0 ≤ r23.1 ∧ r23.1 < x11.length) <|
   ((x11)[r23.1.toNat]?).bind fun _ =>
   LU n12 r24.2.list r24.2.at_ (x11.set r23.1.toNat r29)
noncomputable def MG (c5 : List Int) (c6 : Int) (x7 : List (List Int)) : Option (JV × JJ) :=
 (JT (JJ.mk c5 c6) 12).bind fun r31 =>
 bif (r31.1 == 10) then
  chk (0 ≤ (1 : Int) ∧ (1 : Int) ≤ x7.length) <|
  some ((JV.mk (x7.drop ((1 : Int).toNat))),r31.2)
 else
  bif (r31.1 == 11) then
   (Nx r31.2).bind fun r32 =>
   (Nx r32.2).bind fun r33 =>
   chk (0 ≤ (0 : Int) ∧ (0 : Int) < x7.length) <|
   ((x7)[(0 : Int).toNat]?).bind fun _ =>
   some ((JV.mk (x7.set ((0 : Int).toNat) ([r32.1,r33.1] : List Int))),r33.2)
  else
   some ((JV.mk x7),r31.2)
noncomputable def Pt (f2 : JO) (c9 : List Int) (c10 : Int) (x11 : List (List Int)) (n12 : Int) : Option (((List Int) × Int × (List (List Int)) × Int) ⊕ (JV × JJ)) :=
 bif (decide (n12 > 0)) then
  bif (decide ((f2.Slots.length : Int) > 0)) then
   Pv c9 c10 f2 n12 x11
  else
   lft (MG c9 c10 x11)
 else
  lft (MG c9 c10 x11)
noncomputable def NZ (c1 : JJ) (f2 : JO) : Option (JV × JJ) :=
 (PO f2).bind fun r3 =>
 (JT c1 3).bind fun r4 =>
 bif (r4.1 == 0) then
  some (r3,r4.2)
 else
  chk (([] : List (List Int)).length + r3.Out.length ≤ 16777216) <|
  (JT r4.2 4).bind fun r8 =>
  Ks (fun s=>Pt f2 s.1 s.2.1 s.2.2.1 s.2.2.2) (r8.2.list,r8.2.at_,([] : List (List Int)) ++ r3.Out,r8.1)

noncomputable def Rc (codes1 : (List Int)) : Option (JO × JV × JJ) :=
 (UM codes1 250).bind fun r2 =>
 (MH r2 3 16).bind fun r3 =>
 (JT r3.2 (r3.1.Funcs.length : Int)).bind fun r4 =>
 (ixO r3.1.Funcs r4.1).bind fun x_x5 =>
 (NZ r4.2 x_x5).bind fun r6 =>
 some (x_x5,r6.1,r6.2)

noncomputable def OW (n8 : Int) (c9 : List Int) (c10 : Int) (x11 : List (List Int)) : Option (((List Int) × Int × (List (List Int)) × Int) ⊕ (JV × JJ)) :=
 cnt (c9,c10,x11,IntKind.i64.wrap (n8 - 1))
noncomputable def OU (r12 : Int × JJ) (n8 : Int) (x13 : List (List Int)) (k14 : Int) : Option (((List (List Int)) × Int) ⊕ (((List Int) × Int × (List (List Int)) × Int) ⊕ (JV × JJ))) :=
 bif (decide (k14 < (x13.length : Int))) then
  chk (0 ≤ k14 ∧ k14 < x13.length) <|
  ((x13)[k14.toNat]?).bind fun x_e15 =>
  (OG x_e15 r12.1).bind fun r16 =>
  chk (0 ≤ k14 ∧ k14 < x13.length) <|
  ((x13)[k14.toNat]?).bind fun _ =>
  cnt (x13.set k14.toNat r16,IntKind.i64.wrap (k14 + 1))
 else
  lft (OW n8 r12.2.list r12.2.at_ x13)
noncomputable def OV (c5 : List Int) (c6 : Int) (f2 : JO) (n8 : Int) (x7 : List (List Int)) : Option (((List Int) × Int × (List (List Int)) × Int) ⊕ (JV × JJ)) :=
 (JT (JJ.mk c5 c6) (f2.Slots.length : Int)).bind fun r12 =>
 Ks (fun s=>OU r12 n8 s.1 s.2) (x7,0)
noncomputable def OT (f2 : JO) (c5 : List Int) (c6 : Int) (x7 : List (List Int)) (n8 : Int) : Option (((List Int) × Int × (List (List Int)) × Int) ⊕ (JV × JJ)) :=
 bif (decide (n8 > 0)) then
  bif (decide ((f2.Slots.length : Int) > 0)) then
   OV c5 c6 f2 n8 x7
  else
   lft (some ((JV.mk x7),(JJ.mk c5 c6)))
 else
  lft (some ((JV.mk x7),(JJ.mk c5 c6)))
noncomputable def Ny (c1 : JJ) (f2 : JO) : Option (JV × JJ) :=
 (PO f2).bind fun r3 =>
 chk (([] : List (List Int)).length + r3.Out.length ≤ 16777216) <|
 (JT c1 3).bind fun r4 =>
 Ks (fun s=>OT f2 s.1 s.2.1 s.2.2.1 s.2.2.2) (r4.2.list,r4.2.at_,([] : List (List Int)) ++ r3.Out,r4.1)

noncomputable def Lr (n1 : Int) : Option (Bool) :=
 bif (decide (n1 ≥ 0)) then
  some (decide (n1 < 512))
 else
  some false

noncomputable def Ml (s1 : (List Int)) (x2 : Int) : Option ((Int) ⊕ (Bool)) :=
 bif (decide (x2 < (s1.length : Int))) then
  (ixO s1 x2).bind fun x_x3 =>
  (Lr x_x3).bind fun r4 =>
  bif (!r4) then
   lft (some false)
  else
   bif (decide (x2 > 0)) then
    (ixO s1 (IntKind.i64.wrap (x2 - 1))).bind fun x_x5 =>
    bif (decide (x_x3 ≤ x_x5)) then
     lft (some false)
    else
     cnt (IntKind.i64.wrap (x2 + 1))
   else
    cnt (IntKind.i64.wrap (x2 + 1))
 else
  lft (some true)
noncomputable def PX (s1 : (List Int)) : Option (Bool) :=
 Ks (fun s=>Ml s1 s) 0

noncomputable def LP (s1 : (List Int)) (cap2 : JO) : Option (Bool) :=
 (PX s1).bind fun r3 =>
 bif (!r3) then
  some true
 else
  bif (decide ((s1.length : Int) > 0)) then
   (ixO s1 (IntKind.i64.wrap ((s1.length : Int) - 1))).bind fun x_x4 =>
   some (decide (x_x4 ≥ (cap2.Slots.length : Int)))
  else
   some false

noncomputable def Lo (s1 : (List (List Int))) (f2 : JO) (x3 : Int) : Option ((Int) ⊕ (Int)) :=
 bif (decide (x3 < (s1.length : Int))) then
  (ixO s1 x3).bind fun x_x4 =>
  (LP x_x4 f2).bind fun r5 =>
  bif r5 then
   lft (some x3)
  else
   cnt (IntKind.i64.wrap (x3 + 1))
 else
  lft (some (-1))
noncomputable def KH (s1 : (List (List Int))) (f2 : JO) : Option (Int) :=
 Ks (fun s=>Lo s1 f2 s) 0

noncomputable def KL (s1 : (List (List Int))) (f2 : JO) : Option (Bool) :=
 (KH s1 f2).bind fun r3 =>
 some (decide (r3 ≥ 0))

noncomputable def ME (f1 : JO) (l2 : JV) : Option (Bool) :=
 bif ((l2.Out.length : Int) == (f1.Code.length : Int)) then
  (KL l2.Out f1).bind fun r3 =>
  some (!r3)
 else
  some false

noncomputable def Qh (l1 : JV) : Option (JV) :=
 some l1

noncomputable def Ql (op1 : Int) : Option (Bool) :=
 bif (op1 == 20) then
  some true
 else
  bif (op1 == 23) then
   some true
  else
   some (op1 == 24)

noncomputable def Sc (x_x3 : JL) (l4 : List Int) : Option ((List Int)) :=
 bif (x_x3.Op == 20) then
  chk (l4.length + ([x_x3.A] : List Int).length ≤ 16777216) <|
  chk ((l4 ++ ([x_x3.A] : List Int)).length < 4611686018427387904) <|
  chk ((LL (l4 ++ ([x_x3.A] : List Int))).length < 4611686018427387904) <|
  some (Lib.compact (LL (l4 ++ ([x_x3.A] : List Int))))
 else
  bif (x_x3.Op == 21) then
   chk (l4.length + ([x_x3.B] : List Int).length ≤ 16777216) <|
   chk ((l4 ++ ([x_x3.B] : List Int)).length < 4611686018427387904) <|
   chk ((LL (l4 ++ ([x_x3.B] : List Int))).length < 4611686018427387904) <|
   some (Lib.compact (LL (l4 ++ ([x_x3.B] : List Int))))
  else
   chk (l4.length < 4611686018427387904) <|
   chk ((LL l4).length < 4611686018427387904) <|
   some (Lib.compact (LL l4))
noncomputable def Uf (f1 : JO) (k2 : Int) : Option ((List Int)) :=
 (ixO f1.Code k2).bind fun x_x3 =>
 (Ql x_x3.Op).bind fun r5 =>
 bif (!r5) then
  chk (([] : List Int).length + ([IntKind.i64.wrap (k2 + 1)] : List Int).length ≤ 16777216) <|
  Sc x_x3 (([] : List Int) ++ ([IntKind.i64.wrap (k2 + 1)] : List Int))
 else
  Sc x_x3 ([] : List Int)
noncomputable def TJ (f1 : JO) (k2 : Int) : Option ((List Int)) :=
 bif (decide (k2 < 0)) then
  some ([] : List Int)
 else
  bif (decide (k2 ≥ (f1.Code.length : Int))) then
   some ([] : List Int)
  else
   Uf f1 k2

noncomputable def Nt (j1 : Int) (cap2 : JV) : Option ((List Int)) :=
 (ixO cap2.Out j1).bind fun x_x3 =>
 some x_x3

noncomputable def MN (x1 : JL) : Option (Int × Bool) :=
 bif (x1.Op == 16) then
  bif (x1.Op == 16) then
   some (x1.A,true)
  else
   some (0,false)
 else
  bif (x1.Op == 17) then
   some (x1.A,true)
  else
   some (0,false)

noncomputable def LS (s1 : JM) (n2 : Int) (in3 : Bool) : Option (JM) :=
 chk (0 ≤ ((IntKind.u64.wrap (n2)).tmod 64)) <|
 (Lr n2).bind fun r4 =>
 bif (!r4) then
  some s1
 else
  bif in3 then
   chk (0 ≤ (IntKind.i64.wrap (n2.tdiv 64)) ∧ (IntKind.i64.wrap (n2.tdiv 64)) < 8) <|
   ((s1.toList)[(IntKind.i64.wrap (n2.tdiv 64)).toNat]?).bind fun s_e5 =>
   chk (0 ≤ (IntKind.i64.wrap (n2.tdiv 64)) ∧ (IntKind.i64.wrap (n2.tdiv 64)) < 8) <|
   ((s1.toList)[(IntKind.i64.wrap (n2.tdiv 64)).toNat]?).bind fun _ =>
   some (s1.set ((IntKind.i64.wrap (n2.tdiv 64)).toNat) (IntKind.u64.wrap ((BitVec.ofInt IntKind.u64.bits s_e5 ||| BitVec.ofInt IntKind.u64.bits (IntKind.u64.wrap (1 * 2 ^ (Nat.min ((IntKind.u64.wrap (n2)).tmod 64).toNat IntKind.u64.bits)))).toNat)))
  else
   chk (0 ≤ (IntKind.i64.wrap (n2.tdiv 64)) ∧ (IntKind.i64.wrap (n2.tdiv 64)) < 8) <|
   ((s1.toList)[(IntKind.i64.wrap (n2.tdiv 64)).toNat]?).bind fun s_e7 =>
   chk (0 ≤ (IntKind.i64.wrap (n2.tdiv 64)) ∧ (IntKind.i64.wrap (n2.tdiv 64)) < 8) <|
   ((s1.toList)[(IntKind.i64.wrap (n2.tdiv 64)).toNat]?).bind fun _ =>
   some (s1.set ((IntKind.i64.wrap (n2.tdiv 64)).toNat) (IntKind.u64.wrap ((BitVec.ofInt IntKind.u64.bits s_e7 &&& ~~~ BitVec.ofInt IntKind.u64.bits (IntKind.u64.wrap (1 * 2 ^ (Nat.min ((IntKind.u64.wrap (n2)).tmod 64).toNat IntKind.u64.bits)))).toNat)))

noncomputable def Qy (l1 : (List Int)) (x2 : JM) (x3 : Int) : Option ((JM × Int) ⊕ (JM)) :=
 bif (decide (x3 < (l1.length : Int))) then
  (ixO l1 x3).bind fun x_x4 =>
  (LS x2 x_x4 true).bind fun r5 =>
  cnt (r5,IntKind.i64.wrap (x3 + 1))
 else
  lft (some x2)
noncomputable def Lz (l1 : (List Int)) : Option (JM) :=
 Ks (fun s=>Qy l1 s.1 s.2) ((JM.mk 0 0 0 0 0 0 0 0),0)

noncomputable def NK (x3 : Int) (l5 : List Int) (x6 : Int) : Option (((List Int) × Int) ⊕ (((List Int) × Int) ⊕ ((List Int) × JM))) :=
 bif (x6 != 0) then
  (YE x6).bind fun r7 =>
  chk (l5.length + ([IntKind.i64.wrap ((IntKind.i64.wrap (64 * x3)) + r7)] : List Int).length ≤ 16777216) <|
  cnt (l5 ++ ([IntKind.i64.wrap ((IntKind.i64.wrap (64 * x3)) + r7)] : List Int),IntKind.u64.wrap ((BitVec.ofInt IntKind.u64.bits x6 &&& BitVec.ofInt IntKind.u64.bits (IntKind.u64.wrap (x6 - 1))).toNat))
 else
  lft (cnt (l5,IntKind.i64.wrap (x3 + 1)))
noncomputable def NJ (s1 : JM) (l2 : List Int) (x3 : Int) : Option (((List Int) × Int) ⊕ ((List Int) × JM)) :=
 bif (decide (x3 < 8)) then
  chk (0 ≤ x3 ∧ x3 < 8) <|
  ((s1.toList)[x3.toNat]?).bind fun s_e4 =>
  Ks (fun s=>NK x3 s.1 s.2) (l2,s_e4)
 else
  lft (some (l2,s1))
noncomputable def KV (s1 : JM) : Option ((List Int) × JM) :=
 Ks (fun s=>NJ s1 s.1 s.2) (([] : List Int),0)

noncomputable def Oq (s1 : (List Int)) (n2 : Int) : Option ((List Int)) :=
 (Lz s1).bind fun r3 =>
 (LS r3 n2 false).bind fun r4 =>
 (KV r4).bind fun r5 =>
 some r5.1

noncomputable def PK (x1 : JL) : Option ((List Int)) :=
 bif (x1.Op == 15) then
  bif (x1.Op == 15) then
   some ([x1.B] : List Int)
  else
   some ([] : List Int)
 else
  bif (x1.Op == 17) then
   some ([x1.B] : List Int)
  else
   some ([] : List Int)

noncomputable def Qt (l1 : (List Int)) : Option ((List Int)) :=
 (Lz l1).bind fun r2 =>
 (KV r2).bind fun r3 =>
 some r3.1

noncomputable def OJ (x1 : Int) (y2 : Int) : Option (Int) :=
 some (IntKind.u64.wrap ((BitVec.ofInt IntKind.u64.bits x1 ||| BitVec.ofInt IntKind.u64.bits y2).toNat))

noncomputable def Lm (s1 : JM) (t2 : JM) (x3 : JM) (x4 : Int) : Option ((JM × Int) ⊕ (JM × JM × JM)) :=
 bif (decide (x4 < 8)) then
  chk (0 ≤ x4 ∧ x4 < 8) <|
  ((s1.toList)[x4.toNat]?).bind fun s_e5 =>
  chk (0 ≤ x4 ∧ x4 < 8) <|
  ((t2.toList)[x4.toNat]?).bind fun t_e6 =>
  (OJ s_e5 t_e6).bind fun r7 =>
  chk (0 ≤ x4 ∧ x4 < 8) <|
  ((x3.toList)[x4.toNat]?).bind fun _ =>
  cnt ((x3.set x4.toNat r7),IntKind.i64.wrap (x4 + 1))
 else
  lft (some (x3,s1,t2))
noncomputable def Le (s1 : JM) (t2 : JM) : Option (JM × JM × JM) :=
 Ks (fun s=>Lm s1 t2 s.1 s.2) ((JM.mk 0 0 0 0 0 0 0 0),0)

noncomputable def MV (a1 : (List Int)) (b2 : (List Int)) : Option ((List Int)) :=
 (Lz a1).bind fun r3 =>
 (Lz b2).bind fun r4 =>
 (Le r3 r4).bind fun r5 =>
 (KV r5.1).bind fun r6 =>
 some r6.1

noncomputable def TI (x1 : JL) (out2 : (List Int)) : Option ((List Int)) :=
 (MN x1).bind fun r3 =>
 bif r3.2 then
  (Oq out2 r3.1).bind fun r4 =>
  (PK x1).bind fun r5 =>
  (Qt r5).bind fun r6 =>
  (MV r4 r6).bind fun r7 =>
  some r7
 else
  (PK x1).bind fun r8 =>
  (Qt r8).bind fun r9 =>
  (MV out2 r9).bind fun r10 =>
  some r10

noncomputable def OI (x1 : Int) (y2 : Int) : Option (Int) :=
 some (IntKind.u64.wrap ((BitVec.ofInt IntKind.u64.bits x1 &&& ~~~ BitVec.ofInt IntKind.u64.bits y2).toNat))

noncomputable def Ll (s1 : JM) (t2 : JM) (x3 : JM) (x4 : Int) : Option ((JM × Int) ⊕ (JM × JM × JM)) :=
 bif (decide (x4 < 8)) then
  chk (0 ≤ x4 ∧ x4 < 8) <|
  ((s1.toList)[x4.toNat]?).bind fun s_e5 =>
  chk (0 ≤ x4 ∧ x4 < 8) <|
  ((t2.toList)[x4.toNat]?).bind fun t_e6 =>
  (OI s_e5 t_e6).bind fun r7 =>
  chk (0 ≤ x4 ∧ x4 < 8) <|
  ((x3.toList)[x4.toNat]?).bind fun _ =>
  cnt ((x3.set x4.toNat r7),IntKind.i64.wrap (x4 + 1))
 else
  lft (some (x3,s1,t2))
noncomputable def Ld (s1 : JM) (t2 : JM) : Option (JM × JM × JM) :=
 Ks (fun s=>Ll s1 t2 s.1 s.2) ((JM.mk 0 0 0 0 0 0 0 0),0)

noncomputable def ON (a1 : (List Int)) (b2 : (List Int)) : Option ((List Int)) :=
 (Lz a1).bind fun r3 =>
 (Lz b2).bind fun r4 =>
 (Ld r3 r4).bind fun r5 =>
 (KV r5.1).bind fun r6 =>
 some r6.1

noncomputable def LK (need1 : (List Int)) (cap2 : (List Int)) (cap3 : JV) (cap4 : Int) : Option (Bool × (List Int)) :=
 (ixO cap3.Out cap4).bind fun x_x5 =>
 (ON need1 x_x5).bind fun r6 =>
 (MV cap2 r6).bind fun r7 =>
 some (true,r7)

noncomputable def Kw (r7 : (List Int)) (f1 : JO) (set3 : JV) (visit5 : JV) (visit6 : Int) (x8 : List Int) (x9 : Int) : Option (((List Int) × Int) ⊕ (Bool × (List Int))) :=
 bif (decide (x9 < (r7.length : Int))) then
  chk (0 ≤ x9 ∧ x9 < r7.length) <|
  ((r7)[x9.toNat]?).bind fun x_e10 =>
  (ixO f1.Code x_e10).bind fun x_x11 =>
  (Nt x_e10 set3).bind fun r12 =>
  (TI x_x11 r12).bind fun r13 =>
  (LK r13 x8 visit5 visit6).bind fun r14 =>
  bif (!r14.1) then
   lft (some (false,r14.2))
  else
   cnt (r14.2,IntKind.i64.wrap (x9 + 1))
 else
  lft (some (true,x8))
noncomputable def KG (f1 : JO) (k2 : Int) (set3 : JV) (visit4 : (List Int)) (visit5 : JV) (visit6 : Int) : Option (Bool × (List Int)) :=
 (TJ f1 k2).bind fun r7 =>
 Ks (fun s=>Kw r7 f1 set3 visit5 visit6 s.1 s.2) (visit4,0)

noncomputable def PA (f1 : JO) (l2 : JV) (x4 : Int) : Option ((Int) ⊕ (Int × Int × Bool)) :=
 bif (decide (x4 < (f1.Code.length : Int))) then
  (Qh l2).bind fun r5 =>
  (KG f1 x4 r5 ([]) l2 x4).bind fun r6 =>
  bif (decide ((r6.2.length : Int) > 0)) then
   (ixO r6.2 0).bind fun x_x7 =>
   lft (some (x4,x_x7,true))
  else
   cnt (IntKind.i64.wrap (x4 + 1))
 else
  lft (some (0,0,false))
noncomputable def Og (f1 : JO) (l2 : JV) : Option (Int × Int × Bool) :=
 (ME f1 l2).bind fun r3 =>
 bif (!r3) then
  some (0,0,false)
 else
  Ks (fun s=>PA f1 l2 s) 0

noncomputable def Nb (f1 : JO) (l2 : JV) : Option (Int) :=
 (ME f1 l2).bind fun r3 =>
 bif (!r3) then
  some 11
 else
  (Og f1 l2).bind fun r4 =>
  bif r4.2.2 then
   some 11
  else
   some 0

noncomputable def Nh (x1 : JL) (y2 : Int) : Option (Bool) :=
 bif (x1.Op == 17) then
  some (x1.B == y2)
 else
  some false

noncomputable def Na (x_x4 : (List Bool)) (x3 : Int) (out5 : List (List Int)) (x6 : Int) : Option (((List (List Int)) × Int) ⊕ (((List (List Int)) × Int) ⊕ ((List (List Int))))) :=
 bif (decide (x6 < (x_x4.length : Int))) then
  (ixO x_x4 x6).bind fun x_x7 =>
  bif x_x7 then
   chk (0 ≤ x3 ∧ x3 < out5.length) <|
   ((out5)[x3.toNat]?).bind fun out_e8 =>
   chk (out_e8.length + ([x6] : List Int).length ≤ 16777216) <|
   chk (0 ≤ x3 ∧ x3 < out5.length) <|
   cnt (out5.set x3.toNat (out_e8 ++ ([x6] : List Int)),IntKind.i64.wrap (x6 + 1))
  else
   cnt (out5,IntKind.i64.wrap (x6 + 1))
 else
  lft (cnt (out5,IntKind.i64.wrap (x3 + 1)))
noncomputable def MZ (m1 : (List (List Bool))) (out2 : List (List Int)) (x3 : Int) : Option (((List (List Int)) × Int) ⊕ ((List (List Int)))) :=
 bif (decide (x3 < (m1.length : Int))) then
  (ixO m1 x3).bind fun x_x4 =>
  Ks (fun s=>Na x_x4 x3 s.1 s.2) (out2,0)
 else
  lft (some out2)
noncomputable def Ls (m1 : (List (List Bool))) : Option ((List (List Int))) :=
 chk (0 ≤ (m1.length : Int) ∧ (m1.length : Int) ≤ 16777216) <|
 Ks (fun s=>MZ m1 s.1 s.2) (List.replicate (m1.length : Int).toNat ([] : (List Int)),0)

noncomputable def KF (x15 : List (List Bool)) (r11 : Int × Bool) (x_x17 : Int) (x16 : Int) (x18 : Bool) : Option (((List (List Bool)) × Int) ⊕ (((List (List Bool)) × Int) ⊕ ((List (List Int)) × Int))) :=
 bif x18 then
  ((x15)[r11.1.toNat]?).bind fun row20 =>
  ((x15)[x_x17.toNat]?).bind fun row21 =>
  chk (r11.1.toNat ≠ x_x17.toNat) <|
  chk (0 ≤ r11.1 ∧ r11.1 < x15.length) <|
  chk (0 ≤ x_x17 ∧ x_x17 < x15.length) <|
  chk (0 ≤ x_x17 ∧ x_x17 < row20.length) <|
  ((row20)[x_x17.toNat]?).bind fun _ =>
  chk (0 ≤ r11.1 ∧ r11.1 < row21.length) <|
  ((row21)[r11.1.toNat]?).bind fun _ =>
  cnt ((x15.set r11.1.toNat (row20.set x_x17.toNat true)).set x_x17.toNat (row21.set r11.1.toNat true),IntKind.i64.wrap (x16 + 1))
 else
  cnt (x15,IntKind.i64.wrap (x16 + 1))
noncomputable def MA (x_x14 : (List Int)) (r11 : Int × Bool) (x_x10 : JL) (x9 : Int) (x15 : List (List Bool)) (x16 : Int) : Option (((List (List Bool)) × Int) ⊕ (((List (List Bool)) × Int) ⊕ ((List (List Int)) × Int))) :=
 bif (decide (x16 < (x_x14.length : Int))) then
  (ixO x_x14 x16).bind fun x_x17 =>
  bif (x_x17 != r11.1) then
   (Nh x_x10 x_x17).bind fun r19 =>
   KF x15 r11 x_x17 x16 (!r19)
  else
   KF x15 r11 x_x17 x16 false
 else
  lft (cnt (x15,IntKind.i64.wrap (x9 + 1)))
noncomputable def Lk (l2 : JV) (x9 : Int) (r11 : Int × Bool) (x_x10 : JL) (x8 : List (List Bool)) (x12 : Bool) (x13 : Bool) : Option (((List (List Bool)) × Int) ⊕ ((List (List Int)) × Int)) :=
 (ixO l2.Out x9).bind fun x_x14 =>
 Ks (fun s=>MA x_x14 r11 x_x10 x9 s.1 s.2) (x8,0)
noncomputable def Mz (f1 : JO) (l2 : JV) (x8 : List (List Bool)) (x9 : Int) : Option (((List (List Bool)) × Int) ⊕ ((List (List Int)) × Int)) :=
 bif (decide (x9 < (f1.Code.length : Int))) then
  (ixO f1.Code x9).bind fun x_x10 =>
  (MN x_x10).bind fun r11 =>
  bif (!r11.2) then
   cnt (x8,IntKind.i64.wrap (x9 + 1))
  else
   bif (x_x10.Op == 17) then
    bif (x_x10.A == x_x10.B) then
     cnt (x8,IntKind.i64.wrap (x9 + 1))
    else
     Lk l2 x9 r11 x_x10 x8 true (x_x10.A == x_x10.B)
   else
    Lk l2 x9 r11 x_x10 x8 false false
 else
  lft (
   (Ls x8).bind fun r24 =>
   some (r24,0))
noncomputable def LA (f1 : JO) (l2 : JV) (x4 : List (List Bool)) : Option ((List (List Int)) × Int) :=
 Ks (fun s=>Mz f1 l2 s.1 s.2) (x4,0)
noncomputable def My (f1 : JO) (l2 : JV) (m5 : List (List Bool)) (x6 : Int) : Option (((List (List Bool)) × Int) ⊕ ((List (List Int)) × Int)) :=
 bif (decide (x6 < ((List.replicate (f1.Slots.length : Int).toNat ([] : (List Bool))).length : Int))) then
  chk (0 ≤ (f1.Slots.length : Int) ∧ (f1.Slots.length : Int) ≤ 16777216) <|
  chk (0 ≤ x6 ∧ x6 < m5.length) <|
  ((m5)[x6.toNat]?).bind fun _ =>
  cnt (m5.set x6.toNat (List.replicate (f1.Slots.length : Int).toNat false),IntKind.i64.wrap (x6 + 1))
 else
  lft (LA f1 l2 m5)
noncomputable def Mi (f1 : JO) (l2 : JV) : Option ((List (List Int)) × Int) :=
 (Nb f1 l2).bind fun r3 =>
 bif (r3 != 0) then
  some (([] : List (List Int)),r3)
 else
  chk (0 ≤ (f1.Slots.length : Int) ∧ (f1.Slots.length : Int) ≤ 16777216) <|
  Ks (fun s=>My f1 l2 s.1 s.2) (List.replicate (f1.Slots.length : Int).toNat ([] : (List Bool)),0)

noncomputable def Of (f1 : JO) (l2 : JV) : Option ((List (List Int)) × Int) :=
 (Mi f1 l2).bind fun r3 =>
 some (r3.1,r3.2)

noncomputable def NP (p1 : JL) (p2 : Int) : Option (Bool) :=
 some false

noncomputable def Kz (x15 : List (List Bool)) (r11 : Int × Bool) (x_x17 : Int) (x16 : Int) (x18 : Bool) : Option (((List (List Bool)) × Int) ⊕ (((List (List Bool)) × Int) ⊕ ((List (List Int)) × Int))) :=
 bif x18 then
  ((x15)[r11.1.toNat]?).bind fun row20 =>
  ((x15)[x_x17.toNat]?).bind fun row21 =>
  chk (r11.1.toNat ≠ x_x17.toNat) <|
  chk (0 ≤ r11.1 ∧ r11.1 < x15.length) <|
  chk (0 ≤ x_x17 ∧ x_x17 < x15.length) <|
  chk (0 ≤ x_x17 ∧ x_x17 < row20.length) <|
  ((row20)[x_x17.toNat]?).bind fun _ =>
  chk (0 ≤ r11.1 ∧ r11.1 < row21.length) <|
  ((row21)[r11.1.toNat]?).bind fun _ =>
  cnt ((x15.set r11.1.toNat (row20.set x_x17.toNat true)).set x_x17.toNat (row21.set r11.1.toNat true),IntKind.i64.wrap (x16 + 1))
 else
  cnt (x15,IntKind.i64.wrap (x16 + 1))
noncomputable def Mo (x_x14 : (List Int)) (r11 : Int × Bool) (x_x10 : JL) (x9 : Int) (x15 : List (List Bool)) (x16 : Int) : Option (((List (List Bool)) × Int) ⊕ (((List (List Bool)) × Int) ⊕ ((List (List Int)) × Int))) :=
 bif (decide (x16 < (x_x14.length : Int))) then
  (ixO x_x14 x16).bind fun x_x17 =>
  bif (x_x17 != r11.1) then
   (NP x_x10 x_x17).bind fun r19 =>
   Kz x15 r11 x_x17 x16 (!r19)
  else
   Kz x15 r11 x_x17 x16 false
 else
  lft (cnt (x15,IntKind.i64.wrap (x9 + 1)))
noncomputable def Lf (l2 : JV) (x9 : Int) (r11 : Int × Bool) (x_x10 : JL) (x8 : List (List Bool)) (x12 : Bool) (x13 : Bool) : Option (((List (List Bool)) × Int) ⊕ ((List (List Int)) × Int)) :=
 (ixO l2.Out x9).bind fun x_x14 =>
 Ks (fun s=>Mo x_x14 r11 x_x10 x9 s.1 s.2) (x8,0)
noncomputable def Mn (f1 : JO) (l2 : JV) (x8 : List (List Bool)) (x9 : Int) : Option (((List (List Bool)) × Int) ⊕ ((List (List Int)) × Int)) :=
 bif (decide (x9 < (f1.Code.length : Int))) then
  (ixO f1.Code x9).bind fun x_x10 =>
  (MN x_x10).bind fun r11 =>
  bif (!r11.2) then
   cnt (x8,IntKind.i64.wrap (x9 + 1))
  else
   bif (x_x10.Op == 17) then
    bif (x_x10.A == x_x10.B) then
     cnt (x8,IntKind.i64.wrap (x9 + 1))
    else
     Lf l2 x9 r11 x_x10 x8 true (x_x10.A == x_x10.B)
   else
    Lf l2 x9 r11 x_x10 x8 false false
 else
  lft (
   (Ls x8).bind fun r24 =>
   some (r24,0))
noncomputable def Lw (f1 : JO) (l2 : JV) (x4 : List (List Bool)) : Option ((List (List Int)) × Int) :=
 Ks (fun s=>Mn f1 l2 s.1 s.2) (x4,0)
noncomputable def Mm (f1 : JO) (l2 : JV) (m5 : List (List Bool)) (x6 : Int) : Option (((List (List Bool)) × Int) ⊕ ((List (List Int)) × Int)) :=
 bif (decide (x6 < ((List.replicate (f1.Slots.length : Int).toNat ([] : (List Bool))).length : Int))) then
  chk (0 ≤ (f1.Slots.length : Int) ∧ (f1.Slots.length : Int) ≤ 16777216) <|
  chk (0 ≤ x6 ∧ x6 < m5.length) <|
  ((m5)[x6.toNat]?).bind fun _ =>
  cnt (m5.set x6.toNat (List.replicate (f1.Slots.length : Int).toNat false),IntKind.i64.wrap (x6 + 1))
 else
  lft (Lw f1 l2 m5)
noncomputable def LV (f1 : JO) (l2 : JV) : Option ((List (List Int)) × Int) :=
 (Nb f1 l2).bind fun r3 =>
 bif (r3 != 0) then
  some (([] : List (List Int)),r3)
 else
  chk (0 ≤ (f1.Slots.length : Int) ∧ (f1.Slots.length : Int) ≤ 16777216) <|
  Ks (fun s=>Mm f1 l2 s.1 s.2) (List.replicate (f1.Slots.length : Int).toNat ([] : (List Bool)),0)

noncomputable def NA (f1 : JO) (l2 : JV) : Option ((List (List Int)) × Int) :=
 (LV f1 l2).bind fun r3 =>
 some (r3.1,r3.2)

noncomputable def Qj (s1 : (List Int)) (n2 : Int) (i3 : Int) : Option ((Int) ⊕ (Bool)) :=
 bif (decide (i3 < (s1.length : Int))) then
  (ixO s1 i3).bind fun x_x4 =>
  bif (x_x4 == n2) then
   lft (some true)
  else
   cnt (IntKind.i64.wrap (i3 + 1))
 else
  lft (some false)
noncomputable def TP (s1 : (List Int)) (n2 : Int) : Option (Bool) :=
 Ks (fun s=>Qj s1 n2 s) 0

noncomputable def Lb (i9 : Int) : Option ((Int) ⊕ ((Int) ⊕ (Bool))) :=
 cnt (IntKind.i64.wrap (i9 + 1))
noncomputable def KY (r7 : (List JY)) (x8 : Int) (x_x12 : Int) (i9 : Int) (moved15 : Bool) (k16 : Int) : Option ((Bool × Int) ⊕ ((Int) ⊕ ((Int) ⊕ (Bool)))) :=
 bif (decide (k16 < (r7.length : Int))) then
  bif moved15 then
   cnt (true,IntKind.i64.wrap (k16 + 1))
  else
   chk (0 ≤ k16 ∧ k16 < r7.length) <|
   ((r7)[k16.toNat]?).bind fun moves_e17 =>
   bif ((moves_e17.a0 == x8) && ((moves_e17.a1 == x_x12) && true)) then
    cnt (true,IntKind.i64.wrap (k16 + 1))
   else
    chk (0 ≤ k16 ∧ k16 < r7.length) <|
    ((r7)[k16.toNat]?).bind fun moves_e18 =>
    cnt (((moves_e18.a0 == x_x12) && ((moves_e18.a1 == x8) && true)),IntKind.i64.wrap (k16 + 1))
 else
  lft (
   bif (!moved15) then
    lft (lft (some false))
   else
    Lb i9)
noncomputable def La (x8 : Int) : Option ((Int) ⊕ (Bool)) :=
 cnt (IntKind.i64.wrap (x8 + 1))
noncomputable def KX (r6 : (List (List Int)) × Int) (x8 : Int) (r5 : (List (List Int)) × Int) (r7 : (List JY)) (i9 : Int) : Option ((Int) ⊕ ((Int) ⊕ (Bool))) :=
 (ixO r6.1 x8).bind fun x_x10 =>
 bif (decide (i9 < (x_x10.length : Int))) then
  (ixO r6.1 x8).bind fun x_x11 =>
  (ixO x_x11 i9).bind fun x_x12 =>
  (ixO r5.1 x8).bind fun x_x13 =>
  (TP x_x13 x_x12).bind fun r14 =>
  Ks (fun s=>KY r7 x8 x_x12 i9 s.1 s.2) (r14,0)
 else
  lft (La x8)
noncomputable def KW (r6 : (List (List Int)) × Int) (r5 : (List (List Int)) × Int) (r7 : (List JY)) (x8 : Int) : Option ((Int) ⊕ (Bool)) :=
 bif (decide (x8 < (r6.1.length : Int))) then
  Ks (fun s=>KX r6 x8 r5 r7 s) 0
 else
  lft (some true)
noncomputable def KZ (r3 : JO × JV × JJ) (r6 : (List (List Int)) × Int) (r5 : (List (List Int)) × Int) : Option (Bool) :=
 (MY r3.1).bind fun r7 =>
 Ks (fun s=>KW r6 r5 r7 s) 0
noncomputable def Ky (codes1 : (List Int)) : Option (Bool) :=
 (Rb).bind fun r2 =>
 bif (!r2) then
  some false
 else
  (Rc codes1).bind fun r3 =>
  (Ny r3.2.2 r3.1).bind fun r4 =>
  (Of r3.1 r4.1).bind fun r5 =>
  (NA r3.1 r4.1).bind fun r6 =>
  bif (r5.2 != 0) then
   some false
  else
   bif (r6.2 != 0) then
    some false
   else
    bif ((r5.1.length : Int) != (r3.1.Slots.length : Int)) then
     some false
    else
     bif ((r6.1.length : Int) != (r3.1.Slots.length : Int)) then
      some false
     else
      KZ r3 r6 r5

end Go.Proofs.YtcelninhkmhjkaaDoor
