/-
 The programs on typed data; written by a program (dx.py).
-/
import Derived.Test.YtfpgidpffhmadaaDoorDxT
namespace Go.Proofs.YtfpgidpffhmadaaDoor
open Go Go.Dw Go.Proofs
set_option maxRecDepth 100000
noncomputable def JV (s1 : (List JB)) (v2 : JB) (x3 : Int) : Option ((Int) ⊕ (Int)) :=
 bif (decide (x3 < (s1.length : Int))) then
  (ixO s1 x3).bind fun x_x4 =>
  bif ((v2.a0 == x_x4.a0) && ((v2.a1 == x_x4.a1) && true)) then
   lft (some x3)
  else
   cnt (IntKind.i64.wrap (x3 + 1))
 else
  lft (some (-1))
noncomputable def Lt (s1 : (List JB)) (v2 : JB) : Option (Int) :=
 JL (fun s=>JV s1 v2 s) 0

noncomputable def Ku (s1 : (List JB)) (v2 : JB) : Option (Bool) :=
 (Lt s1 v2).bind fun r3 =>
 some (decide (r3 ≥ 0))

noncomputable def KB (f1 : Jh) (l2 : List JB) (x3 : Int) : Option (((List JB) × Int) ⊕ ((List JB))) :=
 bif (decide (x3 < (f1.Code.length : Int))) then
  (ixO f1.Code x3).bind fun x_x4 =>
  bif (x_x4.Op == 17) then
   bif (x_x4.A != x_x4.B) then
    (Ku l2 (JB.mk x_x4.A x_x4.B)).bind fun r5 =>
    bif (!r5) then
     chk (l2.length + ([(JB.mk x_x4.A x_x4.B)] : List JB).length ≤ 16777216) <|
     cnt (l2 ++ ([(JB.mk x_x4.A x_x4.B)] : List JB),IntKind.i64.wrap (x3 + 1))
    else
     cnt (l2,IntKind.i64.wrap (x3 + 1))
   else
    cnt (l2,IntKind.i64.wrap (x3 + 1))
  else
   cnt (l2,IntKind.i64.wrap (x3 + 1))
 else
  lft (some l2)
noncomputable def NM (f1 : Jh) : Option ((List JB)) :=
 JL (fun s=>KB f1 s.1 s.2) (([] : List JB),0)

noncomputable def Re  : Option (Bool) :=
 (NM (Jh.mk 0 ([(JK.mk 8 8),(JK.mk 8 8)] : List JK) ([(Je.mk 17 0 1 0 0),(Je.mk 23 0 0 0 0)] : List Je))).bind fun r1 =>
 some ((r1.length : Int) == 1)

noncomputable def Vp (list1 : (List Int)) (limit2 : Int) : Option (Jd) :=
 chk (0 ≤ (UM (list1.length : Int) limit2) ∧ (UM (list1.length : Int) limit2) ≤ list1.length) <|
 some (Jd.mk (list1.take (UM (list1.length : Int) limit2).toNat) 0)

noncomputable def Pg (c1 : Jd) : Option (Bool × Jd) :=
 some ((decide (c1.at_ < (c1.list.length : Int))),c1)

noncomputable def Pm (n2 : Int) (c3 : List Int) (c4 : Int) : Option (Int × Jd) :=
 (ixO c3 c4).bind fun x_x6 =>
 some (IntKind.i64.wrap ((IntKind.i64.wrap ((IntKind.i64.wrap (x_x6)) * n2)).tdiv 256),(Jd.mk c3 (IntKind.i64.wrap (c4 + 1))))
noncomputable def Jn (c1 : Jd) (n2 : Int) : Option (Int × Jd) :=
 (Pg c1).bind fun r5 =>
 bif (!r5.1) then
  some (0,r5.2)
 else
  bif (decide (n2 < 1)) then
   some (0,r5.2)
  else
   Pm n2 r5.2.list r5.2.at_

noncomputable def NJ (c1 : Jd) : Option (JK × Jd) :=
 (Jn c1 7).bind fun r2 =>
 chk (0 ≤ r2.1 ∧ r2.1 < ([8,4,8,1,2,16,8] : List Int).length) <|
 ((([8,4,8,1,2,16,8] : List Int))[r2.1.toNat]?).bind fun x_e3 =>
 (Jn r2.2 8).bind fun r4 =>
 chk (0 ≤ r4.1 ∧ r4.1 < ([8,4,1,8,16,2,32,64] : List Int).length) <|
 ((([8,4,1,8,16,2,32,64] : List Int))[r4.1.toNat]?).bind fun x_e5 =>
 some ((JK.mk x_e3 x_e5),r4.2)

noncomputable def OM (c4 : List Int) (c5 : Int) (l6 : List JK) (n7 : Int) : Option (((List Int) × Int × (List JK) × Int) ⊕ ((List JK) × Jd)) :=
 bif (decide (n7 > 0)) then
  (NJ (Jd.mk c4 c5)).bind fun r8 =>
  chk (l6.length + ([r8.1] : List JK).length ≤ 16777216) <|
  cnt (r8.2.list,r8.2.at_,l6 ++ ([r8.1] : List JK),IntKind.i64.wrap (n7 - 1))
 else
  lft (some (l6,(Jd.mk c4 c5)))
noncomputable def Nb (c1 : Jd) (most2 : Int) : Option ((List JK) × Jd) :=
 (Jn c1 (IntKind.i64.wrap (most2 + 1))).bind fun r3 =>
 JL (fun s=>OM s.1 s.2.1 s.2.2.1 s.2.2.2) (r3.2.list,r3.2.at_,([] : List JK),r3.1)

noncomputable def Po (f2 : Jh) (s3 : Int) (c1 : Jd) (l4 : List Int) (k5 : Int) : Option (((List Int) × Int) ⊕ (Int × Jd)) :=
 bif (decide (k5 < (f2.Slots.length : Int))) then
  (ixO f2.Slots k5).bind fun x_x6 =>
  (ixO f2.Slots s3).bind fun x_x7 =>
  bif (x_x6.Size == x_x7.Size) then
   chk (l4.length + ([k5] : List Int).length ≤ 16777216) <|
   cnt (l4 ++ ([k5] : List Int),IntKind.i64.wrap (k5 + 1))
  else
   cnt (l4,IntKind.i64.wrap (k5 + 1))
 else
  lft (
   (Jn c1 (l4.length : Int)).bind fun r8 =>
   chk (0 ≤ r8.1 ∧ r8.1 < l4.length) <|
   ((l4)[r8.1.toNat]?).bind fun l_e9 =>
   some (l_e9,r8.2))
noncomputable def NL (c1 : Jd) (f2 : Jh) (s3 : Int) : Option (Int × Jd) :=
 JL (fun s=>Po f2 s3 c1 s.1 s.2) (([] : List Int),0)

noncomputable def My (c1 : Jd) : Option (Int × Jd) :=
 (Jn c1 6).bind fun r2 =>
 bif (r2.1 == 0) then
  (Jn r2.2 3).bind fun r3 =>
  some (IntKind.u64.wrap (18446744073709551615 - (IntKind.u64.wrap (r3.1))),r3.2)
 else
  bif (r2.1 == 1) then
   (Jn r2.2 64).bind fun r4 =>
   chk (0 ≤ r4.1) <|
   some (IntKind.u64.wrap (1 * 2 ^ (Nat.min r4.1.toNat IntKind.u64.bits)),r4.2)
  else
   bif (r2.1 == 2) then
    some (0,r2.2)
   else
    (Jn r2.2 256).bind fun r5 =>
    some (IntKind.u64.wrap (r5.1),r5.2)

noncomputable def Pn (params4 : (List Int)) (i3 : Int) (r23 : Int × Jd) (c24 : List Int) (c25 : Int) (out26 : List Je) (a27 : Int) : Option (((List Int) × Int × (List Je) × Int) ⊕ ((List Je) × Jd)) :=
 (ixO params4 (IntKind.i64.wrap ((IntKind.i64.wrap (i3 + 1)) + r23.1))).bind fun x_x28 =>
 bif (decide (a27 < x_x28)) then
  (Jn (Jd.mk c24 c25) 8).bind fun r29 =>
  bif (decide (r29.1 < 7)) then
   (Jn r29.2 4).bind fun r30 =>
   chk (out26.length + ([(Je.mk 18 a27 r30.1 0 0)] : List Je).length ≤ 16777216) <|
   cnt (r30.2.list,r30.2.at_,out26 ++ ([(Je.mk 18 a27 r30.1 0 0)] : List Je),IntKind.i64.wrap (a27 + 1))
  else
   cnt (r29.2.list,r29.2.at_,out26,IntKind.i64.wrap (a27 + 1))
 else
  lft (
   chk (out26.length + ([(Je.mk 22 (IntKind.i64.wrap ((IntKind.i64.wrap (i3 + 1)) + r23.1)) 0 0 0)] : List Je).length ≤ 16777216) <|
   some (out26 ++ ([(Je.mk 22 (IntKind.i64.wrap ((IntKind.i64.wrap (i3 + 1)) + r23.1)) 0 0 0)] : List Je),(Jd.mk c24 c25)))
noncomputable def Sd (r5 : Int × Jd) (r6 : Int × Jd) : Option ((List Je) × Jd) :=
 some (([(Je.mk 14 r5.1 0 0 0)] : List Je),r6.2)
noncomputable def Mk (r6 : Int × Jd) (params4 : (List Int)) (i3 : Int) (r5 : Int × Jd) (x22 : Bool) : Option ((List Je) × Jd) :=
 bif x22 then
  (Jn r6.2 (IntKind.i64.wrap ((IntKind.i64.wrap ((params4.length : Int) - i3)) - 1))).bind fun r23 =>
  JL (fun s=>Pn params4 i3 r23 s.1 s.2.1 s.2.2.1 s.2.2.2) (r23.2.list,r23.2.at_,([] : List Je),0)
 else
  Sd r5 r6
noncomputable def Mj (r6 : Int × Jd) (f2 : Jh) (r5 : Int × Jd) (params4 : (List Int)) (i3 : Int) (x20 : Bool) : Option ((List Je) × Jd) :=
 bif x20 then
  (Jn r6.2 f2.Params).bind fun r21 =>
  some (([(Je.mk 19 r5.1 r21.1 0 0)] : List Je),r21.2)
 else
  bif (decide (r6.1 ≥ 17)) then
   Mk r6 params4 i3 r5 (decide ((IntKind.i64.wrap (i3 + 1)) < (params4.length : Int)))
  else
   Mk r6 params4 i3 r5 false
noncomputable def Mi (r6 : Int × Jd) (f2 : Jh) (r5 : Int × Jd) (params4 : (List Int)) (i3 : Int) (x11 : Bool) : Option ((List Je) × Jd) :=
 bif x11 then
  (Jn r6.2 (f2.Slots.length : Int)).bind fun r12 =>
  (NL r12.2 f2 r12.1).bind fun r13 =>
  some (([(Je.mk 17 r13.1 r12.1 0 0)] : List Je),r13.2)
 else
  bif (decide (r6.1 < 11)) then
   (My r6.2).bind fun r14 =>
   some (([(Je.mk 0 r5.1 0 0 r14.1)] : List Je),r14.2)
  else
   bif (decide (r6.1 < 13)) then
    (Jn r6.2 10).bind fun r15 =>
    (Jn r15.2 4).bind fun r16 =>
    (Jn r16.2 8).bind fun r17 =>
    some (([(Je.mk (IntKind.i64.wrap (2 + r15.1)) r5.1 r16.1 r17.1 0)] : List Je),r17.2)
   else
    bif (decide (r6.1 < 15)) then
     some (([(Je.mk 14 r5.1 0 0 0)] : List Je),r6.2)
    else
     bif (r6.1 == 15) then
      (Jn r6.2 3).bind fun r18 =>
      chk (0 ≤ r18.1 ∧ r18.1 < ([13,12,1] : List Int).length) <|
      ((([13,12,1] : List Int))[r18.1.toNat]?).bind fun x_e19 =>
      some (([(Je.mk x_e19 r5.1 0 0 0)] : List Je),r18.2)
     else
      bif (r6.1 == 16) then
       Mj r6 f2 r5 params4 i3 (decide (f2.Params > 0))
      else
       Mj r6 f2 r5 params4 i3 false
noncomputable def Mh (r6 : Int × Jd) (f2 : Jh) (r5 : Int × Jd) (params4 : (List Int)) (i3 : Int) (x9 : Bool) : Option ((List Je) × Jd) :=
 bif x9 then
  (Jn r6.2 (f2.Slots.length : Int)).bind fun r10 =>
  some (([(Je.mk 15 r5.1 r10.1 0 0)] : List Je),r10.2)
 else
  bif (decide (r6.1 < 9)) then
   Mi r6 f2 r5 params4 i3 (decide ((f2.Slots.length : Int) > 0))
  else
   Mi r6 f2 r5 params4 i3 false
noncomputable def Mg (r6 : Int × Jd) (f2 : Jh) (r5 : Int × Jd) (params4 : (List Int)) (i3 : Int) (x7 : Bool) : Option ((List Je) × Jd) :=
 bif x7 then
  (Jn r6.2 (f2.Slots.length : Int)).bind fun r8 =>
  some (([(Je.mk 16 r8.1 r5.1 0 0)] : List Je),r8.2)
 else
  bif (decide (r6.1 < 6)) then
   Mh r6 f2 r5 params4 i3 (decide ((f2.Slots.length : Int) > 0))
  else
   Mh r6 f2 r5 params4 i3 false
noncomputable def NK (c1 : Jd) (f2 : Jh) (i3 : Int) (params4 : (List Int)) : Option ((List Je) × Jd) :=
 (Jn c1 4).bind fun r5 =>
 (Jn r5.2 20).bind fun r6 =>
 bif (decide (r6.1 < 3)) then
  Mg r6 f2 r5 params4 i3 (decide ((f2.Slots.length : Int) > 0))
 else
  Mg r6 f2 r5 params4 i3 false

noncomputable def LR (k32 : Int) (code31 : List Je) (r33 : Int × Jd) (to34 : Int) (x35 : Bool) : Option (((List Int) × Int × (List Je) × Int) ⊕ (Jh × Jd)) :=
 bif x35 then
  chk (0 ≤ k32 ∧ k32 < code31.length) <|
  ((code31)[k32.toNat]?).bind fun code_o38 =>
  cnt (r33.2.list,r33.2.at_,code31.set k32.toNat (Je.mk code_o38.Op to34 code_o38.B code_o38.C code_o38.Imm),IntKind.i64.wrap (k32 + 1))
 else
  chk (0 ≤ k32 ∧ k32 < code31.length) <|
  ((code31)[k32.toNat]?).bind fun code_e39 =>
  bif (code_e39.Op == 21) then
   chk (0 ≤ k32 ∧ k32 < code31.length) <|
   ((code31)[k32.toNat]?).bind fun code_e40 =>
   bif (decide (code_e40.B < 0)) then
    chk (0 ≤ k32 ∧ k32 < code31.length) <|
    ((code31)[k32.toNat]?).bind fun code_o41 =>
    cnt (r33.2.list,r33.2.at_,code31.set k32.toNat (Je.mk code_o41.Op code_o41.A to34 code_o41.C code_o41.Imm),IntKind.i64.wrap (k32 + 1))
   else
    cnt (r33.2.list,r33.2.at_,code31,IntKind.i64.wrap (k32 + 1))
  else
   cnt (r33.2.list,r33.2.at_,code31,IntKind.i64.wrap (k32 + 1))
noncomputable def Kl (k32 : Int) (code31 : List Je) (r33 : Int × Jd) (to34 : Int) : Option (((List Int) × Int × (List Je) × Int) ⊕ (Jh × Jd)) :=
 chk (0 ≤ k32 ∧ k32 < code31.length) <|
 ((code31)[k32.toNat]?).bind fun code_e36 =>
 bif (code_e36.Op == 20) then
  chk (0 ≤ k32 ∧ k32 < code31.length) <|
  ((code31)[k32.toNat]?).bind fun code_e37 =>
  LR k32 code31 r33 to34 (decide (code_e37.A < 0))
 else
  LR k32 code31 r33 to34 false
noncomputable def LQ (x_x5 : Int) (f17 : List JK) (c29 : List Int) (c30 : Int) (code31 : List Je) (k32 : Int) : Option (((List Int) × Int × (List Je) × Int) ⊕ (Jh × Jd)) :=
 bif (decide (k32 < (code31.length : Int))) then
  (Jn (Jd.mk c29 c30) 8).bind fun r33 =>
  bif (decide ((IntKind.i64.wrap ((IntKind.i64.wrap (k32 + r33.1)) - 2)) < 0)) then
   Kl k32 code31 r33 (IntKind.i64.wrap ((code31.length : Int) - 1))
  else
   bif (decide ((IntKind.i64.wrap ((IntKind.i64.wrap (k32 + r33.1)) - 2)) ≥ (code31.length : Int))) then
    Kl k32 code31 r33 (IntKind.i64.wrap ((code31.length : Int) - 1))
   else
    Kl k32 code31 r33 (IntKind.i64.wrap ((IntKind.i64.wrap (k32 + r33.1)) - 2))
 else
  lft (some ((Jh.mk x_x5 f17 code31),(Jd.mk c29 c30)))
noncomputable def Lb (code16 : List Je) (x_x5 : Int) (f17 : List JK) (c23 : List Int) (c24 : Int) (end25 : Int) (end26 : Int) : Option (Jh × Jd) :=
 chk (code16.length + ([(Je.mk end25 0 0 0 end26)] : List Je).length ≤ 16777216) <|
 JL (fun s=>LQ x_x5 f17 s.1 s.2.1 s.2.2.1 s.2.2.2) (c23,c24,code16 ++ ([(Je.mk end25 0 0 0 end26)] : List Je),0)
noncomputable def Ns (x_x5 : Int) (i2 : Int) (params3 : (List Int)) (c14 : List Int) (c15 : Int) (code16 : List Je) (f17 : List JK) (n18 : Int) : Option (((List Int) × Int × (List Je) × (List JK) × Int) ⊕ (Jh × Jd)) :=
 bif (decide (n18 > 0)) then
  (NK (Jd.mk c14 c15) (Jh.mk x_x5 f17 ([])) i2 params3).bind fun r19 =>
  chk (code16.length + r19.1.length ≤ 16777216) <|
  (Jn r19.2 9).bind fun r20 =>
  bif (r20.1 == 7) then
   (Jn r20.2 4).bind fun r21 =>
   chk ((code16 ++ r19.1).length + ([(Je.mk 21 r21.1 (-1) 0 0)] : List Je).length ≤ 16777216) <|
   cnt (r21.2.list,r21.2.at_,(code16 ++ r19.1) ++ ([(Je.mk 21 r21.1 (-1) 0 0)] : List Je),f17,IntKind.i64.wrap (n18 - 1))
  else
   bif (r20.1 == 8) then
    (Jn r20.2 3).bind fun r22 =>
    bif (r22.1 == 2) then
     chk ((code16 ++ r19.1).length + ([(Je.mk 20 (-1) 0 0 0)] : List Je).length ≤ 16777216) <|
     cnt (r22.2.list,r22.2.at_,(code16 ++ r19.1) ++ ([(Je.mk 20 (-1) 0 0 0)] : List Je),f17,IntKind.i64.wrap (n18 - 1))
    else
     cnt (r22.2.list,r22.2.at_,code16 ++ r19.1,f17,IntKind.i64.wrap (n18 - 1))
   else
    cnt (r20.2.list,r20.2.at_,code16 ++ r19.1,f17,IntKind.i64.wrap (n18 - 1))
 else
  lft (
   (Jn (Jd.mk c14 c15) 12).bind fun r27 =>
   bif (r27.1 == 11) then
    (My r27.2).bind fun r28 =>
    Lb code16 x_x5 f17 r28.2.list r28.2.at_ 24 r28.1
   else
    Lb code16 x_x5 f17 r27.2.list r27.2.at_ 23 0)
noncomputable def Nr (r6 : (List JK) × Jd) (most4 : Int) (x_x5 : Int) (i2 : Int) (params3 : (List Int)) (c7 : List Int) (c8 : Int) (code9 : List Je) (s10 : Int) : Option (((List Int) × Int × (List Je) × Int) ⊕ (Jh × Jd)) :=
 bif (decide (s10 < (r6.1.length : Int))) then
  (Jn (Jd.mk c7 c8) 4).bind fun r11 =>
  bif (decide (r11.1 < 3)) then
   (Jn r11.2 4).bind fun r12 =>
   chk (code9.length + ([(Je.mk 16 s10 r12.1 0 0)] : List Je).length ≤ 16777216) <|
   cnt (r12.2.list,r12.2.at_,code9 ++ ([(Je.mk 16 s10 r12.1 0 0)] : List Je),IntKind.i64.wrap (s10 + 1))
  else
   cnt (r11.2.list,r11.2.at_,code9,IntKind.i64.wrap (s10 + 1))
 else
  lft (
   (Jn (Jd.mk c7 c8) (IntKind.i64.wrap (most4 + 1))).bind fun r13 =>
   JL (fun s=>Ns x_x5 i2 params3 s.1 s.2.1 s.2.2.1 s.2.2.2.1 s.2.2.2.2) (r13.2.list,r13.2.at_,code9,r6.1,r13.1))
noncomputable def LO (c1 : Jd) (i2 : Int) (params3 : (List Int)) (most4 : Int) : Option (Jh × Jd) :=
 (ixO params3 i2).bind fun x_x5 =>
 (Nb c1 6).bind fun r6 =>
 JL (fun s=>Nr r6 most4 x_x5 i2 params3 s.1 s.2.1 s.2.2.1 s.2.2.2) (r6.2.list,r6.2.at_,([] : List Je),0)

noncomputable def NI (most3 : Int) (c10 : List Int) (c11 : Int) (p12 : List Jh) (i13 : Int) (params14 : List Int) : Option (((List Int) × Int × (List Jh) × Int × (List Int)) ⊕ (NT × Jd)) :=
 bif (decide (i13 < (params14.length : Int))) then
  chk (([] : List Jh).length + p12.length ≤ 16777216) <|
  (LO (Jd.mk c10 c11) i13 params14 most3).bind fun r15 =>
  chk ((([] : List Jh) ++ p12).length + ([r15.1] : List Jh).length ≤ 16777216) <|
  cnt (r15.2.list,r15.2.at_,(([] : List Jh) ++ p12) ++ ([r15.1] : List Jh),IntKind.i64.wrap (i13 + 1),params14)
 else
  lft (some ((NT.mk p12),(Jd.mk c10 c11)))
noncomputable def NH (most3 : Int) (c5 : List Int) (c6 : Int) (params7 : List Int) (n8 : Int) : Option (((List Int) × Int × (List Int) × Int) ⊕ (NT × Jd)) :=
 bif (decide (n8 > 0)) then
  (Jn (Jd.mk c5 c6) 4).bind fun r9 =>
  chk (params7.length + ([r9.1] : List Int).length ≤ 16777216) <|
  cnt (r9.2.list,r9.2.at_,params7 ++ ([r9.1] : List Int),IntKind.i64.wrap (n8 - 1))
 else
  lft (JL (fun s=>NI most3 s.1 s.2.1 s.2.2.1 s.2.2.2.1 s.2.2.2.2) (c5,c6,[],0,params7))
noncomputable def Mf (c1 : Jd) (funcs2 : Int) (most3 : Int) : Option (NT × Jd) :=
 (Jn c1 funcs2).bind fun r4 =>
 JL (fun s=>NH most3 s.1 s.2.1 s.2.2.1 s.2.2.2) (r4.2.list,r4.2.at_,([0] : List Int),r4.1)

noncomputable def Lw (x_x3 : Je) (k2 : Int) (x4 : Bool) : Option ((List Int)) :=
 bif x4 then
  some ([] : List Int)
 else
  bif (x_x3.Op == 21) then
   bif (decide (x_x3.B < (IntKind.i64.wrap (k2 + 1)))) then
    some ([x_x3.B,IntKind.i64.wrap (k2 + 1)] : List Int)
   else
    bif (decide (x_x3.B > (IntKind.i64.wrap (k2 + 1)))) then
     some ([IntKind.i64.wrap (k2 + 1),x_x3.B] : List Int)
    else
     some ([IntKind.i64.wrap (k2 + 1)] : List Int)
  else
   some ([IntKind.i64.wrap (k2 + 1)] : List Int)
noncomputable def TA (f1 : Jh) (k2 : Int) : Option ((List Int)) :=
 (ixO f1.Code k2).bind fun x_x3 =>
 bif (x_x3.Op == 20) then
  some ([x_x3.A] : List Int)
 else
  bif (x_x3.Op == 23) then
   Lw x_x3 k2 (x_x3.Op == 23)
  else
   Lw x_x3 k2 (x_x3.Op == 24)
noncomputable def SF (f1 : Jh) (k2 : Int) : Option ((List Int)) :=
 bif (decide (k2 < 0)) then
  some ([] : List Int)
 else
  bif (decide (k2 ≥ (f1.Code.length : Int))) then
   some ([] : List Int)
  else
   TA f1 k2

noncomputable def Pr (x1 : Je) : Option (Bool) :=
 bif (x1.Op == 16) then
  some true
 else
  some (x1.Op == 17)

noncomputable def QZ (x1 : Je) : Option (Int × Bool) :=
 (Pr x1).bind fun r2 =>
 bif r2 then
  some (x1.A,true)
 else
  some (0,false)

noncomputable def ME (s1 : (List Int)) (n2 : Int) (out3 : List Int) (i4 : Int) : Option (((List Int) × Int) ⊕ ((List Int))) :=
 bif (decide (i4 < (s1.length : Int))) then
  (ixO s1 i4).bind fun x_x5 =>
  bif (x_x5 != n2) then
   (ixO s1 i4).bind fun x_x6 =>
   chk (out3.length + ([x_x6] : List Int).length ≤ 16777216) <|
   cnt (out3 ++ ([x_x6] : List Int),IntKind.i64.wrap (i4 + 1))
  else
   cnt (out3,IntKind.i64.wrap (i4 + 1))
 else
  lft (some out3)
noncomputable def Oz (s1 : (List Int)) (n2 : Int) : Option ((List Int)) :=
 JL (fun s=>ME s1 n2 s.1 s.2) (([] : List Int),0)

noncomputable def QM (x1 : Je) : Option ((List Int)) :=
 bif (x1.Op == 15) then
  some ([x1.B] : List Int)
 else
  bif (x1.Op == 17) then
   some ([x1.B] : List Int)
  else
   some ([] : List Int)

noncomputable def SE (n1 : Int) : Option (Bool) :=
 bif (decide (n1 ≥ 0)) then
  some (decide (n1 < 512))
 else
  some false

noncomputable def MD (s1 : (List Int)) (i6 : Int) (out7 : List Int) (done8 : Bool) : Option (((List Int) × Bool × Int) ⊕ ((List Int))) :=
 (ixO s1 i6).bind fun x_x12 =>
 chk (out7.length + ([x_x12] : List Int).length ≤ 16777216) <|
 cnt (out7 ++ ([x_x12] : List Int),done8,IntKind.i64.wrap (i6 + 1))
noncomputable def NA (s1 : (List Int)) (i6 : Int) (n2 : Int) (out4 : List Int) (done5 : Bool) (x9 : Bool) : Option (((List Int) × Bool × Int) ⊕ ((List Int))) :=
 bif x9 then
  (ixO s1 i6).bind fun x_x11 =>
  bif (decide (x_x11 > n2)) then
   chk (out4.length + ([n2] : List Int).length ≤ 16777216) <|
   MD s1 i6 (out4 ++ ([n2] : List Int)) true
  else
   MD s1 i6 out4 true
 else
  MD s1 i6 out4 done5
noncomputable def Ls (s1 : (List Int)) (n2 : Int) (out4 : List Int) (done5 : Bool) (i6 : Int) : Option (((List Int) × Bool × Int) ⊕ ((List Int))) :=
 bif (decide (i6 < (s1.length : Int))) then
  bif (!done5) then
   (ixO s1 i6).bind fun x_x10 =>
   NA s1 i6 n2 out4 done5 (decide (x_x10 ≥ n2))
  else
   NA s1 i6 n2 out4 done5 false
 else
  lft (
   bif (!done5) then
    chk (out4.length + ([n2] : List Int).length ≤ 16777216) <|
    some (out4 ++ ([n2] : List Int))
   else
    some out4)
noncomputable def Om (s1 : (List Int)) (n2 : Int) : Option ((List Int)) :=
 (SE n2).bind fun r3 =>
 JL (fun s=>Ls s1 n2 s.1 s.2.1 s.2.2) (([] : List Int),(!r3),0)

noncomputable def Ou (b2 : (List Int)) (out3 : List Int) (i4 : Int) : Option (((List Int) × Int) ⊕ ((List Int))) :=
 bif (decide (i4 < (b2.length : Int))) then
  (ixO b2 i4).bind fun x_x5 =>
  (Om out3 x_x5).bind fun r6 =>
  cnt (r6,IntKind.i64.wrap (i4 + 1))
 else
  lft (some out3)
noncomputable def On (a1 : (List Int)) (b2 : (List Int)) : Option ((List Int)) :=
 chk (([] : List Int).length + a1.length ≤ 16777216) <|
 JL (fun s=>Ou b2 s.1 s.2) (([] : List Int) ++ a1,0)

noncomputable def VE (x1 : Je) (out2 : (List Int)) : Option ((List Int)) :=
 (QZ x1).bind fun r3 =>
 bif r3.2 then
  (Oz out2 r3.1).bind fun r4 =>
  (QM x1).bind fun r5 =>
  (On r4 r5).bind fun r6 =>
  some r6
 else
  (QM x1).bind fun r7 =>
  (On out2 r7).bind fun r8 =>
  some r8

noncomputable def TB (k4 : Int) (x5 : List (List Int)) : Option (((List (List Int)) × Int) ⊕ (Jp)) :=
 cnt (x5,IntKind.i64.wrap (k4 + 1))
noncomputable def Pd (r6 : (List Int)) (k4 : Int) (f1 : Jh) (l2 : Jp) (x7 : List (List Int)) (i8 : Int) : Option (((List (List Int)) × Int) ⊕ (((List (List Int)) × Int) ⊕ (Jp))) :=
 bif (decide (i8 < (r6.length : Int))) then
  chk (0 ≤ i8 ∧ i8 < r6.length) <|
  ((r6)[i8.toNat]?).bind fun next_e9 =>
  chk (0 ≤ k4 ∧ k4 < x7.length) <|
  ((x7)[k4.toNat]?).bind fun x_e10 =>
  (ixO f1.Code next_e9).bind fun x_x11 =>
  (ixO l2.Out next_e9).bind fun x_x12 =>
  (VE x_x11 x_x12).bind fun r13 =>
  (On x_e10 r13).bind fun r14 =>
  chk (0 ≤ k4 ∧ k4 < x7.length) <|
  ((x7)[k4.toNat]?).bind fun _ =>
  cnt (x7.set k4.toNat r14,IntKind.i64.wrap (i8 + 1))
 else
  lft (TB k4 x7)
noncomputable def Pc (f1 : Jh) (l2 : Jp) (x3 : List (List Int)) (k4 : Int) : Option (((List (List Int)) × Int) ⊕ (Jp)) :=
 bif (decide (k4 < (f1.Code.length : Int))) then
  (SF f1 k4).bind fun r6 =>
  JL (fun s=>Pd r6 k4 f1 l2 s.1 s.2) (x3,0)
 else
  lft (some (Jp.mk x3))
noncomputable def SJ (f1 : Jh) (l2 : Jp) : Option (Jp) :=
 chk (0 ≤ (f1.Code.length : Int) ∧ (f1.Code.length : Int) ≤ 16777216) <|
 JL (fun s=>Pc f1 l2 s.1 s.2) (List.replicate (f1.Code.length : Int).toNat ([] : (List Int)),0)

noncomputable def NX (a1 : (List Int)) (b2 : (List Int)) (i3 : Int) : Option ((Int) ⊕ (Bool)) :=
 bif (decide (i3 < (a1.length : Int))) then
  (ixO a1 i3).bind fun x_x4 =>
  (ixO b2 i3).bind fun x_x5 =>
  bif (x_x4 != x_x5) then
   lft (some false)
  else
   cnt (IntKind.i64.wrap (i3 + 1))
 else
  lft (some true)
noncomputable def SC (a1 : (List Int)) (b2 : (List Int)) : Option (Bool) :=
 bif ((a1.length : Int) != (b2.length : Int)) then
  some false
 else
  JL (fun s=>NX a1 b2 s) 0

noncomputable def Md (a1 : (List (List Int))) (b2 : (List (List Int))) (i3 : Int) : Option ((Int) ⊕ (Bool)) :=
 bif (decide (i3 < (a1.length : Int))) then
  (ixO a1 i3).bind fun x_x4 =>
  (ixO b2 i3).bind fun x_x5 =>
  (SC x_x4 x_x5).bind fun r6 =>
  bif (!r6) then
   lft (some false)
  else
   cnt (IntKind.i64.wrap (i3 + 1))
 else
  lft (some true)
noncomputable def Pb (a1 : (List (List Int))) (b2 : (List (List Int))) : Option (Bool) :=
 bif ((a1.length : Int) != (b2.length : Int)) then
  some false
 else
  JL (fun s=>Md a1 b2 s) 0

noncomputable def SG (a1 : Jp) (b2 : Jp) : Option (Bool) :=
 (Pb a1.Out b2.Out).bind fun r3 =>
 some r3

noncomputable def SH (f1 : Jh) (l2 : List (List Int)) : Option (((List (List Int))) ⊕ (Jp)) :=
 (SJ f1 (Jp.mk l2)).bind fun r3 =>
 (SG r3 (Jp.mk l2)).bind fun r4 =>
 bif r4 then
  lft (some (Jp.mk l2))
 else
  cnt r3.Out
noncomputable def Oo (f1 : Jh) : Option (Jp) :=
 chk (0 ≤ (f1.Code.length : Int) ∧ (f1.Code.length : Int) ≤ 16777216) <|
 JL (fun s=>SH f1 s) (List.replicate (f1.Code.length : Int).toNat ([] : (List Int)))

noncomputable def MZ (c1 : Jd) : Option (Int × Jd) :=
 (Jn c1 12).bind fun r2 =>
 bif (r2.1 == 11) then
  (Jn r2.2 (([9223372036854775807,(-9223372036854775808),2147483648,2147483647,(-1),16777216,33554432,1048577,512,80] : List Int).length : Int)).bind fun r3 =>
  chk (0 ≤ r3.1 ∧ r3.1 < ([9223372036854775807,(-9223372036854775808),2147483648,2147483647,(-1),16777216,33554432,1048577,512,80] : List Int).length) <|
  ((([9223372036854775807,(-9223372036854775808),2147483648,2147483647,(-1),16777216,33554432,1048577,512,80] : List Int))[r3.1.toNat]?).bind fun l_e4 =>
  some (l_e4,r3.2)
 else
  (Jn r2.2 256).bind fun r5 =>
  (Jn r5.2 7).bind fun r6 =>
  chk (0 ≤ r6.1) <|
  some (IntKind.i64.wrap ((r5.1.fdiv (2 ^ (Nat.min r6.1.toNat IntKind.i64.bits))) - (IntKind.i64.wrap (r2.1.tdiv 9))),r6.2)

noncomputable def Lq (n12 : Int) (c13 : List Int) (c14 : Int) (x15 : List (List Int)) : Option (((List Int) × Int × (List (List Int)) × Int) ⊕ (Jp × Jd)) :=
 cnt (c13,c14,x15,IntKind.i64.wrap (n12 - 1))
noncomputable def Pj (r16 : Int × Jd) (n12 : Int) (r17 : Int × Jd) (x18 : List (List Int)) (k19 : Int) : Option (((List (List Int)) × Int) ⊕ (((List Int) × Int × (List (List Int)) × Int) ⊕ (Jp × Jd))) :=
 bif (decide (k19 < (x18.length : Int))) then
  chk (0 ≤ k19 ∧ k19 < x18.length) <|
  ((x18)[k19.toNat]?).bind fun x_e20 =>
  (Om x_e20 r16.1).bind fun r21 =>
  chk (0 ≤ k19 ∧ k19 < x18.length) <|
  ((x18)[k19.toNat]?).bind fun _ =>
  cnt (x18.set k19.toNat r21,IntKind.i64.wrap (k19 + 1))
 else
  lft (Lq n12 r17.2.list r17.2.at_ x18)
noncomputable def Pk (c9 : List Int) (c10 : Int) (f2 : Jh) (n12 : Int) (x11 : List (List Int)) : Option (((List Int) × Int × (List (List Int)) × Int) ⊕ (Jp × Jd)) :=
 (Jn (Jd.mk c9 c10) (f2.Slots.length : Int)).bind fun r16 =>
 (Jn r16.2 2).bind fun r17 =>
 bif (r17.1 == 0) then
  JL (fun s=>Pj r16 n12 r17 s.1 s.2) (x11,0)
 else
  (Jn r17.2 (x11.length : Int)).bind fun r23 =>
  (Jn r23.2 2).bind fun r24 =>
  bif (r24.1 == 0) then
   chk (0 ≤ r23.1 ∧ r23.1 < x11.length) <|
   ((x11)[r23.1.toNat]?).bind fun x_e25 =>
   (Om x_e25 r16.1).bind fun r26 =>
   chk (0 ≤ r23.1 ∧ r23.1 < x11.length) <|
   ((x11)[r23.1.toNat]?).bind fun _ =>
   Lq n12 r24.2.list r24.2.at_ (x11.set r23.1.toNat r26)
  else
   chk (0 ≤ r23.1 ∧ r23.1 < x11.length) <|
   ((x11)[r23.1.toNat]?).bind fun x_e28 =>
   (Oz x_e28 r16.1).bind fun r29 =>
   chk (0 ≤ r23.1 ∧ r23.1 < x11.length) <|
   ((x11)[r23.1.toNat]?).bind fun _ =>
   Lq n12 r24.2.list r24.2.at_ (x11.set r23.1.toNat r29)
noncomputable def Me (c5 : List Int) (c6 : Int) (x7 : List (List Int)) : Option (Jp × Jd) :=
 (Jn (Jd.mk c5 c6) 12).bind fun r31 =>
 bif (r31.1 == 10) then
  chk (0 ≤ (1 : Int) ∧ (1 : Int) ≤ x7.length) <|
  some ((Jp.mk (x7.drop ((1 : Int).toNat))),r31.2)
 else
  bif (r31.1 == 11) then
   (MZ r31.2).bind fun r32 =>
   (MZ r32.2).bind fun r33 =>
   chk (0 ≤ (0 : Int) ∧ (0 : Int) < x7.length) <|
   ((x7)[(0 : Int).toNat]?).bind fun _ =>
   some ((Jp.mk (x7.set ((0 : Int).toNat) ([r32.1,r33.1] : List Int))),r33.2)
  else
   some ((Jp.mk x7),r31.2)
noncomputable def Ph (f2 : Jh) (c9 : List Int) (c10 : Int) (x11 : List (List Int)) (n12 : Int) : Option (((List Int) × Int × (List (List Int)) × Int) ⊕ (Jp × Jd)) :=
 bif (decide (n12 > 0)) then
  bif (decide ((f2.Slots.length : Int) > 0)) then
   Pk c9 c10 f2 n12 x11
  else
   lft (Me c9 c10 x11)
 else
  lft (Me c9 c10 x11)
noncomputable def NG (c1 : Jd) (f2 : Jh) : Option (Jp × Jd) :=
 (Oo f2).bind fun r3 =>
 (Jn c1 3).bind fun r4 =>
 bif (r4.1 == 0) then
  some (r3,r4.2)
 else
  chk (([] : List (List Int)).length + r3.Out.length ≤ 16777216) <|
  (Jn r4.2 4).bind fun r8 =>
  JL (fun s=>Ph f2 s.1 s.2.1 s.2.2.1 s.2.2.2) (r8.2.list,r8.2.at_,([] : List (List Int)) ++ r3.Out,r8.1)

noncomputable def Rf (codes1 : (List Int)) : Option (Jh × Jp × Jd) :=
 (Vp codes1 250).bind fun r2 =>
 (Mf r2 3 16).bind fun r3 =>
 (Jn r3.2 (r3.1.Funcs.length : Int)).bind fun r4 =>
 (ixO r3.1.Funcs r4.1).bind fun x_x5 =>
 (NG r4.2 x_x5).bind fun r6 =>
 some (x_x5,r6.1,r6.2)

noncomputable def OL (n8 : Int) (c9 : List Int) (c10 : Int) (x11 : List (List Int)) : Option (((List Int) × Int × (List (List Int)) × Int) ⊕ (Jp × Jd)) :=
 cnt (c9,c10,x11,IntKind.i64.wrap (n8 - 1))
noncomputable def OJ (r12 : Int × Jd) (n8 : Int) (x13 : List (List Int)) (k14 : Int) : Option (((List (List Int)) × Int) ⊕ (((List Int) × Int × (List (List Int)) × Int) ⊕ (Jp × Jd))) :=
 bif (decide (k14 < (x13.length : Int))) then
  chk (0 ≤ k14 ∧ k14 < x13.length) <|
  ((x13)[k14.toNat]?).bind fun x_e15 =>
  (Om x_e15 r12.1).bind fun r16 =>
  chk (0 ≤ k14 ∧ k14 < x13.length) <|
  ((x13)[k14.toNat]?).bind fun _ =>
  cnt (x13.set k14.toNat r16,IntKind.i64.wrap (k14 + 1))
 else
  lft (OL n8 r12.2.list r12.2.at_ x13)
noncomputable def OK (c5 : List Int) (c6 : Int) (f2 : Jh) (n8 : Int) (x7 : List (List Int)) : Option (((List Int) × Int × (List (List Int)) × Int) ⊕ (Jp × Jd)) :=
 (Jn (Jd.mk c5 c6) (f2.Slots.length : Int)).bind fun r12 =>
 JL (fun s=>OJ r12 n8 s.1 s.2) (x7,0)
noncomputable def OI (f2 : Jh) (c5 : List Int) (c6 : Int) (x7 : List (List Int)) (n8 : Int) : Option (((List Int) × Int × (List (List Int)) × Int) ⊕ (Jp × Jd)) :=
 bif (decide (n8 > 0)) then
  bif (decide ((f2.Slots.length : Int) > 0)) then
   OK c5 c6 f2 n8 x7
  else
   lft (some ((Jp.mk x7),(Jd.mk c5 c6)))
 else
  lft (some ((Jp.mk x7),(Jd.mk c5 c6)))
noncomputable def Na (c1 : Jd) (f2 : Jh) : Option (Jp × Jd) :=
 (Oo f2).bind fun r3 =>
 chk (([] : List (List Int)).length + r3.Out.length ≤ 16777216) <|
 (Jn c1 3).bind fun r4 =>
 JL (fun s=>OI f2 s.1 s.2.1 s.2.2.1 s.2.2.2) (r4.2.list,r4.2.at_,([] : List (List Int)) ++ r3.Out,r4.1)

noncomputable def KI (n1 : Int) : Option (Bool) :=
 bif (decide (n1 ≥ 0)) then
  some (decide (n1 < 512))
 else
  some false

noncomputable def LH (s1 : (List Int)) (x2 : Int) : Option ((Int) ⊕ (Bool)) :=
 bif (decide (x2 < (s1.length : Int))) then
  (ixO s1 x2).bind fun x_x3 =>
  (KI x_x3).bind fun r4 =>
  bif (!r4) then
   lft (some false)
  else
   bif (decide (x2 > 0)) then
    (ixO s1 (IntKind.i64.wrap (x2 - 1))).bind fun x_x5 =>
    bif (decide (x_x3 ≤ x_x5)) then
     lft (some false)
    else
     cnt (IntKind.i64.wrap (x2 + 1))
   else
    cnt (IntKind.i64.wrap (x2 + 1))
 else
  lft (some true)
noncomputable def Ov (s1 : (List Int)) : Option (Bool) :=
 JL (fun s=>LH s1 s) 0

noncomputable def Lm (s1 : (List Int)) (cap2 : Jh) : Option (Bool) :=
 (Ov s1).bind fun r3 =>
 bif (!r3) then
  some true
 else
  bif (decide ((s1.length : Int) > 0)) then
   (ixO s1 (IntKind.i64.wrap ((s1.length : Int) - 1))).bind fun x_x4 =>
   some (decide (x_x4 ≥ (cap2.Slots.length : Int)))
  else
   some false

noncomputable def KC (s1 : (List (List Int))) (f2 : Jh) (x3 : Int) : Option ((Int) ⊕ (Int)) :=
 bif (decide (x3 < (s1.length : Int))) then
  (ixO s1 x3).bind fun x_x4 =>
  (Lm x_x4 f2).bind fun r5 =>
  bif r5 then
   lft (some x3)
  else
   cnt (IntKind.i64.wrap (x3 + 1))
 else
  lft (some (-1))
noncomputable def Kb (s1 : (List (List Int))) (f2 : Jh) : Option (Int) :=
 JL (fun s=>KC s1 f2 s) 0

noncomputable def Ke (s1 : (List (List Int))) (f2 : Jh) : Option (Bool) :=
 (Kb s1 f2).bind fun r3 =>
 some (decide (r3 ≥ 0))

noncomputable def Ma (f1 : Jh) (l2 : Jp) : Option (Bool) :=
 bif ((l2.Out.length : Int) == (f1.Code.length : Int)) then
  (Ke l2.Out f1).bind fun r3 =>
  some (!r3)
 else
  some false

noncomputable def Qh (l1 : Jp) : Option (Jp) :=
 some l1

noncomputable def Qm (op1 : Int) : Option (Bool) :=
 bif (op1 == 20) then
  some true
 else
  bif (op1 == 23) then
   some true
  else
   some (op1 == 24)

noncomputable def Sg (x_x3 : Je) (l4 : List Int) : Option ((List Int)) :=
 bif (x_x3.Op == 20) then
  chk (l4.length + ([x_x3.A] : List Int).length ≤ 16777216) <|
  chk ((l4 ++ ([x_x3.A] : List Int)).length < 4611686018427387904) <|
  chk ((Li (l4 ++ ([x_x3.A] : List Int))).length < 4611686018427387904) <|
  some (Lib.compact (Li (l4 ++ ([x_x3.A] : List Int))))
 else
  bif (x_x3.Op == 21) then
   chk (l4.length + ([x_x3.B] : List Int).length ≤ 16777216) <|
   chk ((l4 ++ ([x_x3.B] : List Int)).length < 4611686018427387904) <|
   chk ((Li (l4 ++ ([x_x3.B] : List Int))).length < 4611686018427387904) <|
   some (Lib.compact (Li (l4 ++ ([x_x3.B] : List Int))))
  else
   chk (l4.length < 4611686018427387904) <|
   chk ((Li l4).length < 4611686018427387904) <|
   some (Lib.compact (Li l4))
noncomputable def UC (f1 : Jh) (k2 : Int) : Option ((List Int)) :=
 (ixO f1.Code k2).bind fun x_x3 =>
 (Qm x_x3.Op).bind fun r5 =>
 bif (!r5) then
  chk (([] : List Int).length + ([IntKind.i64.wrap (k2 + 1)] : List Int).length ≤ 16777216) <|
  Sg x_x3 (([] : List Int) ++ ([IntKind.i64.wrap (k2 + 1)] : List Int))
 else
  Sg x_x3 ([] : List Int)
noncomputable def Uh (f1 : Jh) (k2 : Int) : Option ((List Int)) :=
 bif (decide (k2 < 0)) then
  some ([] : List Int)
 else
  bif (decide (k2 ≥ (f1.Code.length : Int))) then
   some ([] : List Int)
  else
   UC f1 k2

noncomputable def MW (j1 : Int) (cap2 : Jp) : Option ((List Int)) :=
 (ixO cap2.Out j1).bind fun x_x3 =>
 some x_x3

noncomputable def Ml (x1 : Je) : Option (Int × Bool) :=
 bif (x1.Op == 16) then
  bif (x1.Op == 16) then
   some (x1.A,true)
  else
   some (0,false)
 else
  bif (x1.Op == 17) then
   some (x1.A,true)
  else
   some (0,false)

noncomputable def Lp (s1 : Jf) (n2 : Int) (in3 : Bool) : Option (Jf) :=
 chk (0 ≤ ((IntKind.u64.wrap (n2)).tmod 64)) <|
 (KI n2).bind fun r4 =>
 bif (!r4) then
  some s1
 else
  bif in3 then
   chk (0 ≤ (IntKind.i64.wrap (n2.tdiv 64)) ∧ (IntKind.i64.wrap (n2.tdiv 64)) < 8) <|
   ((s1.toList)[(IntKind.i64.wrap (n2.tdiv 64)).toNat]?).bind fun s_e5 =>
   chk (0 ≤ (IntKind.i64.wrap (n2.tdiv 64)) ∧ (IntKind.i64.wrap (n2.tdiv 64)) < 8) <|
   ((s1.toList)[(IntKind.i64.wrap (n2.tdiv 64)).toNat]?).bind fun _ =>
   some (s1.set ((IntKind.i64.wrap (n2.tdiv 64)).toNat) (IntKind.u64.wrap ((BitVec.ofInt IntKind.u64.bits s_e5 ||| BitVec.ofInt IntKind.u64.bits (IntKind.u64.wrap (1 * 2 ^ (Nat.min ((IntKind.u64.wrap (n2)).tmod 64).toNat IntKind.u64.bits)))).toNat)))
  else
   chk (0 ≤ (IntKind.i64.wrap (n2.tdiv 64)) ∧ (IntKind.i64.wrap (n2.tdiv 64)) < 8) <|
   ((s1.toList)[(IntKind.i64.wrap (n2.tdiv 64)).toNat]?).bind fun s_e7 =>
   chk (0 ≤ (IntKind.i64.wrap (n2.tdiv 64)) ∧ (IntKind.i64.wrap (n2.tdiv 64)) < 8) <|
   ((s1.toList)[(IntKind.i64.wrap (n2.tdiv 64)).toNat]?).bind fun _ =>
   some (s1.set ((IntKind.i64.wrap (n2.tdiv 64)).toNat) (IntKind.u64.wrap ((BitVec.ofInt IntKind.u64.bits s_e7 &&& ~~~ BitVec.ofInt IntKind.u64.bits (IntKind.u64.wrap (1 * 2 ^ (Nat.min ((IntKind.u64.wrap (n2)).tmod 64).toNat IntKind.u64.bits)))).toNat)))

noncomputable def Qz (l1 : (List Int)) (x2 : Jf) (x3 : Int) : Option ((Jf × Int) ⊕ (Jf)) :=
 bif (decide (x3 < (l1.length : Int))) then
  (ixO l1 x3).bind fun x_x4 =>
  (Lp x2 x_x4 true).bind fun r5 =>
  cnt (r5,IntKind.i64.wrap (x3 + 1))
 else
  lft (some x2)
noncomputable def KX (l1 : (List Int)) : Option (Jf) :=
 JL (fun s=>Qz l1 s.1 s.2) ((Jf.mk 0 0 0 0 0 0 0 0),0)

noncomputable def Np (x3 : Int) (l5 : List Int) (x6 : Int) : Option (((List Int) × Int) ⊕ (((List Int) × Int) ⊕ ((List Int) × Jf))) :=
 bif (x6 != 0) then
  (ZE x6).bind fun r7 =>
  chk (l5.length + ([IntKind.i64.wrap ((IntKind.i64.wrap (64 * x3)) + r7)] : List Int).length ≤ 16777216) <|
  cnt (l5 ++ ([IntKind.i64.wrap ((IntKind.i64.wrap (64 * x3)) + r7)] : List Int),IntKind.u64.wrap ((BitVec.ofInt IntKind.u64.bits x6 &&& BitVec.ofInt IntKind.u64.bits (IntKind.u64.wrap (x6 - 1))).toNat))
 else
  lft (cnt (l5,IntKind.i64.wrap (x3 + 1)))
noncomputable def Nn (s1 : Jf) (l2 : List Int) (x3 : Int) : Option (((List Int) × Int) ⊕ ((List Int) × Jf)) :=
 bif (decide (x3 < 8)) then
  chk (0 ≤ x3 ∧ x3 < 8) <|
  ((s1.toList)[x3.toNat]?).bind fun s_e4 =>
  JL (fun s=>Np x3 s.1 s.2) (l2,s_e4)
 else
  lft (some (l2,s1))
noncomputable def Ko (s1 : Jf) : Option ((List Int) × Jf) :=
 JL (fun s=>Nn s1 s.1 s.2) (([] : List Int),0)

noncomputable def NV (s1 : (List Int)) (n2 : Int) : Option ((List Int)) :=
 (KX s1).bind fun r3 =>
 (Lp r3 n2 false).bind fun r4 =>
 (Ko r4).bind fun r5 =>
 some r5.1

noncomputable def PE (x1 : Je) : Option ((List Int)) :=
 bif (x1.Op == 15) then
  bif (x1.Op == 15) then
   some ([x1.B] : List Int)
  else
   some ([] : List Int)
 else
  bif (x1.Op == 17) then
   some ([x1.B] : List Int)
  else
   some ([] : List Int)

noncomputable def Qs (l1 : (List Int)) : Option ((List Int)) :=
 (KX l1).bind fun r2 =>
 (Ko r2).bind fun r3 =>
 some r3.1

noncomputable def Ot (x1 : Int) (y2 : Int) : Option (Int) :=
 some (IntKind.u64.wrap ((BitVec.ofInt IntKind.u64.bits x1 ||| BitVec.ofInt IntKind.u64.bits y2).toNat))

noncomputable def KA (s1 : Jf) (t2 : Jf) (x3 : Jf) (x4 : Int) : Option ((Jf × Int) ⊕ (Jf × Jf × Jf)) :=
 bif (decide (x4 < 8)) then
  chk (0 ≤ x4 ∧ x4 < 8) <|
  ((s1.toList)[x4.toNat]?).bind fun s_e5 =>
  chk (0 ≤ x4 ∧ x4 < 8) <|
  ((t2.toList)[x4.toNat]?).bind fun t_e6 =>
  (Ot s_e5 t_e6).bind fun r7 =>
  chk (0 ≤ x4 ∧ x4 < 8) <|
  ((x3.toList)[x4.toNat]?).bind fun _ =>
  cnt ((x3.set x4.toNat r7),IntKind.i64.wrap (x4 + 1))
 else
  lft (some (x3,s1,t2))
noncomputable def Kr (s1 : Jf) (t2 : Jf) : Option (Jf × Jf × Jf) :=
 JL (fun s=>KA s1 t2 s.1 s.2) ((Jf.mk 0 0 0 0 0 0 0 0),0)

noncomputable def Mw (a1 : (List Int)) (b2 : (List Int)) : Option ((List Int)) :=
 (KX a1).bind fun r3 =>
 (KX b2).bind fun r4 =>
 (Kr r3 r4).bind fun r5 =>
 (Ko r5.1).bind fun r6 =>
 some r6.1

noncomputable def Ug (x1 : Je) (out2 : (List Int)) : Option ((List Int)) :=
 (Ml x1).bind fun r3 =>
 bif r3.2 then
  (NV out2 r3.1).bind fun r4 =>
  (PE x1).bind fun r5 =>
  (Qs r5).bind fun r6 =>
  (Mw r4 r6).bind fun r7 =>
  some r7
 else
  (PE x1).bind fun r8 =>
  (Qs r8).bind fun r9 =>
  (Mw out2 r9).bind fun r10 =>
  some r10

noncomputable def Oq (x1 : Int) (y2 : Int) : Option (Int) :=
 some (IntKind.u64.wrap ((BitVec.ofInt IntKind.u64.bits x1 &&& ~~~ BitVec.ofInt IntKind.u64.bits y2).toNat))

noncomputable def Kz (s1 : Jf) (t2 : Jf) (x3 : Jf) (x4 : Int) : Option ((Jf × Int) ⊕ (Jf × Jf × Jf)) :=
 bif (decide (x4 < 8)) then
  chk (0 ≤ x4 ∧ x4 < 8) <|
  ((s1.toList)[x4.toNat]?).bind fun s_e5 =>
  chk (0 ≤ x4 ∧ x4 < 8) <|
  ((t2.toList)[x4.toNat]?).bind fun t_e6 =>
  (Oq s_e5 t_e6).bind fun r7 =>
  chk (0 ≤ x4 ∧ x4 < 8) <|
  ((x3.toList)[x4.toNat]?).bind fun _ =>
  cnt ((x3.set x4.toNat r7),IntKind.i64.wrap (x4 + 1))
 else
  lft (some (x3,s1,t2))
noncomputable def Kq (s1 : Jf) (t2 : Jf) : Option (Jf × Jf × Jf) :=
 JL (fun s=>Kz s1 t2 s.1 s.2) ((Jf.mk 0 0 0 0 0 0 0 0),0)

noncomputable def Ow (a1 : (List Int)) (b2 : (List Int)) : Option ((List Int)) :=
 (KX a1).bind fun r3 =>
 (KX b2).bind fun r4 =>
 (Kq r3 r4).bind fun r5 =>
 (Ko r5.1).bind fun r6 =>
 some r6.1

noncomputable def Lh (need1 : (List Int)) (cap2 : (List Int)) (cap3 : Jp) (cap4 : Int) : Option (Bool × (List Int)) :=
 (ixO cap3.Out cap4).bind fun x_x5 =>
 (Ow need1 x_x5).bind fun r6 =>
 (Mw cap2 r6).bind fun r7 =>
 some (true,r7)

noncomputable def JT (r7 : (List Int)) (f1 : Jh) (set3 : Jp) (visit5 : Jp) (visit6 : Int) (x8 : List Int) (x9 : Int) : Option (((List Int) × Int) ⊕ (Bool × (List Int))) :=
 bif (decide (x9 < (r7.length : Int))) then
  chk (0 ≤ x9 ∧ x9 < r7.length) <|
  ((r7)[x9.toNat]?).bind fun x_e10 =>
  (ixO f1.Code x_e10).bind fun x_x11 =>
  (MW x_e10 set3).bind fun r12 =>
  (Ug x_x11 r12).bind fun r13 =>
  (Lh r13 x8 visit5 visit6).bind fun r14 =>
  bif (!r14.1) then
   lft (some (false,r14.2))
  else
   cnt (r14.2,IntKind.i64.wrap (x9 + 1))
 else
  lft (some (true,x8))
noncomputable def Ka (f1 : Jh) (k2 : Int) (set3 : Jp) (visit4 : (List Int)) (visit5 : Jp) (visit6 : Int) : Option (Bool × (List Int)) :=
 (Uh f1 k2).bind fun r7 =>
 JL (fun s=>JT r7 f1 set3 visit5 visit6 s.1 s.2) (visit4,0)

noncomputable def Pq (f1 : Jh) (l2 : Jp) (x4 : Int) : Option ((Int) ⊕ (Int × Int × Bool)) :=
 bif (decide (x4 < (f1.Code.length : Int))) then
  (Qh l2).bind fun r5 =>
  (Ka f1 x4 r5 ([]) l2 x4).bind fun r6 =>
  bif (decide ((r6.2.length : Int) > 0)) then
   (ixO r6.2 0).bind fun x_x7 =>
   lft (some (x4,x_x7,true))
  else
   cnt (IntKind.i64.wrap (x4 + 1))
 else
  lft (some (0,0,false))
noncomputable def NN (f1 : Jh) (l2 : Jp) : Option (Int × Int × Bool) :=
 (Ma f1 l2).bind fun r3 =>
 bif (!r3) then
  some (0,0,false)
 else
  JL (fun s=>Pq f1 l2 s) 0

noncomputable def MC (f1 : Jh) (l2 : Jp) : Option (Int) :=
 (Ma f1 l2).bind fun r3 =>
 bif (!r3) then
  some 11
 else
  (NN f1 l2).bind fun r4 =>
  bif r4.2.2 then
   some 11
  else
   some 0

noncomputable def MH (x1 : Je) (y2 : Int) : Option (Bool) :=
 bif (x1.Op == 17) then
  some (x1.B == y2)
 else
  some false

noncomputable def MB (x_x4 : (List Bool)) (x3 : Int) (out5 : List (List Int)) (x6 : Int) : Option (((List (List Int)) × Int) ⊕ (((List (List Int)) × Int) ⊕ ((List (List Int))))) :=
 bif (decide (x6 < (x_x4.length : Int))) then
  (ixO x_x4 x6).bind fun x_x7 =>
  bif x_x7 then
   chk (0 ≤ x3 ∧ x3 < out5.length) <|
   ((out5)[x3.toNat]?).bind fun out_e8 =>
   chk (out_e8.length + ([x6] : List Int).length ≤ 16777216) <|
   chk (0 ≤ x3 ∧ x3 < out5.length) <|
   cnt (out5.set x3.toNat (out_e8 ++ ([x6] : List Int)),IntKind.i64.wrap (x6 + 1))
  else
   cnt (out5,IntKind.i64.wrap (x6 + 1))
 else
  lft (cnt (out5,IntKind.i64.wrap (x3 + 1)))
noncomputable def MA (m1 : (List (List Bool))) (out2 : List (List Int)) (x3 : Int) : Option (((List (List Int)) × Int) ⊕ ((List (List Int)))) :=
 bif (decide (x3 < (m1.length : Int))) then
  (ixO m1 x3).bind fun x_x4 =>
  JL (fun s=>MB x_x4 x3 s.1 s.2) (out2,0)
 else
  lft (some out2)
noncomputable def KJ (m1 : (List (List Bool))) : Option ((List (List Int))) :=
 chk (0 ≤ (m1.length : Int) ∧ (m1.length : Int) ≤ 16777216) <|
 JL (fun s=>MA m1 s.1 s.2) (List.replicate (m1.length : Int).toNat ([] : (List Int)),0)

noncomputable def JZ (x15 : List (List Bool)) (r11 : Int × Bool) (x_x17 : Int) (x16 : Int) (x18 : Bool) : Option (((List (List Bool)) × Int) ⊕ (((List (List Bool)) × Int) ⊕ ((List (List Int)) × Int))) :=
 bif x18 then
  ((x15)[r11.1.toNat]?).bind fun row20 =>
  ((x15)[x_x17.toNat]?).bind fun row21 =>
  chk (r11.1.toNat ≠ x_x17.toNat) <|
  chk (0 ≤ r11.1 ∧ r11.1 < x15.length) <|
  chk (0 ≤ x_x17 ∧ x_x17 < x15.length) <|
  chk (0 ≤ x_x17 ∧ x_x17 < row20.length) <|
  ((row20)[x_x17.toNat]?).bind fun _ =>
  chk (0 ≤ r11.1 ∧ r11.1 < row21.length) <|
  ((row21)[r11.1.toNat]?).bind fun _ =>
  cnt ((x15.set r11.1.toNat (row20.set x_x17.toNat true)).set x_x17.toNat (row21.set r11.1.toNat true),IntKind.i64.wrap (x16 + 1))
 else
  cnt (x15,IntKind.i64.wrap (x16 + 1))
noncomputable def LW (x_x14 : (List Int)) (r11 : Int × Bool) (x_x10 : Je) (x9 : Int) (x15 : List (List Bool)) (x16 : Int) : Option (((List (List Bool)) × Int) ⊕ (((List (List Bool)) × Int) ⊕ ((List (List Int)) × Int))) :=
 bif (decide (x16 < (x_x14.length : Int))) then
  (ixO x_x14 x16).bind fun x_x17 =>
  bif (x_x17 != r11.1) then
   (MH x_x10 x_x17).bind fun r19 =>
   JZ x15 r11 x_x17 x16 (!r19)
  else
   JZ x15 r11 x_x17 x16 false
 else
  lft (cnt (x15,IntKind.i64.wrap (x9 + 1)))
noncomputable def Ky (l2 : Jp) (x9 : Int) (r11 : Int × Bool) (x_x10 : Je) (x8 : List (List Bool)) (x12 : Bool) (x13 : Bool) : Option (((List (List Bool)) × Int) ⊕ ((List (List Int)) × Int)) :=
 (ixO l2.Out x9).bind fun x_x14 =>
 JL (fun s=>LW x_x14 r11 x_x10 x9 s.1 s.2) (x8,0)
noncomputable def LV (f1 : Jh) (l2 : Jp) (x8 : List (List Bool)) (x9 : Int) : Option (((List (List Bool)) × Int) ⊕ ((List (List Int)) × Int)) :=
 bif (decide (x9 < (f1.Code.length : Int))) then
  (ixO f1.Code x9).bind fun x_x10 =>
  (Ml x_x10).bind fun r11 =>
  bif (!r11.2) then
   cnt (x8,IntKind.i64.wrap (x9 + 1))
  else
   bif (x_x10.Op == 17) then
    bif (x_x10.A == x_x10.B) then
     cnt (x8,IntKind.i64.wrap (x9 + 1))
    else
     Ky l2 x9 r11 x_x10 x8 true (x_x10.A == x_x10.B)
   else
    Ky l2 x9 r11 x_x10 x8 false false
 else
  lft (
   (KJ x8).bind fun r24 =>
   some (r24,0))
noncomputable def KY (f1 : Jh) (l2 : Jp) (x4 : List (List Bool)) : Option ((List (List Int)) × Int) :=
 JL (fun s=>LV f1 l2 s.1 s.2) (x4,0)
noncomputable def LU (f1 : Jh) (l2 : Jp) (m5 : List (List Bool)) (x6 : Int) : Option (((List (List Bool)) × Int) ⊕ ((List (List Int)) × Int)) :=
 bif (decide (x6 < ((List.replicate (f1.Slots.length : Int).toNat ([] : (List Bool))).length : Int))) then
  chk (0 ≤ (f1.Slots.length : Int) ∧ (f1.Slots.length : Int) ≤ 16777216) <|
  chk (0 ≤ x6 ∧ x6 < m5.length) <|
  ((m5)[x6.toNat]?).bind fun _ =>
  cnt (m5.set x6.toNat (List.replicate (f1.Slots.length : Int).toNat false),IntKind.i64.wrap (x6 + 1))
 else
  lft (KY f1 l2 m5)
noncomputable def LF (f1 : Jh) (l2 : Jp) : Option ((List (List Int)) × Int) :=
 (MC f1 l2).bind fun r3 =>
 bif (r3 != 0) then
  some (([] : List (List Int)),r3)
 else
  chk (0 ≤ (f1.Slots.length : Int) ∧ (f1.Slots.length : Int) ≤ 16777216) <|
  JL (fun s=>LU f1 l2 s.1 s.2) (List.replicate (f1.Slots.length : Int).toNat ([] : (List Bool)),0)

noncomputable def Mz (f1 : Jh) (l2 : Jp) : Option ((List (List Int)) × Int) :=
 (LF f1 l2).bind fun r3 =>
 some (r3.1,r3.2)

noncomputable def Nu (p1 : Je) (p2 : Int) : Option (Bool) :=
 some false

noncomputable def JU (x15 : List (List Bool)) (r11 : Int × Bool) (x_x17 : Int) (x16 : Int) (x18 : Bool) : Option (((List (List Bool)) × Int) ⊕ (((List (List Bool)) × Int) ⊕ ((List (List Int)) × Int))) :=
 bif x18 then
  ((x15)[r11.1.toNat]?).bind fun row20 =>
  ((x15)[x_x17.toNat]?).bind fun row21 =>
  chk (r11.1.toNat ≠ x_x17.toNat) <|
  chk (0 ≤ r11.1 ∧ r11.1 < x15.length) <|
  chk (0 ≤ x_x17 ∧ x_x17 < x15.length) <|
  chk (0 ≤ x_x17 ∧ x_x17 < row20.length) <|
  ((row20)[x_x17.toNat]?).bind fun _ =>
  chk (0 ≤ r11.1 ∧ r11.1 < row21.length) <|
  ((row21)[r11.1.toNat]?).bind fun _ =>
  cnt ((x15.set r11.1.toNat (row20.set x_x17.toNat true)).set x_x17.toNat (row21.set r11.1.toNat true),IntKind.i64.wrap (x16 + 1))
 else
  cnt (x15,IntKind.i64.wrap (x16 + 1))
noncomputable def LK (x_x14 : (List Int)) (r11 : Int × Bool) (x_x10 : Je) (x9 : Int) (x15 : List (List Bool)) (x16 : Int) : Option (((List (List Bool)) × Int) ⊕ (((List (List Bool)) × Int) ⊕ ((List (List Int)) × Int))) :=
 bif (decide (x16 < (x_x14.length : Int))) then
  (ixO x_x14 x16).bind fun x_x17 =>
  bif (x_x17 != r11.1) then
   (Nu x_x10 x_x17).bind fun r19 =>
   JU x15 r11 x_x17 x16 (!r19)
  else
   JU x15 r11 x_x17 x16 false
 else
  lft (cnt (x15,IntKind.i64.wrap (x9 + 1)))
noncomputable def Ks (l2 : Jp) (x9 : Int) (r11 : Int × Bool) (x_x10 : Je) (x8 : List (List Bool)) (x12 : Bool) (x13 : Bool) : Option (((List (List Bool)) × Int) ⊕ ((List (List Int)) × Int)) :=
 (ixO l2.Out x9).bind fun x_x14 =>
 JL (fun s=>LK x_x14 r11 x_x10 x9 s.1 s.2) (x8,0)
noncomputable def LJ (f1 : Jh) (l2 : Jp) (x8 : List (List Bool)) (x9 : Int) : Option (((List (List Bool)) × Int) ⊕ ((List (List Int)) × Int)) :=
 bif (decide (x9 < (f1.Code.length : Int))) then
  (ixO f1.Code x9).bind fun x_x10 =>
  (Ml x_x10).bind fun r11 =>
  bif (!r11.2) then
   cnt (x8,IntKind.i64.wrap (x9 + 1))
  else
   bif (x_x10.Op == 17) then
    bif (x_x10.A == x_x10.B) then
     cnt (x8,IntKind.i64.wrap (x9 + 1))
    else
     Ks l2 x9 r11 x_x10 x8 true (x_x10.A == x_x10.B)
   else
    Ks l2 x9 r11 x_x10 x8 false false
 else
  lft (
   (KJ x8).bind fun r24 =>
   some (r24,0))
noncomputable def KQ (f1 : Jh) (l2 : Jp) (x4 : List (List Bool)) : Option ((List (List Int)) × Int) :=
 JL (fun s=>LJ f1 l2 s.1 s.2) (x4,0)
noncomputable def LI (f1 : Jh) (l2 : Jp) (m5 : List (List Bool)) (x6 : Int) : Option (((List (List Bool)) × Int) ⊕ ((List (List Int)) × Int)) :=
 bif (decide (x6 < ((List.replicate (f1.Slots.length : Int).toNat ([] : (List Bool))).length : Int))) then
  chk (0 ≤ (f1.Slots.length : Int) ∧ (f1.Slots.length : Int) ≤ 16777216) <|
  chk (0 ≤ x6 ∧ x6 < m5.length) <|
  ((m5)[x6.toNat]?).bind fun _ =>
  cnt (m5.set x6.toNat (List.replicate (f1.Slots.length : Int).toNat false),IntKind.i64.wrap (x6 + 1))
 else
  lft (KQ f1 l2 m5)
noncomputable def Lr (f1 : Jh) (l2 : Jp) : Option ((List (List Int)) × Int) :=
 (MC f1 l2).bind fun r3 =>
 bif (r3 != 0) then
  some (([] : List (List Int)),r3)
 else
  chk (0 ≤ (f1.Slots.length : Int) ∧ (f1.Slots.length : Int) ≤ 16777216) <|
  JL (fun s=>LI f1 l2 s.1 s.2) (List.replicate (f1.Slots.length : Int).toNat ([] : (List Bool)),0)

noncomputable def Nc (f1 : Jh) (l2 : Jp) : Option ((List (List Int)) × Int) :=
 (Lr f1 l2).bind fun r3 =>
 some (r3.1,r3.2)

noncomputable def KU (s1 : (List Int)) (v2 : Int) (x3 : Int) : Option ((Int) ⊕ (Int)) :=
 bif (decide (x3 < (s1.length : Int))) then
  (ixO s1 x3).bind fun x_x4 =>
  bif (v2 == x_x4) then
   lft (some x3)
  else
   cnt (IntKind.i64.wrap (x3 + 1))
 else
  lft (some (-1))
noncomputable def LD (s1 : (List Int)) (v2 : Int) : Option (Int) :=
 JL (fun s=>KU s1 v2 s) 0

noncomputable def Kx (s1 : (List Int)) (v2 : Int) : Option (Bool) :=
 (LD s1 v2).bind fun r3 =>
 some (decide (r3 ≥ 0))

noncomputable def OZ (x1 : Int) : Option (Bool) :=
 some (x1 != x1)

noncomputable def Qa (x1 : Int) (y2 : Int) : Option (Bool) :=
 (OZ x1).bind fun r3 =>
 bif r3 then
  (OZ y2).bind fun r4 =>
  bif (!r4) then
   some true
  else
   some (decide (x1 < y2))
 else
  some (decide (x1 < y2))

noncomputable def Nk (x1 : Int) : Option (Bool) :=
 some (x1 != x1)

noncomputable def Kh (x1 : (List Int)) (target2 : Int) (i3 : Int) : Option (Int × Bool) :=
 bif (decide (i3 < (x1.length : Int))) then
  (ixO x1 i3).bind fun x_x8 =>
  bif (x_x8 == target2) then
   some (i3,true)
  else
   (ixO x1 i3).bind fun x_x9 =>
   (Nk x_x9).bind fun r10 =>
   bif r10 then
    (Nk target2).bind fun r11 =>
    some (i3,r11)
   else
    some (i3,false)
 else
  some (i3,false)
noncomputable def JM (x1 : (List Int)) (target2 : Int) (i4 : Int) (j5 : Int) : Option ((Int × Int) ⊕ (Int × Bool)) :=
 bif (decide (i4 < j5)) then
  (ixO x1 (IntKind.i64.wrap ((IntKind.u64.wrap (IntKind.i64.wrap (i4 + j5))).fdiv (2 ^ (Nat.min (1 : Int).toNat IntKind.u64.bits))))).bind fun x_x6 =>
  (Qa x_x6 target2).bind fun r7 =>
  bif r7 then
   cnt (IntKind.i64.wrap ((IntKind.i64.wrap ((IntKind.u64.wrap (IntKind.i64.wrap (i4 + j5))).fdiv (2 ^ (Nat.min (1 : Int).toNat IntKind.u64.bits)))) + 1),j5)
  else
   cnt (i4,IntKind.i64.wrap ((IntKind.u64.wrap (IntKind.i64.wrap (i4 + j5))).fdiv (2 ^ (Nat.min (1 : Int).toNat IntKind.u64.bits))))
 else
  lft (Kh x1 target2 i4)
noncomputable def Kt (x1 : (List Int)) (target2 : Int) : Option (Int × Bool) :=
 JL (fun s=>JM x1 target2 s.1 s.2) (0,(x1.length : Int))

noncomputable def KP (x_x10 : (List Int)) (g1 : (List (List Int))) (x9 : Int) (x11 : Int) : Option ((Int) ⊕ ((Int) ⊕ (Bool))) :=
 bif (decide (x11 < (x_x10.length : Int))) then
  (ixO x_x10 x11).bind fun x_x12 =>
  (ixO g1 x_x12).bind fun x_x13 =>
  (Kt x_x13 x9).bind fun r14 =>
  bif (!r14.2) then
   lft (lft (some false))
  else
   cnt (IntKind.i64.wrap (x11 + 1))
 else
  lft (cnt (IntKind.i64.wrap (x9 + 1)))
noncomputable def KO (g1 : (List (List Int))) (x9 : Int) : Option ((Int) ⊕ (Bool)) :=
 bif (decide (x9 < (g1.length : Int))) then
  (ixO g1 x9).bind fun x_x10 =>
  JL (fun s=>KP x_x10 g1 x9 s) 0
 else
  lft (some true)
noncomputable def JP (g1 : (List (List Int))) (n2 : Int) (x3 : Int) : Option ((Int) ⊕ (Bool)) :=
 bif (decide (x3 < (g1.length : Int))) then
  (ixO g1 x3).bind fun x_x4 =>
  (Ov x_x4).bind fun r5 =>
  bif (!r5) then
   lft (some false)
  else
   bif (decide ((x_x4.length : Int) > 0)) then
    (ixO x_x4 (IntKind.i64.wrap ((x_x4.length : Int) - 1))).bind fun x_x6 =>
    bif (decide (x_x6 ≥ n2)) then
     lft (some false)
    else
     (Kx x_x4 x3).bind fun r7 =>
     bif r7 then
      lft (some false)
     else
      cnt (IntKind.i64.wrap (x3 + 1))
   else
    (Kx x_x4 x3).bind fun r8 =>
    bif r8 then
     lft (some false)
    else
     cnt (IntKind.i64.wrap (x3 + 1))
 else
  lft (JL (fun s=>KO g1 s) 0)
noncomputable def Le (g1 : (List (List Int))) (n2 : Int) : Option (Bool) :=
 bif ((g1.length : Int) != n2) then
  some false
 else
  JL (fun s=>JP g1 n2 s) 0

noncomputable def Qj (s1 : (List Int)) (n2 : Int) (i3 : Int) : Option ((Int) ⊕ (Bool)) :=
 bif (decide (i3 < (s1.length : Int))) then
  (ixO s1 i3).bind fun x_x4 =>
  bif (x_x4 == n2) then
   lft (some true)
  else
   cnt (IntKind.i64.wrap (i3 + 1))
 else
  lft (some false)
noncomputable def Um (s1 : (List Int)) (n2 : Int) : Option (Bool) :=
 JL (fun s=>Qj s1 n2 s) 0

noncomputable def Nh (a1 : (List Int)) (b2 : (List Int)) (out3 : List Int) (i4 : Int) : Option (((List Int) × Int) ⊕ ((List Int))) :=
 bif (decide (i4 < (a1.length : Int))) then
  (ixO a1 i4).bind fun x_x5 =>
  (Um b2 x_x5).bind fun r6 =>
  bif (!r6) then
   (ixO a1 i4).bind fun x_x7 =>
   chk (out3.length + ([x_x7] : List Int).length ≤ 16777216) <|
   cnt (out3 ++ ([x_x7] : List Int),IntKind.i64.wrap (i4 + 1))
  else
   cnt (out3,IntKind.i64.wrap (i4 + 1))
 else
  lft (some out3)
noncomputable def Rg (a1 : (List Int)) (b2 : (List Int)) : Option ((List Int)) :=
 JL (fun s=>Nh a1 b2 s.1 s.2) (([] : List Int),0)

noncomputable def OA (a1 : (List Int)) (b2 : (List Int)) : Option (Bool) :=
 (Rg a1 b2).bind fun r3 =>
 some ((r3.length : Int) == 0)

noncomputable def LA (r3 : Jh × Jp × Jd) (r6 : (List (List Int)) × Int) (r7 : (List (List Int)) × Int) (r8 : (List (List Int)) × Int) (x12 : Int) : Option ((Int) ⊕ (Bool)) :=
 bif (decide (x12 < (r3.1.Slots.length : Int))) then
  (ixO r6.1 x12).bind fun x_x13 =>
  (ixO r7.1 x12).bind fun x_x14 =>
  (OA x_x13 x_x14).bind fun r15 =>
  bif (!r15) then
   lft (some false)
  else
   (ixO r6.1 x12).bind fun x_x16 =>
   (ixO r8.1 x12).bind fun x_x17 =>
   (OA x_x16 x_x17).bind fun r18 =>
   bif (!r18) then
    lft (some false)
   else
    cnt (IntKind.i64.wrap (x12 + 1))
 else
  lft (some true)
noncomputable def LB (r3 : Jh × Jp × Jd) (r6 : (List (List Int)) × Int) (r7 : (List (List Int)) × Int) (r8 : (List (List Int)) × Int) : Option (Bool) :=
 JL (fun s=>LA r3 r6 r7 r8 s) 0
noncomputable def KF (codes1 : (List Int)) : Option (Bool) :=
 (Re).bind fun r2 =>
 bif (!r2) then
  some false
 else
  (Rf codes1).bind fun r3 =>
  (Oo r3.1).bind fun r4 =>
  (Na r3.2.2 r3.1).bind fun r5 =>
  (Mz r3.1 r4).bind fun r6 =>
  (Mz r3.1 r5.1).bind fun r7 =>
  (Nc r3.1 r4).bind fun r8 =>
  bif (r6.2 != 0) then
   some false
  else
   bif (r7.2 != 0) then
    some false
   else
    bif (r8.2 != 0) then
     some false
    else
     (Le r6.1 (r3.1.Slots.length : Int)).bind fun r9 =>
     bif (!r9) then
      some false
     else
      (Le r7.1 (r3.1.Slots.length : Int)).bind fun r10 =>
      bif (!r10) then
       some false
      else
       (Le r8.1 (r3.1.Slots.length : Int)).bind fun r11 =>
       bif (!r11) then
        some false
       else
        bif ((r6.1.length : Int) != (r3.1.Slots.length : Int)) then
         some false
        else
         bif ((r7.1.length : Int) != (r3.1.Slots.length : Int)) then
          some false
         else
          bif ((r8.1.length : Int) != (r3.1.Slots.length : Int)) then
           some false
          else
           LB r3 r6 r7 r8

end Go.Proofs.YtfpgidpffhmadaaDoor
