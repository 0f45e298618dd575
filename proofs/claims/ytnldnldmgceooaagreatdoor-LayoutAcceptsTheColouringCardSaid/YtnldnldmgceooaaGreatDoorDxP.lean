/-
 The programs on typed data; written by a program (dx.py).
-/
import Derived.Test.YtnldnldmgceooaaGreatDoorDxT
namespace Go.Proofs.YtnldnldmgceooaaGreatDoor
open Go Go.Dw Go.Proofs
set_option maxRecDepth 100000
set_option maxHeartbeats 4000000
noncomputable def Abd (x_x3 : OX) (p1 : Pj) (x4 : Int) (n5 : Int) : Option ((Int × Int) ⊕ (Int)) :=
 bif (decide (x4 < (x_x3.Code.length : Int))) then
  (ixO x_x3.Code x4).bind fun x_x6 =>
  bif (x_x6.Op == 18) then
   cnt (IntKind.i64.wrap (x4 + 1),RH n5 (IntKind.i64.wrap (x_x6.A + 1)))
  else
   bif (x_x6.Op == 22) then
    (ixO p1.Funcs x_x6.A).bind fun x_x7 =>
    cnt (IntKind.i64.wrap (x4 + 1),RH n5 x_x7.Params)
   else
    cnt (IntKind.i64.wrap (x4 + 1),n5)
 else
  lft (some (IntKind.i64.wrap (16 * n5)))
noncomputable def Yw (p1 : Pj) (i2 : Int) : Option (Int) :=
 (ixO p1.Funcs i2).bind fun x_x3 =>
 Pq (fun s=>Abd x_x3 p1 s.1 s.2) (0,0)

noncomputable def Tx (n1 : Int) : Option (Bool) :=
 bif (decide (n1 ≥ 0)) then
  some (decide (n1 ≤ 2147483647))
 else
  some false

noncomputable def Yp (n1 : Int) : Option (Bool) :=
 bif (decide (n1 ≥ 1)) then
  bif (decide (n1 ≤ 16777216)) then
   some ((IntKind.i64.wrap ((BitVec.ofInt IntKind.i64.bits n1 &&& BitVec.ofInt IntKind.i64.bits (IntKind.i64.wrap (n1 - 1))).toNat)) == 0)
  else
   some false
 else
  some false

noncomputable def Adv (n1 : Int) (align2 : Int) : Option (Int) :=
 some (IntKind.i64.wrap ((BitVec.ofInt IntKind.i64.bits (IntKind.i64.wrap ((IntKind.i64.wrap (n1 + align2)) - 1)) &&& ~~~ BitVec.ofInt IntKind.i64.bits (IntKind.i64.wrap (align2 - 1))).toNat))

noncomputable def Us (n1 : Int) : Option (Int × Int) :=
 bif (decide (n1 > 2147483647)) then
  some (0,9)
 else
  some (n1,0)

noncomputable def AaV (n1 : Int) (align2 : Int) : Option (Int × Int) :=
 (Adv n1 align2).bind fun r5 =>
 (Us r5).bind fun r6 =>
 some (r6.1,r6.2)
noncomputable def AaG (n1 : Int) (align2 : Int) : Option (Int × Int) :=
 (Tx n1).bind fun r3 =>
 bif (!r3) then
  some (0,4)
 else
  (Yp align2).bind fun r4 =>
  bif (!r4) then
   some (0,4)
  else
   AaV n1 align2

noncomputable def Aae (x1 : Int) (y2 : Int) : Option (Int × Int) :=
 (Us (IntKind.i64.wrap (x1 + y2))).bind fun r5 =>
 some (r5.1,r5.2)
noncomputable def YP (x1 : Int) (y2 : Int) : Option (Int × Int) :=
 (Tx x1).bind fun r3 =>
 bif (!r3) then
  some (0,4)
 else
  (Tx y2).bind fun r4 =>
  bif (!r4) then
   some (0,4)
  else
   Aae x1 y2

noncomputable def Xt (y1 : Pg) (r4 : Int × Int) (e5 : Int) : Option (Pg × Int) :=
 bif (e5 != 0) then
  some ((Pg.mk 0 0 ([])),9)
 else
  some ((Pg.mk y1.Args r4.1 y1.Off),0)
noncomputable def AcF (y1 : Pg) (end2 : Int) (align3 : Int) : Option (Pg × Int) :=
 (AaG end2 align3).bind fun r4 =>
 bif (r4.2 == 0) then
  (YP r4.1 128).bind fun r6 =>
  Xt y1 r4 r6.2
 else
  Xt y1 r4 r4.2

noncomputable def UG (x6 : List Int) (r10 : Int × Int) (x7 : Int) (e11 : Int) (end12 : Int) : Option (((List Int) × Int × Int) ⊕ (Pg × Int)) :=
 bif (e11 != 0) then
  lft (some ((Pg.mk 0 0 ([])),9))
 else
  chk (x6.length + ([r10.1] : List Int).length ≤ 16777216) <|
  cnt (x6 ++ ([r10.1] : List Int),IntKind.i64.wrap (x7 + 1),end12)
noncomputable def WU (x_x5 : OX) (r4 : Int) (align3 : Int) (x6 : List Int) (x7 : Int) (end8 : Int) : Option (((List Int) × Int × Int) ⊕ (Pg × Int)) :=
 bif (decide (x7 < (x_x5.Slots.length : Int))) then
  (ixO x_x5.Slots x7).bind fun x_x9 =>
  (AaG end8 x_x9.Align).bind fun r10 =>
  bif (r10.2 == 0) then
   (YP r10.1 x_x9.Size).bind fun r13 =>
   UG x6 r10 x7 r13.2 r13.1
  else
   UG x6 r10 x7 r10.2 end8
 else
  lft (
   (AcF (Pg.mk r4 0 x6) end8 align3).bind fun r14 =>
   some (r14.1,r14.2))
noncomputable def UZ (p1 : Pj) (i2 : Int) (align3 : Int) : Option (Pg × Int) :=
 (Yw p1 i2).bind fun r4 =>
 (ixO p1.Funcs i2).bind fun x_x5 =>
 Pq (fun s=>WU x_x5 r4 align3 s.1 s.2.1 s.2.2) (([] : List Int),0,r4)

noncomputable def PZ (s1 : Pp) (x2 : Int) : Option (Pe) :=
 (ixO s1.y.Off x2).bind fun x_x3 =>
 (ixO s1.f.Slots x2).bind fun x_x4 =>
 some (Pe.mk x_x3 x_x4.Size)

noncomputable def UB (a1 : Pe) : Option (Bool) :=
 (Tx a1.Off).bind fun r2 =>
 bif r2 then
  (Tx a1.Size).bind fun r3 =>
  bif r3 then
   some (decide ((IntKind.i64.wrap (a1.Off + a1.Size)) ≤ 2147483647))
  else
   some false
 else
  some false

noncomputable def Xq (a1 : Pe) (size2 : Int) : Option (Bool) :=
 (UB a1).bind fun r3 =>
 bif r3 then
  some (decide ((IntKind.i64.wrap (a1.Off + a1.Size)) ≤ size2))
 else
  some false

noncomputable def RZ (s1 : Pp) (x2 : Int) : Option (Bool) :=
 (ixO s1.y.Off x2).bind fun x_x3 =>
 bif (decide (x_x3 ≥ s1.y.Args)) then
  (ixO s1.f.Slots x2).bind fun x_x4 =>
  chk (x_x4.Align ≠ 0) <|
  bif ((x_x3.tmod x_x4.Align) == 0) then
   (PZ s1 x2).bind fun r5 =>
   (Xq r5 s1.y.Size).bind fun r6 =>
   some r6
  else
   some false
 else
  some false

noncomputable def SO (s1 : Pp) (r2 : Pg × Int) (x4 : Int) : Option ((Int) ⊕ (Int)) :=
 bif (decide (x4 < (s1.f.Slots.length : Int))) then
  (RZ s1 x4).bind fun r5 =>
  bif (!r5) then
   lft (some 13)
  else
   cnt (IntKind.i64.wrap (x4 + 1))
 else
  lft (
   chk (s1.align ≠ 0) <|
   bif ((s1.y.Size.tmod s1.align) != 0) then
    some 13
   else
    bif (decide (s1.y.Size < s1.y.Args)) then
     some 13
    else
     bif (decide (s1.y.Size > r2.1.Size)) then
      some 13
     else
      some 0)
noncomputable def SP (s1 : Pp) (r2 : Pg × Int) : Option (Int) :=
 Pq (fun s=>SO s1 r2 s) 0
noncomputable def Ry (s1 : Pp) : Option (Int) :=
 (UZ s1.p s1.i s1.align).bind fun r2 =>
 bif (r2.2 != 0) then
  some r2.2
 else
  (Yw s1.p s1.i).bind fun r3 =>
  bif (s1.y.Args != r3) then
   some 13
  else
   bif ((s1.y.Off.length : Int) != (s1.f.Slots.length : Int)) then
    some 13
   else
    SP s1 r2

noncomputable def Wq (p1 : Pj) (i2 : Int) (align3 : Int) (y4 : Pg) : Option (Int) :=
 (ixO p1.Funcs i2).bind fun x_x5 =>
 (Ry (Pp.mk p1 i2 align3 x_x5 y4)).bind fun r6 =>
 some r6

noncomputable def ZO  : Option (Bool) :=
 (Wq (Pj.mk ([(OX.mk 0 ([]) ([(OZ.mk 23 0 0 0 0)] : List OZ))] : List OX)) 0 16 (Pg.mk 0 0 ([]))).bind fun r1 =>
 bif (r1 == 0) then
  (Wq (Pj.mk ([(OX.mk 0 ([]) ([(OZ.mk 23 0 0 0 0)] : List OZ))] : List OX)) 0 16 (Pg.mk 0 16 ([]))).bind fun r2 =>
  some (r2 == 13)
 else
  some false

noncomputable def AcP (list1 : (List Int)) (limit2 : Int) : Option (Mk) :=
 chk (0 ≤ (Sm (list1.length : Int) limit2) ∧ (Sm (list1.length : Int) limit2) ≤ list1.length) <|
 some (Mk.mk (list1.take (Sm (list1.length : Int) limit2).toNat) 0)

noncomputable def XP (c1 : Mk) : Option (Bool × Mk) :=
 some ((decide (c1.at_ < (c1.list.length : Int))),c1)

noncomputable def Vm (n2 : Int) (c3 : List Int) (c4 : Int) : Option (Int × Mk) :=
 (ixO c3 c4).bind fun x_x6 =>
 some (IntKind.i64.wrap ((IntKind.i64.wrap ((IntKind.i64.wrap (x_x6)) * n2)).tdiv 256),(Mk.mk c3 (IntKind.i64.wrap (c4 + 1))))
noncomputable def Pc (c1 : Mk) (n2 : Int) : Option (Int × Mk) :=
 (XP c1).bind fun r5 =>
 bif (!r5.1) then
  some (0,r5.2)
 else
  bif (decide (n2 < 1)) then
   some (0,r5.2)
  else
   Vm n2 r5.2.list r5.2.at_

noncomputable def Vn (c1 : Mk) : Option (Pm × Mk) :=
 (Pc c1 7).bind fun r2 =>
 chk (0 ≤ r2.1 ∧ r2.1 < ([8,4,8,1,2,16,8] : List Int).length) <|
 ((([8,4,8,1,2,16,8] : List Int))[r2.1.toNat]?).bind fun x_e3 =>
 (Pc r2.2 8).bind fun r4 =>
 chk (0 ≤ r4.1 ∧ r4.1 < ([8,4,1,8,16,2,32,64] : List Int).length) <|
 ((([8,4,1,8,16,2,32,64] : List Int))[r4.1.toNat]?).bind fun x_e5 =>
 some ((Pm.mk x_e3 x_e5),r4.2)

noncomputable def UL (c4 : List Int) (c5 : Int) (l6 : List Pm) (n7 : Int) : Option (((List Int) × Int × (List Pm) × Int) ⊕ ((List Pm) × Mk)) :=
 bif (decide (n7 > 0)) then
  (Vn (Mk.mk c4 c5)).bind fun r8 =>
  chk (l6.length + ([r8.1] : List Pm).length ≤ 16777216) <|
  cnt (r8.2.list,r8.2.at_,l6 ++ ([r8.1] : List Pm),IntKind.i64.wrap (n7 - 1))
 else
  lft (some (l6,(Mk.mk c4 c5)))
noncomputable def UA (c1 : Mk) (most2 : Int) : Option ((List Pm) × Mk) :=
 (Pc c1 (IntKind.i64.wrap (most2 + 1))).bind fun r3 =>
 Pq (fun s=>UL s.1 s.2.1 s.2.2.1 s.2.2.2) (r3.2.list,r3.2.at_,([] : List Pm),r3.1)

noncomputable def Vr (f2 : OX) (s3 : Int) (c1 : Mk) (l4 : List Int) (k5 : Int) : Option (((List Int) × Int) ⊕ (Int × Mk)) :=
 bif (decide (k5 < (f2.Slots.length : Int))) then
  (ixO f2.Slots k5).bind fun x_x6 =>
  (ixO f2.Slots s3).bind fun x_x7 =>
  bif (x_x6.Size == x_x7.Size) then
   chk (l4.length + ([k5] : List Int).length ≤ 16777216) <|
   cnt (l4 ++ ([k5] : List Int),IntKind.i64.wrap (k5 + 1))
  else
   cnt (l4,IntKind.i64.wrap (k5 + 1))
 else
  lft (
   (Pc c1 (l4.length : Int)).bind fun r8 =>
   chk (0 ≤ r8.1 ∧ r8.1 < l4.length) <|
   ((l4)[r8.1.toNat]?).bind fun l_e9 =>
   some (l_e9,r8.2))
noncomputable def Vq (c1 : Mk) (f2 : OX) (s3 : Int) : Option (Int × Mk) :=
 Pq (fun s=>Vr f2 s3 c1 s.1 s.2) (([] : List Int),0)

noncomputable def TL (c1 : Mk) : Option (Int × Mk) :=
 (Pc c1 6).bind fun r2 =>
 bif (r2.1 == 0) then
  (Pc r2.2 3).bind fun r3 =>
  some (IntKind.u64.wrap (18446744073709551615 - (IntKind.u64.wrap (r3.1))),r3.2)
 else
  bif (r2.1 == 1) then
   (Pc r2.2 64).bind fun r4 =>
   chk (0 ≤ r4.1) <|
   some (IntKind.u64.wrap (1 * 2 ^ (Nat.min r4.1.toNat IntKind.u64.bits)),r4.2)
  else
   bif (r2.1 == 2) then
    some (0,r2.2)
   else
    (Pc r2.2 256).bind fun r5 =>
    some (IntKind.u64.wrap (r5.1),r5.2)

noncomputable def Vp (params4 : (List Int)) (i3 : Int) (r23 : Int × Mk) (c24 : List Int) (c25 : Int) (out26 : List OZ) (a27 : Int) : Option (((List Int) × Int × (List OZ) × Int) ⊕ ((List OZ) × Mk)) :=
 (ixO params4 (IntKind.i64.wrap ((IntKind.i64.wrap (i3 + 1)) + r23.1))).bind fun x_x28 =>
 bif (decide (a27 < x_x28)) then
  (Pc (Mk.mk c24 c25) 8).bind fun r29 =>
  bif (decide (r29.1 < 7)) then
   (Pc r29.2 4).bind fun r30 =>
   chk (out26.length + ([(OZ.mk 18 a27 r30.1 0 0)] : List OZ).length ≤ 16777216) <|
   cnt (r30.2.list,r30.2.at_,out26 ++ ([(OZ.mk 18 a27 r30.1 0 0)] : List OZ),IntKind.i64.wrap (a27 + 1))
  else
   cnt (r29.2.list,r29.2.at_,out26,IntKind.i64.wrap (a27 + 1))
 else
  lft (
   chk (out26.length + ([(OZ.mk 22 (IntKind.i64.wrap ((IntKind.i64.wrap (i3 + 1)) + r23.1)) 0 0 0)] : List OZ).length ≤ 16777216) <|
   some (out26 ++ ([(OZ.mk 22 (IntKind.i64.wrap ((IntKind.i64.wrap (i3 + 1)) + r23.1)) 0 0 0)] : List OZ),(Mk.mk c24 c25)))
noncomputable def Yo (r5 : Int × Mk) (r6 : Int × Mk) : Option ((List OZ) × Mk) :=
 some (([(OZ.mk 14 r5.1 0 0 0)] : List OZ),r6.2)
noncomputable def RY (r6 : Int × Mk) (params4 : (List Int)) (i3 : Int) (r5 : Int × Mk) (x22 : Bool) : Option ((List OZ) × Mk) :=
 bif x22 then
  (Pc r6.2 (IntKind.i64.wrap ((IntKind.i64.wrap ((params4.length : Int) - i3)) - 1))).bind fun r23 =>
  Pq (fun s=>Vp params4 i3 r23 s.1 s.2.1 s.2.2.1 s.2.2.2) (r23.2.list,r23.2.at_,([] : List OZ),0)
 else
  Yo r5 r6
noncomputable def RX (r6 : Int × Mk) (f2 : OX) (r5 : Int × Mk) (params4 : (List Int)) (i3 : Int) (x20 : Bool) : Option ((List OZ) × Mk) :=
 bif x20 then
  (Pc r6.2 f2.Params).bind fun r21 =>
  some (([(OZ.mk 19 r5.1 r21.1 0 0)] : List OZ),r21.2)
 else
  bif (decide (r6.1 ≥ 17)) then
   RY r6 params4 i3 r5 (decide ((IntKind.i64.wrap (i3 + 1)) < (params4.length : Int)))
  else
   RY r6 params4 i3 r5 false
noncomputable def RW (r6 : Int × Mk) (f2 : OX) (r5 : Int × Mk) (params4 : (List Int)) (i3 : Int) (x11 : Bool) : Option ((List OZ) × Mk) :=
 bif x11 then
  (Pc r6.2 (f2.Slots.length : Int)).bind fun r12 =>
  (Vq r12.2 f2 r12.1).bind fun r13 =>
  some (([(OZ.mk 17 r13.1 r12.1 0 0)] : List OZ),r13.2)
 else
  bif (decide (r6.1 < 11)) then
   (TL r6.2).bind fun r14 =>
   some (([(OZ.mk 0 r5.1 0 0 r14.1)] : List OZ),r14.2)
  else
   bif (decide (r6.1 < 13)) then
    (Pc r6.2 10).bind fun r15 =>
    (Pc r15.2 4).bind fun r16 =>
    (Pc r16.2 8).bind fun r17 =>
    some (([(OZ.mk (IntKind.i64.wrap (2 + r15.1)) r5.1 r16.1 r17.1 0)] : List OZ),r17.2)
   else
    bif (decide (r6.1 < 15)) then
     some (([(OZ.mk 14 r5.1 0 0 0)] : List OZ),r6.2)
    else
     bif (r6.1 == 15) then
      (Pc r6.2 3).bind fun r18 =>
      chk (0 ≤ r18.1 ∧ r18.1 < ([13,12,1] : List Int).length) <|
      ((([13,12,1] : List Int))[r18.1.toNat]?).bind fun x_e19 =>
      some (([(OZ.mk x_e19 r5.1 0 0 0)] : List OZ),r18.2)
     else
      bif (r6.1 == 16) then
       RX r6 f2 r5 params4 i3 (decide (f2.Params > 0))
      else
       RX r6 f2 r5 params4 i3 false
noncomputable def RV (r6 : Int × Mk) (f2 : OX) (r5 : Int × Mk) (params4 : (List Int)) (i3 : Int) (x9 : Bool) : Option ((List OZ) × Mk) :=
 bif x9 then
  (Pc r6.2 (f2.Slots.length : Int)).bind fun r10 =>
  some (([(OZ.mk 15 r5.1 r10.1 0 0)] : List OZ),r10.2)
 else
  bif (decide (r6.1 < 9)) then
   RW r6 f2 r5 params4 i3 (decide ((f2.Slots.length : Int) > 0))
  else
   RW r6 f2 r5 params4 i3 false
noncomputable def RU (r6 : Int × Mk) (f2 : OX) (r5 : Int × Mk) (params4 : (List Int)) (i3 : Int) (x7 : Bool) : Option ((List OZ) × Mk) :=
 bif x7 then
  (Pc r6.2 (f2.Slots.length : Int)).bind fun r8 =>
  some (([(OZ.mk 16 r8.1 r5.1 0 0)] : List OZ),r8.2)
 else
  bif (decide (r6.1 < 6)) then
   RV r6 f2 r5 params4 i3 (decide ((f2.Slots.length : Int) > 0))
  else
   RV r6 f2 r5 params4 i3 false
noncomputable def Vo (c1 : Mk) (f2 : OX) (i3 : Int) (params4 : (List Int)) : Option ((List OZ) × Mk) :=
 (Pc c1 4).bind fun r5 =>
 (Pc r5.2 20).bind fun r6 =>
 bif (decide (r6.1 < 3)) then
  RU r6 f2 r5 params4 i3 (decide ((f2.Slots.length : Int) > 0))
 else
  RU r6 f2 r5 params4 i3 false

noncomputable def RM (k32 : Int) (code31 : List OZ) (r33 : Int × Mk) (to34 : Int) (x35 : Bool) : Option (((List Int) × Int × (List OZ) × Int) ⊕ (OX × Mk)) :=
 bif x35 then
  chk (0 ≤ k32 ∧ k32 < code31.length) <|
  ((code31)[k32.toNat]?).bind fun code_o38 =>
  cnt (r33.2.list,r33.2.at_,code31.set k32.toNat (OZ.mk code_o38.Op to34 code_o38.B code_o38.C code_o38.Imm),IntKind.i64.wrap (k32 + 1))
 else
  chk (0 ≤ k32 ∧ k32 < code31.length) <|
  ((code31)[k32.toNat]?).bind fun code_e39 =>
  bif (code_e39.Op == 21) then
   chk (0 ≤ k32 ∧ k32 < code31.length) <|
   ((code31)[k32.toNat]?).bind fun code_e40 =>
   bif (decide (code_e40.B < 0)) then
    chk (0 ≤ k32 ∧ k32 < code31.length) <|
    ((code31)[k32.toNat]?).bind fun code_o41 =>
    cnt (r33.2.list,r33.2.at_,code31.set k32.toNat (OZ.mk code_o41.Op code_o41.A to34 code_o41.C code_o41.Imm),IntKind.i64.wrap (k32 + 1))
   else
    cnt (r33.2.list,r33.2.at_,code31,IntKind.i64.wrap (k32 + 1))
  else
   cnt (r33.2.list,r33.2.at_,code31,IntKind.i64.wrap (k32 + 1))
noncomputable def Qb (k32 : Int) (code31 : List OZ) (r33 : Int × Mk) (to34 : Int) : Option (((List Int) × Int × (List OZ) × Int) ⊕ (OX × Mk)) :=
 chk (0 ≤ k32 ∧ k32 < code31.length) <|
 ((code31)[k32.toNat]?).bind fun code_e36 =>
 bif (code_e36.Op == 20) then
  chk (0 ≤ k32 ∧ k32 < code31.length) <|
  ((code31)[k32.toNat]?).bind fun code_e37 =>
  RM k32 code31 r33 to34 (decide (code_e37.A < 0))
 else
  RM k32 code31 r33 to34 false
noncomputable def RL (x_x5 : Int) (f17 : List Pm) (c29 : List Int) (c30 : Int) (code31 : List OZ) (k32 : Int) : Option (((List Int) × Int × (List OZ) × Int) ⊕ (OX × Mk)) :=
 bif (decide (k32 < (code31.length : Int))) then
  (Pc (Mk.mk c29 c30) 8).bind fun r33 =>
  bif (decide ((IntKind.i64.wrap ((IntKind.i64.wrap (k32 + r33.1)) - 2)) < 0)) then
   Qb k32 code31 r33 (IntKind.i64.wrap ((code31.length : Int) - 1))
  else
   bif (decide ((IntKind.i64.wrap ((IntKind.i64.wrap (k32 + r33.1)) - 2)) ≥ (code31.length : Int))) then
    Qb k32 code31 r33 (IntKind.i64.wrap ((code31.length : Int) - 1))
   else
    Qb k32 code31 r33 (IntKind.i64.wrap ((IntKind.i64.wrap (k32 + r33.1)) - 2))
 else
  lft (some ((OX.mk x_x5 f17 code31),(Mk.mk c29 c30)))
noncomputable def QO (code16 : List OZ) (x_x5 : Int) (f17 : List Pm) (c23 : List Int) (c24 : Int) (end25 : Int) (end26 : Int) : Option (OX × Mk) :=
 chk (code16.length + ([(OZ.mk end25 0 0 0 end26)] : List OZ).length ≤ 16777216) <|
 Pq (fun s=>RL x_x5 f17 s.1 s.2.1 s.2.2.1 s.2.2.2) (c23,c24,code16 ++ ([(OZ.mk end25 0 0 0 end26)] : List OZ),0)
noncomputable def Tp (x_x5 : Int) (i2 : Int) (params3 : (List Int)) (c14 : List Int) (c15 : Int) (code16 : List OZ) (f17 : List Pm) (n18 : Int) : Option (((List Int) × Int × (List OZ) × (List Pm) × Int) ⊕ (OX × Mk)) :=
 bif (decide (n18 > 0)) then
  (Vo (Mk.mk c14 c15) (OX.mk x_x5 f17 ([])) i2 params3).bind fun r19 =>
  chk (code16.length + r19.1.length ≤ 16777216) <|
  (Pc r19.2 9).bind fun r20 =>
  bif (r20.1 == 7) then
   (Pc r20.2 4).bind fun r21 =>
   chk ((code16 ++ r19.1).length + ([(OZ.mk 21 r21.1 (-1) 0 0)] : List OZ).length ≤ 16777216) <|
   cnt (r21.2.list,r21.2.at_,(code16 ++ r19.1) ++ ([(OZ.mk 21 r21.1 (-1) 0 0)] : List OZ),f17,IntKind.i64.wrap (n18 - 1))
  else
   bif (r20.1 == 8) then
    (Pc r20.2 3).bind fun r22 =>
    bif (r22.1 == 2) then
     chk ((code16 ++ r19.1).length + ([(OZ.mk 20 (-1) 0 0 0)] : List OZ).length ≤ 16777216) <|
     cnt (r22.2.list,r22.2.at_,(code16 ++ r19.1) ++ ([(OZ.mk 20 (-1) 0 0 0)] : List OZ),f17,IntKind.i64.wrap (n18 - 1))
    else
     cnt (r22.2.list,r22.2.at_,code16 ++ r19.1,f17,IntKind.i64.wrap (n18 - 1))
   else
    cnt (r20.2.list,r20.2.at_,code16 ++ r19.1,f17,IntKind.i64.wrap (n18 - 1))
 else
  lft (
   (Pc (Mk.mk c14 c15) 12).bind fun r27 =>
   bif (r27.1 == 11) then
    (TL r27.2).bind fun r28 =>
    QO code16 x_x5 f17 r28.2.list r28.2.at_ 24 r28.1
   else
    QO code16 x_x5 f17 r27.2.list r27.2.at_ 23 0)
noncomputable def Tn (r6 : (List Pm) × Mk) (most4 : Int) (x_x5 : Int) (i2 : Int) (params3 : (List Int)) (c7 : List Int) (c8 : Int) (code9 : List OZ) (s10 : Int) : Option (((List Int) × Int × (List OZ) × Int) ⊕ (OX × Mk)) :=
 bif (decide (s10 < (r6.1.length : Int))) then
  (Pc (Mk.mk c7 c8) 4).bind fun r11 =>
  bif (decide (r11.1 < 3)) then
   (Pc r11.2 4).bind fun r12 =>
   chk (code9.length + ([(OZ.mk 16 s10 r12.1 0 0)] : List OZ).length ≤ 16777216) <|
   cnt (r12.2.list,r12.2.at_,code9 ++ ([(OZ.mk 16 s10 r12.1 0 0)] : List OZ),IntKind.i64.wrap (s10 + 1))
  else
   cnt (r11.2.list,r11.2.at_,code9,IntKind.i64.wrap (s10 + 1))
 else
  lft (
   (Pc (Mk.mk c7 c8) (IntKind.i64.wrap (most4 + 1))).bind fun r13 =>
   Pq (fun s=>Tp x_x5 i2 params3 s.1 s.2.1 s.2.2.1 s.2.2.2.1 s.2.2.2.2) (r13.2.list,r13.2.at_,code9,r6.1,r13.1))
noncomputable def SW (c1 : Mk) (i2 : Int) (params3 : (List Int)) (most4 : Int) : Option (OX × Mk) :=
 (ixO params3 i2).bind fun x_x5 =>
 (UA c1 6).bind fun r6 =>
 Pq (fun s=>Tn r6 most4 x_x5 i2 params3 s.1 s.2.1 s.2.2.1 s.2.2.2) (r6.2.list,r6.2.at_,([] : List OZ),0)

noncomputable def TK (most3 : Int) (c10 : List Int) (c11 : Int) (p12 : List OX) (i13 : Int) (params14 : List Int) : Option (((List Int) × Int × (List OX) × Int × (List Int)) ⊕ (Pj × Mk)) :=
 bif (decide (i13 < (params14.length : Int))) then
  chk (([] : List OX).length + p12.length ≤ 16777216) <|
  (SW (Mk.mk c10 c11) i13 params14 most3).bind fun r15 =>
  chk ((([] : List OX) ++ p12).length + ([r15.1] : List OX).length ≤ 16777216) <|
  cnt (r15.2.list,r15.2.at_,(([] : List OX) ++ p12) ++ ([r15.1] : List OX),IntKind.i64.wrap (i13 + 1),params14)
 else
  lft (some ((Pj.mk p12),(Mk.mk c10 c11)))
noncomputable def TJ (most3 : Int) (c5 : List Int) (c6 : Int) (params7 : List Int) (n8 : Int) : Option (((List Int) × Int × (List Int) × Int) ⊕ (Pj × Mk)) :=
 bif (decide (n8 > 0)) then
  (Pc (Mk.mk c5 c6) 4).bind fun r9 =>
  chk (params7.length + ([r9.1] : List Int).length ≤ 16777216) <|
  cnt (r9.2.list,r9.2.at_,params7 ++ ([r9.1] : List Int),IntKind.i64.wrap (n8 - 1))
 else
  lft (Pq (fun s=>TK most3 s.1 s.2.1 s.2.2.1 s.2.2.2.1 s.2.2.2.2) (c5,c6,[],0,params7))
noncomputable def Tw (c1 : Mk) (funcs2 : Int) (most3 : Int) : Option (Pj × Mk) :=
 (Pc c1 funcs2).bind fun r4 =>
 Pq (fun s=>TJ most3 s.1 s.2.1 s.2.2.1 s.2.2.2) (r4.2.list,r4.2.at_,([0] : List Int),r4.1)

noncomputable def WV (n1 : Int) : Option (Bool) :=
 bif (n1 == 1) then
  some true
 else
  bif (n1 == 2) then
   some true
  else
   bif (n1 == 4) then
    some true
   else
    bif (n1 == 8) then
     some true
    else
     some (n1 == 16)

noncomputable def Wt (n1 : Int) (k2 : Int) : Option ((Int) ⊕ (Bool)) :=
 bif (decide (k2 ≤ 16777216)) then
  bif (n1 == k2) then
   lft (some true)
  else
   cnt (IntKind.i64.wrap (k2 * 2))
 else
  lft (some false)
noncomputable def Ro (n1 : Int) : Option (Bool) :=
 Pq (fun s=>Wt n1 s) 1

noncomputable def Wu (s1 : (List Pm)) (i2 : Int) : Option ((Int) ⊕ (Int)) :=
 bif (decide (i2 < (s1.length : Int))) then
  (ixO s1 i2).bind fun x_x3 =>
  (WV x_x3.Size).bind fun r4 =>
  bif (!r4) then
   lft (some 5)
  else
   (ixO s1 i2).bind fun x_x5 =>
   (Ro x_x5.Align).bind fun r6 =>
   bif (!r6) then
    lft (some 5)
   else
    cnt (IntKind.i64.wrap (i2 + 1))
 else
  lft (some 0)
noncomputable def Un (s1 : (List Pm)) : Option (Int) :=
 bif (decide ((s1.length : Int) > 512)) then
  some 3
 else
  Pq (fun s=>Wu s1 s) 0

noncomputable def Ws (s1 : (List Pm)) (a3 : Int) (i4 : Int) : Option ((Int × Int) ⊕ (Int)) :=
 bif (decide (i4 < (s1.length : Int))) then
  (ixO s1 i4).bind fun x_x5 =>
  cnt (RH a3 x_x5.Align,IntKind.i64.wrap (i4 + 1))
 else
  lft (some a3)
noncomputable def VO (s1 : (List Pm)) : Option (Int) :=
 (Un s1).bind fun r2 =>
 bif (r2 != 0) then
  some 16
 else
  Pq (fun s=>Ws s1 s.1 s.2) (16,0)

noncomputable def Wx (p1 : Pj) (a2 : Int) (i3 : Int) : Option ((Int × Int) ⊕ (Int)) :=
 bif (decide (i3 < (p1.Funcs.length : Int))) then
  (ixO p1.Funcs i3).bind fun x_x4 =>
  (VO x_x4.Slots).bind fun r5 =>
  cnt (RH a2 r5,IntKind.i64.wrap (i3 + 1))
 else
  lft (some a2)
noncomputable def Up (p1 : Pj) : Option (Int) :=
 Pq (fun s=>Wx p1 s.1 s.2) (16,0)

noncomputable def Rp (x_x3 : OZ) (k2 : Int) (x4 : Bool) : Option ((List Int)) :=
 bif x4 then
  some ([] : List Int)
 else
  bif (x_x3.Op == 21) then
   bif (decide (x_x3.B < (IntKind.i64.wrap (k2 + 1)))) then
    some ([x_x3.B,IntKind.i64.wrap (k2 + 1)] : List Int)
   else
    bif (decide (x_x3.B > (IntKind.i64.wrap (k2 + 1)))) then
     some ([IntKind.i64.wrap (k2 + 1),x_x3.B] : List Int)
    else
     some ([IntKind.i64.wrap (k2 + 1)] : List Int)
  else
   some ([IntKind.i64.wrap (k2 + 1)] : List Int)
noncomputable def Aak (f1 : OX) (k2 : Int) : Option ((List Int)) :=
 (ixO f1.Code k2).bind fun x_x3 =>
 bif (x_x3.Op == 20) then
  some ([x_x3.A] : List Int)
 else
  bif (x_x3.Op == 23) then
   Rp x_x3 k2 (x_x3.Op == 23)
  else
   Rp x_x3 k2 (x_x3.Op == 24)
noncomputable def Zb (f1 : OX) (k2 : Int) : Option ((List Int)) :=
 bif (decide (k2 < 0)) then
  some ([] : List Int)
 else
  bif (decide (k2 ≥ (f1.Code.length : Int))) then
   some ([] : List Int)
  else
   Aak f1 k2

noncomputable def RJ (x1 : OZ) : Option (Bool) :=
 bif (x1.Op == 16) then
  some true
 else
  some (x1.Op == 17)

noncomputable def Rq (x1 : OZ) : Option (Int × Bool) :=
 (RJ x1).bind fun r2 =>
 bif r2 then
  some (x1.A,true)
 else
  some (0,false)

noncomputable def Sy (s1 : (List Int)) (n2 : Int) (out3 : List Int) (i4 : Int) : Option (((List Int) × Int) ⊕ ((List Int))) :=
 bif (decide (i4 < (s1.length : Int))) then
  (ixO s1 i4).bind fun x_x5 =>
  bif (x_x5 != n2) then
   (ixO s1 i4).bind fun x_x6 =>
   chk (out3.length + ([x_x6] : List Int).length ≤ 16777216) <|
   cnt (out3 ++ ([x_x6] : List Int),IntKind.i64.wrap (i4 + 1))
  else
   cnt (out3,IntKind.i64.wrap (i4 + 1))
 else
  lft (some out3)
noncomputable def Ww (s1 : (List Int)) (n2 : Int) : Option ((List Int)) :=
 Pq (fun s=>Sy s1 n2 s.1 s.2) (([] : List Int),0)

noncomputable def Ul (x1 : OZ) : Option ((List Int)) :=
 bif (x1.Op == 15) then
  some ([x1.B] : List Int)
 else
  bif (x1.Op == 17) then
   some ([x1.B] : List Int)
  else
   some ([] : List Int)

noncomputable def Vx (n1 : Int) : Option (Bool) :=
 bif (decide (n1 ≥ 0)) then
  some (decide (n1 < 512))
 else
  some false

noncomputable def Sv (s1 : (List Int)) (i6 : Int) (out7 : List Int) (done8 : Bool) : Option (((List Int) × Bool × Int) ⊕ ((List Int))) :=
 (ixO s1 i6).bind fun x_x12 =>
 chk (out7.length + ([x_x12] : List Int).length ≤ 16777216) <|
 cnt (out7 ++ ([x_x12] : List Int),done8,IntKind.i64.wrap (i6 + 1))
noncomputable def TA (s1 : (List Int)) (i6 : Int) (n2 : Int) (out4 : List Int) (done5 : Bool) (x9 : Bool) : Option (((List Int) × Bool × Int) ⊕ ((List Int))) :=
 bif x9 then
  (ixO s1 i6).bind fun x_x11 =>
  bif (decide (x_x11 > n2)) then
   chk (out4.length + ([n2] : List Int).length ≤ 16777216) <|
   Sv s1 i6 (out4 ++ ([n2] : List Int)) true
  else
   Sv s1 i6 out4 true
 else
  Sv s1 i6 out4 done5
noncomputable def Rh (s1 : (List Int)) (n2 : Int) (out4 : List Int) (done5 : Bool) (i6 : Int) : Option (((List Int) × Bool × Int) ⊕ ((List Int))) :=
 bif (decide (i6 < (s1.length : Int))) then
  bif (!done5) then
   (ixO s1 i6).bind fun x_x10 =>
   TA s1 i6 n2 out4 done5 (decide (x_x10 ≥ n2))
  else
   TA s1 i6 n2 out4 done5 false
 else
  lft (
   bif (!done5) then
    chk (out4.length + ([n2] : List Int).length ≤ 16777216) <|
    some (out4 ++ ([n2] : List Int))
   else
    some out4)
noncomputable def SE (s1 : (List Int)) (n2 : Int) : Option ((List Int)) :=
 (Vx n2).bind fun r3 =>
 Pq (fun s=>Rh s1 n2 s.1 s.2.1 s.2.2) (([] : List Int),(!r3),0)

noncomputable def Uu (b2 : (List Int)) (out3 : List Int) (i4 : Int) : Option (((List Int) × Int) ⊕ ((List Int))) :=
 bif (decide (i4 < (b2.length : Int))) then
  (ixO b2 i4).bind fun x_x5 =>
  (SE out3 x_x5).bind fun r6 =>
  cnt (r6,IntKind.i64.wrap (i4 + 1))
 else
  lft (some out3)
noncomputable def Tq (a1 : (List Int)) (b2 : (List Int)) : Option ((List Int)) :=
 chk (([] : List Int).length + a1.length ≤ 16777216) <|
 Pq (fun s=>Uu b2 s.1 s.2) (([] : List Int) ++ a1,0)

noncomputable def AbO (x1 : OZ) (out2 : (List Int)) : Option ((List Int)) :=
 (Rq x1).bind fun r3 =>
 bif r3.2 then
  (Ww out2 r3.1).bind fun r4 =>
  (Ul x1).bind fun r5 =>
  (Tq r4 r5).bind fun r6 =>
  some r6
 else
  (Ul x1).bind fun r7 =>
  (Tq out2 r7).bind fun r8 =>
  some r8

noncomputable def Aan (k4 : Int) (x5 : List (List Int)) : Option (((List (List Int)) × Int) ⊕ (Ph)) :=
 cnt (x5,IntKind.i64.wrap (k4 + 1))
noncomputable def Vc (r6 : (List Int)) (k4 : Int) (f1 : OX) (l2 : Ph) (x7 : List (List Int)) (i8 : Int) : Option (((List (List Int)) × Int) ⊕ (((List (List Int)) × Int) ⊕ (Ph))) :=
 bif (decide (i8 < (r6.length : Int))) then
  chk (0 ≤ i8 ∧ i8 < r6.length) <|
  ((r6)[i8.toNat]?).bind fun next_e9 =>
  chk (0 ≤ k4 ∧ k4 < x7.length) <|
  ((x7)[k4.toNat]?).bind fun x_e10 =>
  (ixO f1.Code next_e9).bind fun x_x11 =>
  (ixO l2.Out next_e9).bind fun x_x12 =>
  (AbO x_x11 x_x12).bind fun r13 =>
  (Tq x_e10 r13).bind fun r14 =>
  chk (0 ≤ k4 ∧ k4 < x7.length) <|
  ((x7)[k4.toNat]?).bind fun _ =>
  cnt (x7.set k4.toNat r14,IntKind.i64.wrap (i8 + 1))
 else
  lft (Aan k4 x7)
noncomputable def Vb (f1 : OX) (l2 : Ph) (x3 : List (List Int)) (k4 : Int) : Option (((List (List Int)) × Int) ⊕ (Ph)) :=
 bif (decide (k4 < (f1.Code.length : Int))) then
  (Zb f1 k4).bind fun r6 =>
  Pq (fun s=>Vc r6 k4 f1 l2 s.1 s.2) (x3,0)
 else
  lft (some (Ph.mk x3))
noncomputable def Abi (f1 : OX) (l2 : Ph) : Option (Ph) :=
 chk (0 ≤ (f1.Code.length : Int) ∧ (f1.Code.length : Int) ≤ 16777216) <|
 Pq (fun s=>Vb f1 l2 s.1 s.2) (List.replicate (f1.Code.length : Int).toNat ([] : (List Int)),0)

noncomputable def TV (a1 : (List Int)) (b2 : (List Int)) (i3 : Int) : Option ((Int) ⊕ (Bool)) :=
 bif (decide (i3 < (a1.length : Int))) then
  (ixO a1 i3).bind fun x_x4 =>
  (ixO b2 i3).bind fun x_x5 =>
  bif (x_x4 != x_x5) then
   lft (some false)
  else
   cnt (IntKind.i64.wrap (i3 + 1))
 else
  lft (some true)
noncomputable def Abf (a1 : (List Int)) (b2 : (List Int)) : Option (Bool) :=
 bif ((a1.length : Int) != (b2.length : Int)) then
  some false
 else
  Pq (fun s=>TV a1 b2 s) 0

noncomputable def RQ (a1 : (List (List Int))) (b2 : (List (List Int))) (i3 : Int) : Option ((Int) ⊕ (Bool)) :=
 bif (decide (i3 < (a1.length : Int))) then
  (ixO a1 i3).bind fun x_x4 =>
  (ixO b2 i3).bind fun x_x5 =>
  (Abf x_x4 x_x5).bind fun r6 =>
  bif (!r6) then
   lft (some false)
  else
   cnt (IntKind.i64.wrap (i3 + 1))
 else
  lft (some true)
noncomputable def Xw (a1 : (List (List Int))) (b2 : (List (List Int))) : Option (Bool) :=
 bif ((a1.length : Int) != (b2.length : Int)) then
  some false
 else
  Pq (fun s=>RQ a1 b2 s) 0

noncomputable def Abh (a1 : Ph) (b2 : Ph) : Option (Bool) :=
 (Xw a1.Out b2.Out).bind fun r3 =>
 some r3

noncomputable def Ze (f1 : OX) (l2 : List (List Int)) : Option (((List (List Int))) ⊕ (Ph)) :=
 (Abi f1 (Ph.mk l2)).bind fun r3 =>
 (Abh r3 (Ph.mk l2)).bind fun r4 =>
 bif r4 then
  lft (some (Ph.mk l2))
 else
  cnt r3.Out
noncomputable def Uq (f1 : OX) : Option (Ph) :=
 chk (0 ≤ (f1.Code.length : Int) ∧ (f1.Code.length : Int) ≤ 16777216) <|
 Pq (fun s=>Ze f1 s) (List.replicate (f1.Code.length : Int).toNat ([] : (List Int)))

noncomputable def UK (n8 : Int) (c9 : List Int) (c10 : Int) (x11 : List (List Int)) : Option (((List Int) × Int × (List (List Int)) × Int) ⊕ (Ph × Mk)) :=
 cnt (c9,c10,x11,IntKind.i64.wrap (n8 - 1))
noncomputable def UI (r12 : Int × Mk) (n8 : Int) (x13 : List (List Int)) (k14 : Int) : Option (((List (List Int)) × Int) ⊕ (((List Int) × Int × (List (List Int)) × Int) ⊕ (Ph × Mk))) :=
 bif (decide (k14 < (x13.length : Int))) then
  chk (0 ≤ k14 ∧ k14 < x13.length) <|
  ((x13)[k14.toNat]?).bind fun x_e15 =>
  (SE x_e15 r12.1).bind fun r16 =>
  chk (0 ≤ k14 ∧ k14 < x13.length) <|
  ((x13)[k14.toNat]?).bind fun _ =>
  cnt (x13.set k14.toNat r16,IntKind.i64.wrap (k14 + 1))
 else
  lft (UK n8 r12.2.list r12.2.at_ x13)
noncomputable def UJ (c5 : List Int) (c6 : Int) (f2 : OX) (n8 : Int) (x7 : List (List Int)) : Option (((List Int) × Int × (List (List Int)) × Int) ⊕ (Ph × Mk)) :=
 (Pc (Mk.mk c5 c6) (f2.Slots.length : Int)).bind fun r12 =>
 Pq (fun s=>UI r12 n8 s.1 s.2) (x7,0)
noncomputable def UH (f2 : OX) (c5 : List Int) (c6 : Int) (x7 : List (List Int)) (n8 : Int) : Option (((List Int) × Int × (List (List Int)) × Int) ⊕ (Ph × Mk)) :=
 bif (decide (n8 > 0)) then
  bif (decide ((f2.Slots.length : Int) > 0)) then
   UJ c5 c6 f2 n8 x7
  else
   lft (some ((Ph.mk x7),(Mk.mk c5 c6)))
 else
  lft (some ((Ph.mk x7),(Mk.mk c5 c6)))
noncomputable def SY (c1 : Mk) (f2 : OX) : Option (Ph × Mk) :=
 (Uq f2).bind fun r3 =>
 chk (([] : List (List Int)).length + r3.Out.length ≤ 16777216) <|
 (Pc c1 3).bind fun r4 =>
 Pq (fun s=>UH f2 s.1 s.2.1 s.2.2.1 s.2.2.2) (r4.2.list,r4.2.at_,([] : List (List Int)) ++ r3.Out,r4.1)

noncomputable def Rs (c1 : Mk) : Option (Int × Mk) :=
 (Pc c1 12).bind fun r2 =>
 bif (r2.1 == 11) then
  (Pc r2.2 (([9223372036854775807,(-9223372036854775808),2147483648,2147483647,(-1),16777216,33554432,1048577,512,80] : List Int).length : Int)).bind fun r3 =>
  chk (0 ≤ r3.1 ∧ r3.1 < ([9223372036854775807,(-9223372036854775808),2147483648,2147483647,(-1),16777216,33554432,1048577,512,80] : List Int).length) <|
  ((([9223372036854775807,(-9223372036854775808),2147483648,2147483647,(-1),16777216,33554432,1048577,512,80] : List Int))[r3.1.toNat]?).bind fun l_e4 =>
  some (l_e4,r3.2)
 else
  (Pc r2.2 256).bind fun r5 =>
  (Pc r5.2 7).bind fun r6 =>
  chk (0 ≤ r6.1) <|
  some (IntKind.i64.wrap ((r5.1.fdiv (2 ^ (Nat.min r6.1.toNat IntKind.i64.bits))) - (IntKind.i64.wrap (r2.1.tdiv 9))),r6.2)

noncomputable def Re (n12 : Int) (c13 : List Int) (c14 : Int) (x15 : List (List Int)) : Option (((List Int) × Int × (List (List Int)) × Int) ⊕ (Ph × Mk)) :=
 cnt (c13,c14,x15,IntKind.i64.wrap (n12 - 1))
noncomputable def Vk (r16 : Int × Mk) (n12 : Int) (r17 : Int × Mk) (x18 : List (List Int)) (k19 : Int) : Option (((List (List Int)) × Int) ⊕ (((List Int) × Int × (List (List Int)) × Int) ⊕ (Ph × Mk))) :=
 bif (decide (k19 < (x18.length : Int))) then
  chk (0 ≤ k19 ∧ k19 < x18.length) <|
  ((x18)[k19.toNat]?).bind fun x_e20 =>
  (SE x_e20 r16.1).bind fun r21 =>
  chk (0 ≤ k19 ∧ k19 < x18.length) <|
  ((x18)[k19.toNat]?).bind fun _ =>
  cnt (x18.set k19.toNat r21,IntKind.i64.wrap (k19 + 1))
 else
  lft (Re n12 r17.2.list r17.2.at_ x18)
noncomputable def Vl (c9 : List Int) (c10 : Int) (f2 : OX) (n12 : Int) (x11 : List (List Int)) : Option (((List Int) × Int × (List (List Int)) × Int) ⊕ (Ph × Mk)) :=
 (Pc (Mk.mk c9 c10) (f2.Slots.length : Int)).bind fun r16 =>
 (Pc r16.2 2).bind fun r17 =>
 bif (r17.1 == 0) then
  Pq (fun s=>Vk r16 n12 r17 s.1 s.2) (x11,0)
 else
  (Pc r17.2 (x11.length : Int)).bind fun r23 =>
  (Pc r23.2 2).bind fun r24 =>
  bif (r24.1 == 0) then
   chk (0 ≤ r23.1 ∧ r23.1 < x11.length) <|
   ((x11)[r23.1.toNat]?).bind fun x_e25 =>
   (SE x_e25 r16.1).bind fun r26 =>
   chk (0 ≤ r23.1 ∧ r23.1 < x11.length) <|
   ((x11)[r23.1.toNat]?).bind fun _ =>
   Re n12 r24.2.list r24.2.at_ (x11.set r23.1.toNat r26)
  else
   chk (0 ≤ r23.1 ∧ r23.1 < x11.length) <|
   ((x11)[r23.1.toNat]?).bind fun x_e28 =>
   (Ww x_e28 r16.1).bind fun r29 =>
   chk (0 ≤ r23.1 ∧ r23.1 < x11.length) <|
   ((x11)[r23.1.toNat]?).bind fun _ =>
   Re n12 r24.2.list r24.2.at_ (x11.set r23.1.toNat r29)
noncomputable def RT (c5 : List Int) (c6 : Int) (x7 : List (List Int)) : Option (Ph × Mk) :=
 (Pc (Mk.mk c5 c6) 12).bind fun r31 =>
 bif (r31.1 == 10) then
  chk (0 ≤ (1 : Int) ∧ (1 : Int) ≤ x7.length) <|
  some ((Ph.mk (x7.drop ((1 : Int).toNat))),r31.2)
 else
  bif (r31.1 == 11) then
   (Rs r31.2).bind fun r32 =>
   (Rs r32.2).bind fun r33 =>
   chk (0 ≤ (0 : Int) ∧ (0 : Int) < x7.length) <|
   ((x7)[(0 : Int).toNat]?).bind fun _ =>
   some ((Ph.mk (x7.set ((0 : Int).toNat) ([r32.1,r33.1] : List Int))),r33.2)
  else
   some ((Ph.mk x7),r31.2)
noncomputable def Vj (f2 : OX) (c9 : List Int) (c10 : Int) (x11 : List (List Int)) (n12 : Int) : Option (((List Int) × Int × (List (List Int)) × Int) ⊕ (Ph × Mk)) :=
 bif (decide (n12 > 0)) then
  bif (decide ((f2.Slots.length : Int) > 0)) then
   Vl c9 c10 f2 n12 x11
  else
   lft (RT c9 c10 x11)
 else
  lft (RT c9 c10 x11)
noncomputable def Vi (c1 : Mk) (f2 : OX) : Option (Ph × Mk) :=
 (Uq f2).bind fun r3 =>
 (Pc c1 3).bind fun r4 =>
 bif (r4.1 == 0) then
  some (r3,r4.2)
 else
  chk (([] : List (List Int)).length + r3.Out.length ≤ 16777216) <|
  (Pc r4.2 4).bind fun r8 =>
  Pq (fun s=>Vj f2 s.1 s.2.1 s.2.2.1 s.2.2.2) (r8.2.list,r8.2.at_,([] : List (List Int)) ++ r3.Out,r8.1)

noncomputable def XA (x_x3 : OX) (p1 : Pj) (n4 : Int) (k5 : Int) : Option ((Int × Int) ⊕ (Int)) :=
 bif (decide (k5 < (x_x3.Code.length : Int))) then
  (ixO x_x3.Code k5).bind fun x_x6 =>
  bif (x_x6.Op == 18) then
   (ixO x_x3.Code k5).bind fun x_x7 =>
   cnt (RH n4 (IntKind.i64.wrap (x_x7.A + 1)),IntKind.i64.wrap (k5 + 1))
  else
   bif (x_x6.Op == 22) then
    (ixO x_x3.Code k5).bind fun x_x8 =>
    (ixO p1.Funcs x_x8.A).bind fun x_x9 =>
    cnt (RH n4 x_x9.Params,IntKind.i64.wrap (k5 + 1))
   else
    cnt (n4,IntKind.i64.wrap (k5 + 1))
 else
  lft (some (IntKind.i64.wrap (n4 * 16)))
noncomputable def RP (p1 : Pj) (i2 : Int) : Option (Int) :=
 (ixO p1.Funcs i2).bind fun x_x3 =>
 Pq (fun s=>XA x_x3 p1 s.1 s.2) (0,0)

noncomputable def Sk (n1 : Int) : Option (Bool) :=
 bif (decide (n1 ≥ 0)) then
  some (decide (n1 ≤ 2147483647))
 else
  some false

noncomputable def VQ (m5 : Int) : Option (Int × Int) :=
 bif (decide (m5 > 2147483647)) then
  some (0,9)
 else
  some (m5,0)
noncomputable def ZR (align2 : Int) (n1 : Int) : Option (Int × Int) :=
 chk (align2 ≠ 0) <|
 bif ((n1.tmod align2) != 0) then
  chk (align2 ≠ 0) <|
  VQ (IntKind.i64.wrap ((IntKind.i64.wrap (n1 - (n1.tmod align2))) + align2))
 else
  VQ n1
noncomputable def VP (n1 : Int) (align2 : Int) : Option (Int × Int) :=
 (Sk n1).bind fun r3 =>
 bif (!r3) then
  some (0,4)
 else
  (Ro align2).bind fun r4 =>
  bif (!r4) then
   some (0,4)
  else
   ZR align2 n1

noncomputable def Wi (x6 : List Int) (r10 : Int × Int) (x_x5 : OX) (k7 : Int) (_x11 : Pm) (_x12 : Pm) (_x13 : Int) (_x14 : Int) (_x15 : Bool) : Option (((List Int) × Int × Int) ⊕ (Pg × Int)) :=
 chk (([] : List Int).length + x6.length ≤ 16777216) <|
 chk ((([] : List Int) ++ x6).length + ([r10.1] : List Int).length ≤ 16777216) <|
 (ixO x_x5.Slots k7).bind fun x_x17 =>
 cnt ((([] : List Int) ++ x6) ++ ([r10.1] : List Int),IntKind.i64.wrap (k7 + 1),IntKind.i64.wrap (r10.1 + x_x17.Size))
noncomputable def Wh (x_x5 : OX) (align3 : Int) (r4 : Int) (x6 : List Int) (k7 : Int) (end8 : Int) : Option (((List Int) × Int × Int) ⊕ (Pg × Int)) :=
 bif (decide (k7 < (x_x5.Slots.length : Int))) then
  (ixO x_x5.Slots k7).bind fun x_x9 =>
  (VP end8 x_x9.Align).bind fun r10 =>
  bif (r10.2 != 0) then
   lft (some ((Pg.mk 0 0 ([])),9))
  else
   (ixO x_x5.Slots k7).bind fun x_x16 =>
   bif (decide (r10.1 > (IntKind.i64.wrap (2147483519 - x_x16.Size)))) then
    lft (some ((Pg.mk 0 0 ([])),9))
   else
    Wi x6 r10 x_x5 k7 x_x16 x_x16 x_x16.Size (IntKind.i64.wrap (2147483519 - x_x16.Size)) (decide (r10.1 > (IntKind.i64.wrap (2147483519 - x_x16.Size))))
 else
  lft (
   (VP end8 align3).bind fun r18 =>
   bif (r18.2 != 0) then
    some ((Pg.mk 0 0 ([])),9)
   else
    bif (decide (r18.1 > 2147483519)) then
     some ((Pg.mk 0 0 ([])),9)
    else
     some ((Pg.mk r4 r18.1 x6),0))
noncomputable def Sf (p1 : Pj) (i2 : Int) (align3 : Int) : Option (Pg × Int) :=
 (RP p1 i2).bind fun r4 =>
 (ixO p1.Funcs i2).bind fun x_x5 =>
 Pq (fun s=>Wh x_x5 align3 r4 s.1 s.2.1 s.2.2) (([] : List Int),0,r4)

noncomputable def Sc (s1 : (List Int)) (i2 : Int) : Option ((Int) ⊕ (Bool)) :=
 bif (decide (i2 < (s1.length : Int))) then
  (ixO s1 i2).bind fun x_x3 =>
  (Vx x_x3).bind fun r4 =>
  bif (!r4) then
   lft (some false)
  else
   bif (decide (i2 > 0)) then
    (ixO s1 i2).bind fun x_x5 =>
    (ixO s1 (IntKind.i64.wrap (i2 - 1))).bind fun x_x6 =>
    bif (decide (x_x5 ≤ x_x6)) then
     lft (some false)
    else
     cnt (IntKind.i64.wrap (i2 + 1))
   else
    cnt (IntKind.i64.wrap (i2 + 1))
 else
  lft (some true)
noncomputable def XF (s1 : (List Int)) : Option (Bool) :=
 Pq (fun s=>Sc s1 s) 0

noncomputable def Zi (l2 : Ph) (f1 : OX) (k3 : Int) : Option ((Int) ⊕ (Bool)) :=
 bif (decide (k3 < (l2.Out.length : Int))) then
  (ixO l2.Out k3).bind fun x_x4 =>
  (XF x_x4).bind fun r5 =>
  bif (!r5) then
   lft (some false)
  else
   (ixO l2.Out k3).bind fun x_x6 =>
   bif (decide ((x_x6.length : Int) > 0)) then
    (ixO l2.Out k3).bind fun x_x7 =>
    (ixO x_x7 (IntKind.i64.wrap ((x_x6.length : Int) - 1))).bind fun x_x8 =>
    bif (decide (x_x8 ≥ (f1.Slots.length : Int))) then
     lft (some false)
    else
     cnt (IntKind.i64.wrap (k3 + 1))
   else
    cnt (IntKind.i64.wrap (k3 + 1))
 else
  lft (some true)
noncomputable def XH (f1 : OX) (l2 : Ph) : Option (Bool) :=
 bif ((l2.Out.length : Int) != (f1.Code.length : Int)) then
  some false
 else
  Pq (fun s=>Zi l2 f1 s) 0

noncomputable def Wv (s1 : (List Int)) (n2 : Int) (i3 : Int) : Option ((Int) ⊕ (Bool)) :=
 bif (decide (i3 < (s1.length : Int))) then
  (ixO s1 i3).bind fun x_x4 =>
  bif (x_x4 == n2) then
   lft (some true)
  else
   cnt (IntKind.i64.wrap (i3 + 1))
 else
  lft (some false)
noncomputable def TB (s1 : (List Int)) (n2 : Int) : Option (Bool) :=
 Pq (fun s=>Wv s1 n2 s) 0

noncomputable def Ta (a1 : (List Int)) (b2 : (List Int)) (out3 : List Int) (i4 : Int) : Option (((List Int) × Int) ⊕ ((List Int))) :=
 bif (decide (i4 < (a1.length : Int))) then
  (ixO a1 i4).bind fun x_x5 =>
  (TB b2 x_x5).bind fun r6 =>
  bif (!r6) then
   (ixO a1 i4).bind fun x_x7 =>
   chk (out3.length + ([x_x7] : List Int).length ≤ 16777216) <|
   cnt (out3 ++ ([x_x7] : List Int),IntKind.i64.wrap (i4 + 1))
  else
   cnt (out3,IntKind.i64.wrap (i4 + 1))
 else
  lft (some out3)
noncomputable def ZS (a1 : (List Int)) (b2 : (List Int)) : Option ((List Int)) :=
 Pq (fun s=>Ta a1 b2 s.1 s.2) (([] : List Int),0)

noncomputable def Tb (r4 : (List Int)) (f1 : OX) (l2 : Ph) (k3 : Int) (out5 : List Int) (i6 : Int) : Option (((List Int) × Int) ⊕ ((List Int))) :=
 bif (decide (i6 < (r4.length : Int))) then
  chk (0 ≤ i6 ∧ i6 < r4.length) <|
  ((r4)[i6.toNat]?).bind fun next_e7 =>
  (ixO f1.Code next_e7).bind fun x_x8 =>
  (ixO l2.Out next_e7).bind fun x_x9 =>
  (AbO x_x8 x_x9).bind fun r10 =>
  (ixO l2.Out k3).bind fun x_x11 =>
  (ZS r10 x_x11).bind fun r12 =>
  (Tq out5 r12).bind fun r13 =>
  cnt (r13,IntKind.i64.wrap (i6 + 1))
 else
  lft (some out5)
noncomputable def Xy (f1 : OX) (l2 : Ph) (k3 : Int) : Option ((List Int)) :=
 (Zb f1 k3).bind fun r4 =>
 Pq (fun s=>Tb r4 f1 l2 k3 s.1 s.2) (([] : List Int),0)

noncomputable def Zh (f1 : OX) (l2 : Ph) (k4 : Int) : Option ((Int) ⊕ (Int × Int × Bool)) :=
 bif (decide (k4 < (f1.Code.length : Int))) then
  (Xy f1 l2 k4).bind fun r5 =>
  bif (decide ((r5.length : Int) > 0)) then
   chk (0 ≤ (0 : Int) ∧ (0 : Int) < r5.length) <|
   ((r5)[(0 : Int).toNat]?).bind fun m_e6 =>
   lft (some (k4,m_e6,true))
  else
   cnt (IntKind.i64.wrap (k4 + 1))
 else
  lft (some (0,0,false))
noncomputable def ZU (f1 : OX) (l2 : Ph) : Option (Int × Int × Bool) :=
 (XH f1 l2).bind fun r3 =>
 bif (!r3) then
  some (0,0,false)
 else
  Pq (fun s=>Zh f1 l2 s) 0

noncomputable def VR (f1 : OX) (l2 : Ph) : Option (Int) :=
 (ZU f1 l2).bind fun r3 =>
 bif r3.2.2 then
  some 11
 else
  (XH f1 l2).bind fun r4 =>
  bif (!r4) then
   some 11
  else
   some 0

noncomputable def Sd (r14 : Int × Bool) (out15 : List (List Int)) (x_x19 : Int) (i16 : Int) (_x20 : Bool) (_x21 : Bool) (_x22 : Bool) (_x23 : Bool) : Option (((List (List Int)) × Int) ⊕ (((List (List Int)) × Int) ⊕ ((List (List Int)) × Int))) :=
 chk (0 ≤ r14.1 ∧ r14.1 < out15.length) <|
 ((out15)[r14.1.toNat]?).bind fun out_e24 =>
 (SE out_e24 x_x19).bind fun r25 =>
 chk (0 ≤ x_x19 ∧ x_x19 < out15.length) <|
 ((out15)[x_x19.toNat]?).bind fun out_e26 =>
 (SE out_e26 r14.1).bind fun r27 =>
 chk (0 ≤ r14.1 ∧ r14.1 < out15.length) <|
 ((out15)[r14.1.toNat]?).bind fun _ =>
 chk (0 ≤ x_x19 ∧ x_x19 < (out15.set r14.1.toNat r25).length) <|
 ((out15.set r14.1.toNat r25)[x_x19.toNat]?).bind fun _ =>
 cnt ((out15.set r14.1.toNat r25).set x_x19.toNat r27,IntKind.i64.wrap (i16 + 1))
noncomputable def Zm (l2 : Ph) (k6 : Int) (i16 : Int) (r14 : Int × Bool) (out15 : List (List Int)) (strict3 : Bool) (x_x13 : OZ) : Option (((List (List Int)) × Int) ⊕ (((List (List Int)) × Int) ⊕ ((List (List Int)) × Int))) :=
 (ixO l2.Out k6).bind fun x_x18 =>
 (ixO x_x18 i16).bind fun x_x19 =>
 bif (x_x19 == r14.1) then
  cnt (out15,IntKind.i64.wrap (i16 + 1))
 else
  bif (!strict3) then
   bif (x_x13.Op == 17) then
    bif (x_x13.B == x_x19) then
     cnt (out15,IntKind.i64.wrap (i16 + 1))
    else
     Sd r14 out15 x_x19 i16 true (x_x13.Op == 17) true (x_x13.B == x_x19)
   else
    Sd r14 out15 x_x19 i16 true (x_x13.Op == 17) false false
  else
   Sd r14 out15 x_x19 i16 false false false false
noncomputable def Tc (k6 : Int) (_x7 : Int) (_x8 : Int) (_x9 : Int) (_x10 : Int) (_x11 : Int) (out12 : List (List Int)) : Option (((List (List Int)) × Int) ⊕ ((List (List Int)) × Int)) :=
 cnt (out12,IntKind.i64.wrap (k6 + 1))
noncomputable def WG (l2 : Ph) (k6 : Int) (r14 : Int × Bool) (strict3 : Bool) (x_x13 : OZ) (out15 : List (List Int)) (i16 : Int) : Option (((List (List Int)) × Int) ⊕ (((List (List Int)) × Int) ⊕ ((List (List Int)) × Int))) :=
 (ixO l2.Out k6).bind fun x_x17 =>
 bif (decide (i16 < (x_x17.length : Int))) then
  bif r14.2 then
   Zm l2 k6 i16 r14 out15 strict3 x_x13
  else
   lft (Tc k6 x_x13.Op x_x13.A x_x13.B x_x13.C x_x13.Imm out15)
 else
  lft (Tc k6 x_x13.Op x_x13.A x_x13.B x_x13.C x_x13.Imm out15)
noncomputable def Ux (l2 : Ph) (k6 : Int) (r14 : Int × Bool) (strict3 : Bool) (x_x13 : OZ) (out5 : List (List Int)) : Option (((List (List Int)) × Int) ⊕ ((List (List Int)) × Int)) :=
 Pq (fun s=>WG l2 k6 r14 strict3 x_x13 s.1 s.2) (out5,0)
noncomputable def Zl (f1 : OX) (l2 : Ph) (strict3 : Bool) (out5 : List (List Int)) (k6 : Int) : Option (((List (List Int)) × Int) ⊕ ((List (List Int)) × Int)) :=
 bif (decide (k6 < (f1.Code.length : Int))) then
  (ixO f1.Code k6).bind fun x_x13 =>
  (Rq x_x13).bind fun r14 =>
  bif (x_x13.Op == 17) then
   bif (x_x13.A == x_x13.B) then
    Tc k6 x_x13.Op x_x13.A x_x13.B x_x13.C x_x13.Imm out5
   else
    Ux l2 k6 r14 strict3 x_x13 out5
  else
   Ux l2 k6 r14 strict3 x_x13 out5
 else
  lft (some (out5,0))
noncomputable def XI (f1 : OX) (l2 : Ph) (strict3 : Bool) : Option ((List (List Int)) × Int) :=
 (VR f1 l2).bind fun r4 =>
 bif (r4 != 0) then
  some (([] : List (List Int)),r4)
 else
  chk (0 ≤ (f1.Slots.length : Int) ∧ (f1.Slots.length : Int) ≤ 16777216) <|
  Pq (fun s=>Zl f1 l2 strict3 s.1 s.2) (List.replicate (f1.Slots.length : Int).toNat ([] : (List Int)),0)

noncomputable def ZV (f1 : OX) (l2 : Ph) : Option ((List (List Int)) × Int) :=
 (XI f1 l2 false).bind fun r3 =>
 some (r3.1,r3.2)

noncomputable def WD (k3 : Int) (out4 : List PR) : Option (((List PR) × Int) ⊕ ((List PR))) :=
 cnt (out4,IntKind.i64.wrap (k3 + 1))
noncomputable def Zk (out2 : List PR) (x_x5 : OZ) (k3 : Int) (old7 : Bool) (i8 : Int) : Option ((Bool × Int) ⊕ (((List PR) × Int) ⊕ ((List PR)))) :=
 bif (decide (i8 < (out2.length : Int))) then
  bif old7 then
   cnt (true,IntKind.i64.wrap (i8 + 1))
  else
   chk (0 ≤ i8 ∧ i8 < out2.length) <|
   ((out2)[i8.toNat]?).bind fun out_e9 =>
   cnt (((out_e9.a0 == x_x5.A) && ((out_e9.a1 == x_x5.B) && true)),IntKind.i64.wrap (i8 + 1))
 else
  lft (
   bif (!old7) then
    chk (out2.length + ([(PR.mk x_x5.A x_x5.B)] : List PR).length ≤ 16777216) <|
    WD k3 (out2 ++ ([(PR.mk x_x5.A x_x5.B)] : List PR))
   else
    WD k3 out2)
noncomputable def Uw (out2 : List PR) (x_x5 : OZ) (k3 : Int) (old6 : Bool) : Option (((List PR) × Int) ⊕ ((List PR))) :=
 Pq (fun s=>Zk out2 x_x5 k3 s.1 s.2) (old6,0)
noncomputable def Zj (f1 : OX) (out2 : List PR) (k3 : Int) : Option (((List PR) × Int) ⊕ ((List PR))) :=
 bif (decide (k3 < (f1.Code.length : Int))) then
  (ixO f1.Code k3).bind fun x_x5 =>
  bif (x_x5.Op != 17) then
   Uw out2 x_x5 k3 true
  else
   Uw out2 x_x5 k3 (x_x5.A == x_x5.B)
 else
  lft (some out2)
noncomputable def ZW (f1 : OX) : Option ((List PR)) :=
 Pq (fun s=>Zj f1 s.1 s.2) (([] : List PR),0)

noncomputable def Xd (to1 : (List Int)) (s2 : Int) (out3 : List Int) (t4 : Int) : Option (((List Int) × Int) ⊕ ((List Int))) :=
 bif (decide (t4 < (to1.length : Int))) then
  (ixO to1 t4).bind fun x_x5 =>
  bif (x_x5 == s2) then
   chk (out3.length + ([t4] : List Int).length ≤ 16777216) <|
   cnt (out3 ++ ([t4] : List Int),IntKind.i64.wrap (t4 + 1))
  else
   cnt (out3,IntKind.i64.wrap (t4 + 1))
 else
  lft (some out3)
noncomputable def TW (to1 : (List Int)) (s2 : Int) : Option ((List Int)) :=
 Pq (fun s=>Xd to1 s2 s.1 s.2) (([] : List Int),0)

noncomputable def Zr (i7 : Int) : Option ((Int) ⊕ (Bool)) :=
 cnt (IntKind.i64.wrap (i7 + 1))
noncomputable def Zq (r6 : (List Int)) (i7 : Int) (r5 : (List Int)) (g1 : (List (List Int))) (k8 : Int) : Option ((Int) ⊕ ((Int) ⊕ (Bool))) :=
 bif (decide (k8 < (r6.length : Int))) then
  chk (0 ≤ i7 ∧ i7 < r5.length) <|
  ((r5)[i7.toNat]?).bind fun x_e9 =>
  (ixO g1 x_e9).bind fun x_x10 =>
  chk (0 ≤ k8 ∧ k8 < r6.length) <|
  ((r6)[k8.toNat]?).bind fun y_e11 =>
  (TB x_x10 y_e11).bind fun r12 =>
  bif r12 then
   lft (lft (some false))
  else
   cnt (IntKind.i64.wrap (k8 + 1))
 else
  lft (Zr i7)
noncomputable def Zp (r5 : (List Int)) (r6 : (List Int)) (g1 : (List (List Int))) (i7 : Int) : Option ((Int) ⊕ (Bool)) :=
 bif (decide (i7 < (r5.length : Int))) then
  Pq (fun s=>Zq r6 i7 r5 g1 s) 0
 else
  lft (some true)
noncomputable def ZY (g1 : (List (List Int))) (to2 : (List Int)) (a3 : Int) (b4 : Int) : Option (Bool) :=
 (TW to2 a3).bind fun r5 =>
 (TW to2 b4).bind fun r6 =>
 Pq (fun s=>Zp r5 r6 g1 s) 0

noncomputable def Td (s17 : Int) (to16 : List Int) (to_e10 : Int) (to_e12 : Int) (x18 : Bool) : Option (((List Int) × Int) ⊕ (((List Int) × Int) ⊕ ((List Int)))) :=
 bif x18 then
  chk (0 ≤ s17 ∧ s17 < to16.length) <|
  ((to16)[s17.toNat]?).bind fun _ =>
  cnt (to16.set s17.toNat (Sm to_e10 to_e12),IntKind.i64.wrap (s17 + 1))
 else
  cnt (to16,IntKind.i64.wrap (s17 + 1))
noncomputable def Rk (i7 : Int) (to8 : List Int) : Option (((List Int) × Int) ⊕ ((List Int))) :=
 cnt (to8,IntKind.i64.wrap (i7 + 1))
noncomputable def Xb (to_e10 : Int) (to_e12 : Int) (i7 : Int) (to16 : List Int) (s17 : Int) : Option (((List Int) × Int) ⊕ (((List Int) × Int) ⊕ ((List Int)))) :=
 bif (decide (s17 < (to16.length : Int))) then
  chk (0 ≤ s17 ∧ s17 < to16.length) <|
  ((to16)[s17.toNat]?).bind fun to_e19 =>
  bif (to_e19 == to_e10) then
   Td s17 to16 to_e10 to_e12 true
  else
   chk (0 ≤ s17 ∧ s17 < to16.length) <|
   ((to16)[s17.toNat]?).bind fun to_e20 =>
   Td s17 to16 to_e10 to_e12 (to_e20 == to_e12)
 else
  lft (Rk i7 to16)
noncomputable def Xc (to_e10 : Int) (to_e12 : Int) (i7 : Int) (to6 : List Int) (_x13 : Bool) (_x14 : Bool) : Option (((List Int) × Int) ⊕ ((List Int))) :=
 Pq (fun s=>Xb to_e10 to_e12 i7 s.1 s.2) (to6,0)
noncomputable def Xa (r5 : (List PR)) (g2 : (List (List Int))) (to6 : List Int) (i7 : Int) : Option (((List Int) × Int) ⊕ ((List Int))) :=
 bif (decide (i7 < (r5.length : Int))) then
  chk (0 ≤ i7 ∧ i7 < r5.length) <|
  ((r5)[i7.toNat]?).bind fun moves_e9 =>
  chk (0 ≤ moves_e9.a0 ∧ moves_e9.a0 < to6.length) <|
  ((to6)[moves_e9.a0.toNat]?).bind fun to_e10 =>
  chk (0 ≤ i7 ∧ i7 < r5.length) <|
  ((r5)[i7.toNat]?).bind fun moves_e11 =>
  chk (0 ≤ moves_e11.a1 ∧ moves_e11.a1 < to6.length) <|
  ((to6)[moves_e11.a1.toNat]?).bind fun to_e12 =>
  bif (to_e10 == to_e12) then
   Rk i7 to6
  else
   (ZY g2 to6 to_e10 to_e12).bind fun r15 =>
   bif (!r15) then
    Rk i7 to6
   else
    Xc to_e10 to_e12 i7 to6 r15 (!r15)
 else
  lft (some to6)
noncomputable def WZ (f1 : OX) (g2 : (List (List Int))) (to3 : List Int) (s4 : Int) : Option (((List Int) × Int) ⊕ ((List Int))) :=
 bif (decide (s4 < (f1.Slots.length : Int))) then
  chk (to3.length + ([s4] : List Int).length ≤ 16777216) <|
  cnt (to3 ++ ([s4] : List Int),IntKind.i64.wrap (s4 + 1))
 else
  lft (
   (ZW f1).bind fun r5 =>
   Pq (fun s=>Xa r5 g2 s.1 s.2) (to3,0))
noncomputable def Vd (f1 : OX) (g2 : (List (List Int))) : Option ((List Int)) :=
 Pq (fun s=>WZ f1 g2 s.1 s.2) (([] : List Int),0)

noncomputable def Abm (f1 : OX) (l2 : Ph) (k3 : Int) : Option (Bool) :=
 (ixO f1.Code k3).bind fun x_x4 =>
 (Rq x_x4).bind fun r5 =>
 bif r5.2 then
  (ixO l2.Out k3).bind fun x_x6 =>
  (TB x_x6 r5.1).bind fun r7 =>
  some (!r7)
 else
  some false

noncomputable def Aao (f1 : OX) (l2 : Ph) (to3 : (List Int)) (out4 : List Bool) (k5 : Int) : Option (((List Bool) × Int) ⊕ ((List Bool))) :=
 bif (decide (k5 < (f1.Code.length : Int))) then
  (ixO f1.Code k5).bind fun x_x6 =>
  (Abm f1 l2 k5).bind fun r7 =>
  bif (!r7) then
   bif (x_x6.Op == 17) then
    (ixO to3 x_x6.A).bind fun x_x8 =>
    (ixO to3 x_x6.B).bind fun x_x9 =>
    chk (out4.length + ([(!(x_x8 == x_x9))] : List Bool).length ≤ 16777216) <|
    cnt (out4 ++ ([(!(x_x8 == x_x9))] : List Bool),IntKind.i64.wrap (k5 + 1))
   else
    chk (out4.length + ([true] : List Bool).length ≤ 16777216) <|
    cnt (out4 ++ ([true] : List Bool),IntKind.i64.wrap (k5 + 1))
  else
   chk (out4.length + ([false] : List Bool).length ≤ 16777216) <|
   cnt (out4 ++ ([false] : List Bool),IntKind.i64.wrap (k5 + 1))
 else
  lft (some out4)
noncomputable def Zs (f1 : OX) (l2 : Ph) (to3 : (List Int)) : Option ((List Bool)) :=
 Pq (fun s=>Aao f1 l2 to3 s.1 s.2) (([] : List Bool),0)

noncomputable def Zo (to2 : (List Int)) (f1 : OX) (s6 : Int) : Option ((Int) ⊕ (Bool)) :=
 bif (decide (s6 < (to2.length : Int))) then
  (ixO to2 s6).bind fun x_x7 =>
  (ixO f1.Slots x_x7).bind fun x_x8 =>
  (ixO f1.Slots s6).bind fun x_x9 =>
  bif (x_x8.Size != x_x9.Size) then
   lft (some false)
  else
   (ixO to2 s6).bind fun x_x10 =>
   (ixO to2 x_x10).bind fun x_x11 =>
   (ixO to2 s6).bind fun x_x12 =>
   bif (x_x11 != x_x12) then
    lft (some false)
   else
    cnt (IntKind.i64.wrap (s6 + 1))
 else
  lft (some true)
noncomputable def Zn (to2 : (List Int)) (f1 : OX) (s3 : Int) : Option ((Int) ⊕ (Bool)) :=
 bif (decide (s3 < (to2.length : Int))) then
  (ixO to2 s3).bind fun x_x4 =>
  bif (decide (x_x4 < 0)) then
   lft (some false)
  else
   (ixO to2 s3).bind fun x_x5 =>
   bif (decide (x_x5 ≥ (to2.length : Int))) then
    lft (some false)
   else
    cnt (IntKind.i64.wrap (s3 + 1))
 else
  lft (Pq (fun s=>Zo to2 f1 s) 0)
noncomputable def ZX (f1 : OX) (to2 : (List Int)) : Option (Bool) :=
 bif ((to2.length : Int) != (f1.Slots.length : Int)) then
  some false
 else
  Pq (fun s=>Zn to2 f1 s) 0

noncomputable def Zx (f1 : OX) (r2 : Pw) (k4 : Int) : Option ((Int) ⊕ (Int)) :=
 bif (decide (k4 < (f1.Code.length : Int))) then
  (ixO r2.Keep k4).bind fun x_x5 =>
  bif (!x_x5) then
   (ixO f1.Code k4).bind fun x_x6 =>
   (RJ x_x6).bind fun r7 =>
   bif (!r7) then
    lft (some 12)
   else
    cnt (IntKind.i64.wrap (k4 + 1))
  else
   cnt (IntKind.i64.wrap (k4 + 1))
 else
  lft (some 0)
noncomputable def Zy (f1 : OX) (r2 : Pw) : Option (Int) :=
 Pq (fun s=>Zx f1 r2 s) 0
noncomputable def ZZ (f1 : OX) (r2 : Pw) : Option (Int) :=
 (ZX f1 r2.To).bind fun r3 =>
 bif (!r3) then
  some 12
 else
  bif ((r2.Keep.length : Int) != (f1.Code.length : Int)) then
   some 12
  else
   Zy f1 r2

noncomputable def SF (s1 : Int) (to2 : (List Int)) : Option (Int) :=
 bif (decide (s1 < 0)) then
  some s1
 else
  bif (decide (s1 ≥ (to2.length : Int))) then
   some s1
  else
   (ixO to2 s1).bind fun x_x3 =>
   some x_x3

noncomputable def Va (x1 : OZ) (to2 : (List Int)) : Option (OZ) :=
 bif (x1.Op == 15) then
  (SF x1.B to2).bind fun r3 =>
  some (OZ.mk x1.Op x1.A r3 x1.C x1.Imm)
 else
  bif (x1.Op == 16) then
   (SF x1.A to2).bind fun r4 =>
   some (OZ.mk x1.Op r4 x1.B x1.C x1.Imm)
  else
   bif (x1.Op == 17) then
    (SF x1.A to2).bind fun r5 =>
    (SF x1.B to2).bind fun r6 =>
    some (OZ.mk x1.Op r5 r6 x1.C x1.Imm)
   else
    some x1

noncomputable def Aar (r2 : Pw) (k4 : Int) (out3 : List Int) (f1 : OX) : Option (((List Int) × Int) ⊕ ((List Int))) :=
 (ixO r2.Keep k4).bind fun x_x5 =>
 bif (!x_x5) then
  cnt (out3,IntKind.i64.wrap (k4 + 1))
 else
  (ixO f1.Code k4).bind fun x_x6 =>
  (Va x_x6 r2.To).bind fun r7 =>
  (Ul r7).bind fun r8 =>
  (Tq out3 r8).bind fun r9 =>
  (Rq r7).bind fun r10 =>
  bif r10.2 then
   (SE r9 r10.1).bind fun r11 =>
   cnt (r11,IntKind.i64.wrap (k4 + 1))
  else
   cnt (r9,IntKind.i64.wrap (k4 + 1))
noncomputable def Aaq (f1 : OX) (r2 : Pw) (out3 : List Int) (k4 : Int) : Option (((List Int) × Int) ⊕ ((List Int))) :=
 bif (decide (k4 < (f1.Code.length : Int))) then
  bif (decide (k4 < (r2.Keep.length : Int))) then
   Aar r2 k4 out3 f1
  else
   lft (some out3)
 else
  lft (some out3)
noncomputable def Abn (f1 : OX) (r2 : Pw) : Option ((List Int)) :=
 Pq (fun s=>Aaq f1 r2 s.1 s.2) (([] : List Int),0)

noncomputable def Xi (s4 : Int) (out5 : List Int) : Option (((List Int) × Int) ⊕ ((List Int))) :=
 cnt (out5,IntKind.i64.wrap (s4 + 1))
noncomputable def Xh (used2 : (List Int)) (r1 : Pw) (s4 : Int) (out3 : List Int) (n6 : Int) (i7 : Int) : Option ((Int × Int) ⊕ (((List Int) × Int) ⊕ ((List Int)))) :=
 bif (decide (i7 < (used2.length : Int))) then
  (ixO used2 i7).bind fun x_x8 =>
  (ixO r1.To s4).bind fun x_x9 =>
  bif (x_x8 == x_x9) then
   cnt (i7,IntKind.i64.wrap (i7 + 1))
  else
   cnt (n6,IntKind.i64.wrap (i7 + 1))
 else
  lft (
   chk (out3.length + ([n6] : List Int).length ≤ 16777216) <|
   Xi s4 (out3 ++ ([n6] : List Int)))
noncomputable def Xg (r1 : Pw) (used2 : (List Int)) (out3 : List Int) (s4 : Int) : Option (((List Int) × Int) ⊕ ((List Int))) :=
 bif (decide (s4 < (r1.To.length : Int))) then
  Pq (fun s=>Xh used2 r1 s4 out3 s.1 s.2) (0,0)
 else
  lft (some out3)
noncomputable def Xz (r1 : Pw) (used2 : (List Int)) : Option ((List Int)) :=
 Pq (fun s=>Xg r1 used2 s.1 s.2) (([] : List Int),0)

noncomputable def Yf (r1 : Pw) (out2 : List Int) (n3 : Int) (k4 : Int) : Option (((List Int) × Int × Int) ⊕ ((List Int))) :=
 bif (decide (k4 < (r1.Keep.length : Int))) then
  chk (out2.length + ([n3] : List Int).length ≤ 16777216) <|
  (ixO r1.Keep k4).bind fun x_x5 =>
  bif x_x5 then
   cnt (out2 ++ ([n3] : List Int),IntKind.i64.wrap (n3 + 1),IntKind.i64.wrap (k4 + 1))
  else
   cnt (out2 ++ ([n3] : List Int),n3,IntKind.i64.wrap (k4 + 1))
 else
  lft (some out2)
noncomputable def YD (r1 : Pw) : Option ((List Int)) :=
 Pq (fun s=>Yf r1 s.1 s.2.1 s.2.2) (([] : List Int),0,0)

noncomputable def Zw (i6 : Int) (slots7 : List Pm) : Option (((List Pm) × Int) ⊕ (OX × Int)) :=
 cnt (slots7,IntKind.i64.wrap (i6 + 1))
noncomputable def WH (r11 : (List Int)) (f1 : OX) (out5 : List Pm) (x_x9 : Pm) (i6 : Int) (s12 : Int) (k13 : Int) : Option ((Int × Int) ⊕ (((List Pm) × Int) ⊕ (OX × Int))) :=
 bif (decide (k13 < (r11.length : Int))) then
  chk (0 ≤ k13 ∧ k13 < r11.length) <|
  ((r11)[k13.toNat]?).bind fun l_e14 =>
  (ixO f1.Slots l_e14).bind fun x_x15 =>
  cnt (RH s12 x_x15.Align,IntKind.i64.wrap (k13 + 1))
 else
  lft (
   chk (([] : List Pm).length + out5.length ≤ 16777216) <|
   chk ((([] : List Pm) ++ out5).length + ([(Pm.mk x_x9.Size s12)] : List Pm).length ≤ 16777216) <|
   Zw i6 ((([] : List Pm) ++ out5) ++ ([(Pm.mk x_x9.Size s12)] : List Pm)))
noncomputable def Te (out18 : List OZ) (r22 : OZ) (k19 : Int) (x23 : Int) (x24 : Int) : Option (((List OZ) × Int) ⊕ (OX × Int)) :=
 chk (([] : List OZ).length + out18.length ≤ 16777216) <|
 chk ((([] : List OZ) ++ out18).length + ([(OZ.mk r22.Op x23 x24 r22.C r22.Imm)] : List OZ).length ≤ 16777216) <|
 cnt ((([] : List OZ) ++ out18) ++ ([(OZ.mk r22.Op x23 x24 r22.C r22.Imm)] : List OZ),IntKind.i64.wrap (k19 + 1))
noncomputable def WI (f1 : OX) (r2 : Pw) (r16 : (List Int)) (r17 : (List Int)) (out5 : List Pm) (out18 : List OZ) (k19 : Int) : Option (((List OZ) × Int) ⊕ (OX × Int)) :=
 bif (decide (k19 < (f1.Code.length : Int))) then
  (ixO r2.Keep k19).bind fun x_x20 =>
  bif (!x_x20) then
   cnt (out18,IntKind.i64.wrap (k19 + 1))
  else
   (ixO f1.Code k19).bind fun x_x21 =>
   (Va x_x21 r16).bind fun r22 =>
   bif (r22.Op == 20) then
    chk (0 ≤ r22.A ∧ r22.A < r17.length) <|
    ((r17)[r22.A.toNat]?).bind fun places_e25 =>
    Te out18 r22 k19 places_e25 r22.B
   else
    bif (r22.Op == 21) then
     chk (0 ≤ r22.B ∧ r22.B < r17.length) <|
     ((r17)[r22.B.toNat]?).bind fun places_e26 =>
     Te out18 r22 k19 r22.A places_e26
    else
     Te out18 r22 k19 r22.A r22.B
 else
  lft (some ((OX.mk f1.Params out5 out18),0))
noncomputable def Zv (r4 : (List Int)) (f1 : OX) (r2 : Pw) (out5 : List Pm) (i6 : Int) : Option (((List Pm) × Int) ⊕ (OX × Int)) :=
 bif (decide (i6 < (r4.length : Int))) then
  chk (0 ≤ i6 ∧ i6 < r4.length) <|
  ((r4)[i6.toNat]?).bind fun used_e8 =>
  (ixO f1.Slots used_e8).bind fun x_x9 =>
  chk (0 ≤ i6 ∧ i6 < r4.length) <|
  ((r4)[i6.toNat]?).bind fun used_e10 =>
  (TW r2.To used_e10).bind fun r11 =>
  Pq (fun s=>WH r11 f1 out5 x_x9 i6 s.1 s.2) (x_x9.Align,0)
 else
  lft (
   (Xz r2 r4).bind fun r16 =>
   (YD r2).bind fun r17 =>
   Pq (fun s=>WI f1 r2 r16 r17 out5 s.1 s.2) ([],0))
noncomputable def VT (f1 : OX) (r2 : Pw) : Option (OX × Int) :=
 (ZZ f1 r2).bind fun r3 =>
 bif (r3 != 0) then
  some ((OX.mk 0 ([]) ([])),r3)
 else
  (Abn f1 r2).bind fun r4 =>
  Pq (fun s=>Zv r4 f1 r2 s.1 s.2) ([],0)

noncomputable def WE (f1 : OX) (l2 : Ph) : Option ((List (List Int)) × Int) :=
 (XI f1 l2 true).bind fun r3 =>
 some (r3.1,r3.2)

noncomputable def WC (x3 : Int) (_x4 : (List Int)) (_x5 : List Int) (_x6 : Bool) : Option ((Int) ⊕ (Bool)) :=
 cnt (IntKind.i64.wrap (x3 + 1))
noncomputable def RA (g1 : (List (List Int))) (x3 : Int) (n2 : Int) (x7 : (List Int)) (x8 : List Int) (x9 : Bool) (i14 : Int) : Option ((Int) ⊕ ((Int) ⊕ (Bool))) :=
 (ixO g1 x3).bind fun x_x15 =>
 bif (decide (i14 < (x_x15.length : Int))) then
  (ixO g1 x3).bind fun x_x16 =>
  (ixO x_x16 i14).bind fun x_x17 =>
  bif (decide (x_x17 ≥ n2)) then
   lft (lft (some false))
  else
   (ixO g1 x_x17).bind fun x_x18 =>
   (TB x_x18 x3).bind fun r19 =>
   bif (!r19) then
    lft (lft (some false))
   else
    cnt (IntKind.i64.wrap (i14 + 1))
 else
  lft (WC x3 x7 x8 x9)
noncomputable def Uv (g1 : (List (List Int))) (x3 : Int) (n2 : Int) (x7 : (List Int)) (x8 : List Int) (x9 : Bool) : Option ((Int) ⊕ (Bool)) :=
 Pq (fun s=>RA g1 x3 n2 x7 x8 x9 s) 0
noncomputable def Qm (n2 : Int) (g1 : (List (List Int))) (x3 : Int) : Option ((Int) ⊕ (Bool)) :=
 bif (decide (x3 < n2)) then
  (ixO g1 x3).bind fun x_x10 =>
  (XF x_x10).bind fun r11 =>
  bif (!r11) then
   lft (some false)
  else
   (ixO g1 x3).bind fun x_x12 =>
   (TB x_x12 x3).bind fun r13 =>
   bif r13 then
    lft (some false)
   else
    Uv g1 x3 n2 x_x12 x_x12 r13
 else
  lft (some true)
noncomputable def VS (g1 : (List (List Int))) (n2 : Int) : Option (Bool) :=
 bif ((g1.length : Int) != n2) then
  some false
 else
  Pq (fun s=>Qm n2 g1 s) 0

noncomputable def YH (a1 : Pm) (b2 : Pm) : Option (Bool) :=
 bif (decide (a1.Align > b2.Align)) then
  some true
 else
  bif (a1.Align == b2.Align) then
   some (decide (a1.Size > b2.Size))
  else
   some false

noncomputable def WL (i3 : Int) (out4 : List Int) : Option (((List Int) × Int) ⊕ ((List Int))) :=
 cnt (out4,IntKind.i64.wrap (i3 + 1))
noncomputable def Se (out2 : List Int) (i3 : Int) (k5 : Int) : Option (((List Int) × Int) ⊕ ((List Int))) :=
 chk (0 ≤ k5 ∧ k5 ≤ out2.length) <|
 chk (([] : List Int).length + (out2.take k5.toNat).length ≤ 16777216) <|
 chk ((([] : List Int) ++ (out2.take k5.toNat)).length + ([i3] : List Int).length ≤ 16777216) <|
 chk (0 ≤ k5 ∧ k5 ≤ out2.length) <|
 chk (((([] : List Int) ++ (out2.take k5.toNat)) ++ ([i3] : List Int)).length + (out2.drop k5.toNat).length ≤ 16777216) <|
 WL i3 (((([] : List Int) ++ (out2.take k5.toNat)) ++ ([i3] : List Int)) ++ (out2.drop k5.toNat))
noncomputable def WK (s1 : (List Pm)) (i3 : Int) (out2 : List Int) (k6 : Int) : Option ((Int) ⊕ (((List Int) × Int) ⊕ ((List Int)))) :=
 bif (decide (k6 > 0)) then
  (ixO s1 i3).bind fun x_x7 =>
  chk (0 ≤ (IntKind.i64.wrap (k6 - 1)) ∧ (IntKind.i64.wrap (k6 - 1)) < out2.length) <|
  ((out2)[(IntKind.i64.wrap (k6 - 1)).toNat]?).bind fun out_e8 =>
  (ixO s1 out_e8).bind fun x_x9 =>
  (YH x_x7 x_x9).bind fun r10 =>
  bif r10 then
   cnt (IntKind.i64.wrap (k6 - 1))
  else
   lft (Se out2 i3 k6)
 else
  lft (Se out2 i3 k6)
noncomputable def WJ (s1 : (List Pm)) (out2 : List Int) (i3 : Int) : Option (((List Int) × Int) ⊕ ((List Int))) :=
 bif (decide (i3 < (s1.length : Int))) then
  Pq (fun s=>WK s1 i3 out2 s) (out2.length : Int)
 else
  lft (some out2)
noncomputable def VU (s1 : (List Pm)) : Option ((List Int)) :=
 Pq (fun s=>WJ s1 s.1 s.2) (([] : List Int),0)

noncomputable def QP (a1 : Pe) : Option (Bool) :=
 (Sk a1.Off).bind fun r2 =>
 bif r2 then
  (Sk a1.Size).bind fun r3 =>
  bif r3 then
   some (decide ((IntKind.i64.wrap (a1.Off + a1.Size)) ≤ 2147483647))
  else
   some false
 else
  some false

noncomputable def SD (a1 : Pe) (b2 : Pe) : Option (Bool) :=
 (QP a1).bind fun r3 =>
 bif r3 then
  (QP b2).bind fun r4 =>
  bif r4 then
   bif (decide (a1.Size > 0)) then
    bif (decide (b2.Size > 0)) then
     bif (decide (a1.Off < (IntKind.i64.wrap (b2.Off + b2.Size)))) then
      some (decide (b2.Off < (IntKind.i64.wrap (a1.Off + a1.Size))))
     else
      some false
    else
     some false
   else
    some false
  else
   some false
 else
  some false

noncomputable def Xv (used1 : (List Pe)) (x2 : Pe) (i3 : Int) : Option ((Int) ⊕ (Bool)) :=
 bif (decide (i3 < (used1.length : Int))) then
  (ixO used1 i3).bind fun x_x4 =>
  (SD x_x4 x2).bind fun r5 =>
  bif r5 then
   lft (some false)
  else
   cnt (IntKind.i64.wrap (i3 + 1))
 else
  lft (some true)
noncomputable def WX (used1 : (List Pe)) (x2 : Pe) : Option (Bool) :=
 Pq (fun s=>Xv used1 x2 s) 0

noncomputable def Tz (align4 : Int) (size3 : Int) (used1 : (List Pe)) (found12 : Bool) (i13 : Int) (best11 : Int) (at14 : Int) : Option ((Int × Bool × Int) ⊕ (Int × Int)) :=
 (VP at14 align4).bind fun r17 =>
 bif (r17.2 == 0) then
  (QP (Pe.mk r17.1 size3)).bind fun r18 =>
  bif r18 then
   (WX used1 (Pe.mk r17.1 size3)).bind fun r19 =>
   bif r19 then
    bif (!found12) then
     cnt (r17.1,true,IntKind.i64.wrap (i13 + 1))
    else
     bif (decide (r17.1 < best11)) then
      cnt (r17.1,true,IntKind.i64.wrap (i13 + 1))
     else
      cnt (best11,found12,IntKind.i64.wrap (i13 + 1))
   else
    cnt (best11,found12,IntKind.i64.wrap (i13 + 1))
  else
   cnt (best11,found12,IntKind.i64.wrap (i13 + 1))
 else
  cnt (best11,found12,IntKind.i64.wrap (i13 + 1))
noncomputable def Yz (used1 : (List Pe)) (align4 : Int) (size3 : Int) (from2 : Int) (best11 : Int) (found12 : Bool) (i13 : Int) : Option ((Int × Bool × Int) ⊕ (Int × Int)) :=
 bif (decide (i13 < (used1.length : Int))) then
  bif (decide (i13 ≥ 0)) then
   (ixO used1 i13).bind fun x_x15 =>
   (ixO used1 i13).bind fun x_x16 =>
   Tz align4 size3 used1 found12 i13 best11 (RH from2 (IntKind.i64.wrap (x_x15.Off + x_x16.Size)))
  else
   Tz align4 size3 used1 found12 i13 best11 from2
 else
  lft (
   bif (!found12) then
    some (0,9)
   else
    some (best11,0))
noncomputable def Yy (used1 : (List Pe)) (align4 : Int) (size3 : Int) (from2 : Int) (i8 : Int) : Option ((Int) ⊕ (Int × Int)) :=
 bif (decide (i8 < (used1.length : Int))) then
  (ixO used1 i8).bind fun x_x9 =>
  (QP x_x9).bind fun r10 =>
  bif (!r10) then
   lft (some (0,4))
  else
   cnt (IntKind.i64.wrap (i8 + 1))
 else
  lft (Pq (fun s=>Yz used1 align4 size3 from2 s.1 s.2.1 s.2.2) (0,false,(-1)))
noncomputable def YA (used1 : (List Pe)) (align4 : Int) (size3 : Int) (from2 : Int) : Option (Int × Int) :=
 Pq (fun s=>Yy used1 align4 size3 from2 s) 0
noncomputable def Yx (used1 : (List Pe)) (from2 : Int) (size3 : Int) (align4 : Int) : Option (Int × Int) :=
 (Sk from2).bind fun r5 =>
 bif (!r5) then
  some (0,4)
 else
  (Sk size3).bind fun r6 =>
  bif (!r6) then
   some (0,4)
  else
   (Ro align4).bind fun r7 =>
   bif (!r7) then
    some (0,4)
   else
    YA used1 align4 size3 from2

noncomputable def QA (y15 : Int) (off9 : List Int) (s1 : (List Pm)) (used14 : List Pe) (x16 : Bool) : Option (((List Pe) × Int) ⊕ (((List Bool) × (List Int) × Int) ⊕ ((List Int) × Int))) :=
 bif x16 then
  chk (0 ≤ y15 ∧ y15 < off9.length) <|
  ((off9)[y15.toNat]?).bind fun off_e20 =>
  (ixO s1 y15).bind fun x_x21 =>
  chk (used14.length + ([(Pe.mk off_e20 x_x21.Size)] : List Pe).length ≤ 16777216) <|
  cnt (used14 ++ ([(Pe.mk off_e20 x_x21.Size)] : List Pe),IntKind.i64.wrap (y15 + 1))
 else
  cnt (used14,IntKind.i64.wrap (y15 + 1))
noncomputable def VF (i10 : Int) (done11 : List Bool) (off12 : List Int) : Option (((List Bool) × (List Int) × Int) ⊕ ((List Int) × Int)) :=
 cnt (done11,off12,IntKind.i64.wrap (i10 + 1))
noncomputable def VD (s1 : (List Pm)) (done8 : List Bool) (g2 : (List (List Int))) (order_e13 : Int) (off9 : List Int) (from3 : Int) (i10 : Int) (used14 : List Pe) (y15 : Int) : Option (((List Pe) × Int) ⊕ (((List Bool) × (List Int) × Int) ⊕ ((List Int) × Int))) :=
 bif (decide (y15 < (s1.length : Int))) then
  chk (0 ≤ y15 ∧ y15 < done8.length) <|
  ((done8)[y15.toNat]?).bind fun done_e17 =>
  bif done_e17 then
   (ixO g2 order_e13).bind fun x_x18 =>
   (TB x_x18 y15).bind fun r19 =>
   QA y15 off9 s1 used14 r19
  else
   QA y15 off9 s1 used14 false
 else
  lft (
   (ixO s1 order_e13).bind fun x_x22 =>
   (ixO s1 order_e13).bind fun x_x23 =>
   (Yx used14 from3 x_x22.Size x_x23.Align).bind fun r24 =>
   bif (r24.2 != 0) then
    lft (some (([] : List Int),r24.2))
   else
    chk (0 ≤ order_e13 ∧ order_e13 < off9.length) <|
    ((off9)[order_e13.toNat]?).bind fun _ =>
    chk (0 ≤ order_e13 ∧ order_e13 < done8.length) <|
    ((done8)[order_e13.toNat]?).bind fun _ =>
    VF i10 (done8.set order_e13.toNat true) (off9.set order_e13.toNat r24.1))
noncomputable def VB (r7 : (List Int)) (s1 : (List Pm)) (g2 : (List (List Int))) (from3 : Int) (done8 : List Bool) (off9 : List Int) (i10 : Int) : Option (((List Bool) × (List Int) × Int) ⊕ ((List Int) × Int)) :=
 bif (decide (i10 < (r7.length : Int))) then
  chk (0 ≤ i10 ∧ i10 < r7.length) <|
  ((r7)[i10.toNat]?).bind fun order_e13 =>
  Pq (fun s=>VD s1 done8 g2 order_e13 off9 from3 i10 s.1 s.2) (([] : List Pe),0)
 else
  lft (some (off9,0))
noncomputable def VE (s1 : (List Pm)) (g2 : (List (List Int))) (from3 : Int) : Option ((List Int) × Int) :=
 chk (0 ≤ (s1.length : Int) ∧ (s1.length : Int) ≤ 16777216) <|
 chk (0 ≤ (s1.length : Int) ∧ (s1.length : Int) ≤ 16777216) <|
 (VU s1).bind fun r7 =>
 Pq (fun s=>VB r7 s1 g2 from3 s.1 s.2.1 s.2.2) (List.replicate (s1.length : Int).toNat false,List.replicate (s1.length : Int).toNat (0 : Int),0)
noncomputable def TC (s1 : (List Pm)) (g2 : (List (List Int))) (from3 : Int) : Option ((List Int) × Int) :=
 (Un s1).bind fun r4 =>
 bif (r4 != 0) then
  some (([] : List Int),r4)
 else
  (VS g2 (s1.length : Int)).bind fun r5 =>
  bif (!r5) then
   some (([] : List Int),4)
  else
   (Sk from3).bind fun r6 =>
   bif (!r6) then
    some (([] : List Int),4)
   else
    VE s1 g2 from3

noncomputable def Aap (p1 : Pj) (i2 : Int) (f3 : OX) : Option (Pj) :=
 chk (([] : List OX).length + p1.Funcs.length ≤ 16777216) <|
 chk (0 ≤ i2 ∧ i2 < (([] : List OX) ++ p1.Funcs).length) <|
 ((([] : List OX) ++ p1.Funcs)[i2.toNat]?).bind fun _ =>
 some (Pj.mk ((([] : List OX) ++ p1.Funcs).set i2.toNat f3))

noncomputable def AcH (p1 : Pj) (i2 : Int) (f3 : OX) : Option (Pj) :=
 (Aap p1 i2 f3).bind fun r4 =>
 some r4

noncomputable def YG (off2 : (List Int)) (i4 : Int) (s1 : (List Pm)) (n3 : Int) : Option ((Int × Int) ⊕ (Int)) :=
 (ixO off2 i4).bind fun x_x5 =>
 (ixO s1 i4).bind fun x_x6 =>
 cnt (RH n3 (IntKind.i64.wrap (x_x5 + x_x6.Size)),IntKind.i64.wrap (i4 + 1))
noncomputable def YF (s1 : (List Pm)) (off2 : (List Int)) (n3 : Int) (i4 : Int) : Option ((Int × Int) ⊕ (Int)) :=
 bif (decide (i4 < (s1.length : Int))) then
  bif (decide (i4 < (off2.length : Int))) then
   YG off2 i4 s1 n3
  else
   lft (some n3)
 else
  lft (some n3)
noncomputable def YE (s1 : (List Pm)) (off2 : (List Int)) : Option (Int) :=
 Pq (fun s=>YF s1 off2 s.1 s.2) (0,0)

noncomputable def VG (x_x5 : OX) (off4 : (List Int)) (p1 : Pj) (i2 : Int) (align3 : Int) (k6 : Int) : Option ((Int) ⊕ (Pg × Int)) :=
 bif (decide (k6 < (x_x5.Slots.length : Int))) then
  (ixO off4 k6).bind fun x_x7 =>
  (ixO x_x5.Slots k6).bind fun x_x8 =>
  (QP (Pe.mk x_x7 x_x8.Size)).bind fun r9 =>
  bif (!r9) then
   lft (some ((Pg.mk 0 0 ([])),13))
  else
   cnt (IntKind.i64.wrap (k6 + 1))
 else
  lft (
   (RP p1 i2).bind fun r10 =>
   (YE x_x5.Slots off4).bind fun r11 =>
   (VP (RH r10 r11) align3).bind fun r12 =>
   bif (r12.2 != 0) then
    some ((Pg.mk 0 0 ([])),9)
   else
    bif (decide (r12.1 > 2147483519)) then
     some ((Pg.mk 0 0 ([])),9)
    else
     chk (([] : List Int).length + off4.length ≤ 16777216) <|
     some ((Pg.mk r10 r12.1 (([] : List Int) ++ off4)),0))
noncomputable def TD (p1 : Pj) (i2 : Int) (align3 : Int) (off4 : (List Int)) : Option (Pg × Int) :=
 (ixO p1.Funcs i2).bind fun x_x5 =>
 bif ((off4.length : Int) != (x_x5.Slots.length : Int)) then
  some ((Pg.mk 0 0 ([])),13)
 else
  Pq (fun s=>VG x_x5 off4 p1 i2 align3 s) 0

noncomputable def XB (p1 : Pj) (i2 : Int) : Option (Um) :=
 (ixO p1.Funcs i2).bind fun x_x3 =>
 (Uq x_x3).bind fun r4 =>
 (ZV x_x3 r4).bind fun r5 =>
 (Vd x_x3 r5.1).bind fun r6 =>
 (Zs x_x3 r4 r6).bind fun r7 =>
 (VT x_x3 (Pw.mk r6 r7)).bind fun r8 =>
 (Uq r8.1).bind fun r9 =>
 (WE r8.1 r9).bind fun r10 =>
 (RP p1 i2).bind fun r11 =>
 (TC r8.1.Slots r10.1 r11).bind fun r12 =>
 bif (r12.2 != 0) then
  some (Um.mk r4 (Pw.mk r6 r7) r9 (Pg.mk 0 0 ([])))
 else
  (AcH p1 i2 r8.1).bind fun r13 =>
  (Up p1).bind fun r14 =>
  (TD r13 i2 r14 r12.1).bind fun r15 =>
  some (Um.mk r4 (Pw.mk r6 r7) r9 r15.1)

noncomputable def Ru (r20 : Int × Mk) (x16 : List Int) (y17 : Int) (y18 : Int) (n19 : Int) (c30 : List Int) (c31 : Int) (x32 : Bool) : Option (((List Int) × Int × (List Int) × Int × Int × Int) ⊕ (Pg × Mk)) :=
 bif x32 then
  (Rs (Mk.mk c30 c31)).bind fun r34 =>
  chk (0 ≤ r20.1 ∧ r20.1 < x16.length) <|
  ((x16)[r20.1.toNat]?).bind fun _ =>
  cnt (r34.2.list,r34.2.at_,x16.set r20.1.toNat r34.1,y17,y18,IntKind.i64.wrap (n19 - 1))
 else
  cnt (c30,c31,x16,y17,y18,IntKind.i64.wrap (n19 - 1))
noncomputable def Rt (r20 : Int × Mk) (x16 : List Int) (r21 : Int × Mk) (y17 : Int) (y18 : Int) (n19 : Int) (x25 : Bool) : Option (((List Int) × Int × (List Int) × Int × Int × Int) ⊕ (Pg × Mk)) :=
 bif x25 then
  bif (decide (r20.1 < (x16.length : Int))) then
   (Pc r21.2 (x16.length : Int)).bind fun r26 =>
   chk (0 ≤ r26.1 ∧ r26.1 < x16.length) <|
   ((x16)[r26.1.toNat]?).bind fun x_e27 =>
   chk (0 ≤ r20.1 ∧ r20.1 < x16.length) <|
   ((x16)[r20.1.toNat]?).bind fun _ =>
   cnt (r26.2.list,r26.2.at_,x16.set r20.1.toNat x_e27,y17,y18,IntKind.i64.wrap (n19 - 1))
  else
   cnt (r21.2.list,r21.2.at_,x16,y17,y18,IntKind.i64.wrap (n19 - 1))
 else
  bif (r21.1 == 5) then
   (Pc r21.2 4).bind fun r29 =>
   cnt (r29.2.list,r29.2.at_,x16,y17,IntKind.i64.wrap (y18 + (IntKind.i64.wrap (16 * (IntKind.i64.wrap (r29.1 - 2))))),IntKind.i64.wrap (n19 - 1))
  else
   bif (r21.1 == 6) then
    bif (decide (r20.1 < (x16.length : Int))) then
     (Pc r21.2 3).bind fun r33 =>
     Ru r20 x16 y17 y18 n19 r33.2.list r33.2.at_ (r33.1 == 2)
    else
     Ru r20 x16 y17 y18 n19 r21.2.list r21.2.at_ false
   else
    bif (r21.1 == 7) then
     (Pc r21.2 8).bind fun r36 =>
     bif (r36.1 == 5) then
      (Rs r36.2).bind fun r37 =>
      cnt (r37.2.list,r37.2.at_,x16,r37.1,y18,IntKind.i64.wrap (n19 - 1))
     else
      bif (r36.1 == 6) then
       (Rs r36.2).bind fun r38 =>
       cnt (r38.2.list,r38.2.at_,x16,y17,r38.1,IntKind.i64.wrap (n19 - 1))
      else
       bif (r36.1 == 7) then
        (Pc r36.2 40).bind fun r39 =>
        chk (x16.length + ([r39.1] : List Int).length ≤ 16777216) <|
        cnt (r39.2.list,r39.2.at_,x16 ++ ([r39.1] : List Int),y17,y18,IntKind.i64.wrap (n19 - 1))
       else
        cnt (r36.2.list,r36.2.at_,x16,y17,y18,IntKind.i64.wrap (n19 - 1))
    else
     cnt (r21.2.list,r21.2.at_,x16,y17,y18,IntKind.i64.wrap (n19 - 1))
noncomputable def QI (r20 : Int × Mk) (x16 : List Int) (r21 : Int × Mk) (y17 : Int) (y18 : Int) (n19 : Int) (x22 : Bool) : Option (((List Int) × Int × (List Int) × Int × Int × Int) ⊕ (Pg × Mk)) :=
 bif x22 then
  bif (decide (r20.1 < (x16.length : Int))) then
   (Pc r21.2 6).bind fun r23 =>
   chk (0 ≤ r20.1 ∧ r20.1 < x16.length) <|
   ((x16)[r20.1.toNat]?).bind fun _ =>
   cnt (r23.2.list,r23.2.at_,x16.set r20.1.toNat (IntKind.i64.wrap (y17 + (IntKind.i64.wrap (8 * r23.1)))),y17,y18,IntKind.i64.wrap (n19 - 1))
  else
   cnt (r21.2.list,r21.2.at_,x16,y17,y18,IntKind.i64.wrap (n19 - 1))
 else
  bif (r21.1 == 3) then
   Rt r20 x16 r21 y17 y18 n19 (r21.1 == 3)
  else
   Rt r20 x16 r21 y17 y18 n19 (r21.1 == 4)
noncomputable def Ui (c14 : List Int) (c15 : Int) (x16 : List Int) (y17 : Int) (y18 : Int) (n19 : Int) : Option (((List Int) × Int × (List Int) × Int × Int × Int) ⊕ (Pg × Mk)) :=
 bif (decide (n19 > 0)) then
  (Pc (Mk.mk c14 c15) (RH 1 (x16.length : Int))).bind fun r20 =>
  (Pc r20.2 8).bind fun r21 =>
  bif (r21.1 == 0) then
   QI r20 x16 r21 y17 y18 n19 (r21.1 == 0)
  else
   bif (r21.1 == 1) then
    QI r20 x16 r21 y17 y18 n19 (r21.1 == 1)
   else
    QI r20 x16 r21 y17 y18 n19 (r21.1 == 2)
 else
  lft (some ((Pg.mk y17 y18 x16),(Mk.mk c14 c15)))
noncomputable def QH (c6 : List Int) (c7 : Int) (y8 : Int) (y9 : Int) (y10 : List Int) : Option (Pg × Mk) :=
 chk (([] : List Int).length + y10.length ≤ 16777216) <|
 (Pc (Mk.mk c6 c7) 4).bind fun r13 =>
 Pq (fun s=>Ui s.1 s.2.1 s.2.2.1 s.2.2.2.1 s.2.2.2.2.1 s.2.2.2.2.2) (r13.2.list,r13.2.at_,([] : List Int) ++ y10,y8,y9,r13.1)
noncomputable def TY (c1 : Mk) (p2 : Pj) (i3 : Int) (align4 : Int) : Option (Pg × Mk) :=
 (Sf p2 i3 align4).bind fun r5 =>
 (Pc c1 3).bind fun r11 =>
 bif (r11.1 == 0) then
  (XB p2 i3).bind fun r12 =>
  bif ((r12.Layout.Off.length : Int) == (r5.1.Off.length : Int)) then
   QH r11.2.list r11.2.at_ r12.Layout.Args r12.Layout.Size r12.Layout.Off
  else
   QH r11.2.list r11.2.at_ r5.1.Args r5.1.Size r5.1.Off
 else
  QH r11.2.list r11.2.at_ r5.1.Args r5.1.Size r5.1.Off

noncomputable def Ut (r3 : Pj × Mk) (r4 : Int × Mk) (r5 : Int) (l8 : List (List Int)) (x9 : List Int) (x10 : Int) : Option (Pj × Int × Int × Ph × Pg × Mk) :=
 (TY (Mk.mk x9 x10) r3.1 r4.1 r5).bind fun r14 =>
 some (r3.1,r4.1,r5,(Ph.mk l8),r14.1,r14.2)
noncomputable def ZP (codes1 : (List Int)) : Option (Pj × Int × Int × Ph × Pg × Mk) :=
 (AcP codes1 300).bind fun r2 =>
 (Tw r2 3 14).bind fun r3 =>
 (Pc r3.2 (r3.1.Funcs.length : Int)).bind fun r4 =>
 (Up r3.1).bind fun r5 =>
 (ixO r3.1.Funcs r4.1).bind fun x_x6 =>
 (SY r4.2 x_x6).bind fun r7 =>
 (Pc r7.2 4).bind fun r11 =>
 bif (r11.1 == 3) then
  (ixO r3.1.Funcs r4.1).bind fun x_x12 =>
  (Vi r11.2 x_x12).bind fun r13 =>
  Ut r3 r4 r5 r13.1.Out r13.2.list r13.2.at_
 else
  Ut r3 r4 r5 r7.1.Out r11.2.list r11.2.at_

noncomputable def QQ (n1 : Int) : Option (Bool) :=
 bif (decide (n1 ≥ 0)) then
  some (decide (n1 < 512))
 else
  some false

noncomputable def RF (s1 : (List Int)) (x2 : Int) : Option ((Int) ⊕ (Bool)) :=
 bif (decide (x2 < (s1.length : Int))) then
  (ixO s1 x2).bind fun x_x3 =>
  (QQ x_x3).bind fun r4 =>
  bif (!r4) then
   lft (some false)
  else
   bif (decide (x2 > 0)) then
    (ixO s1 (IntKind.i64.wrap (x2 - 1))).bind fun x_x5 =>
    bif (decide (x_x3 ≤ x_x5)) then
     lft (some false)
    else
     cnt (IntKind.i64.wrap (x2 + 1))
   else
    cnt (IntKind.i64.wrap (x2 + 1))
 else
  lft (some true)
noncomputable def Yk (s1 : (List Int)) : Option (Bool) :=
 Pq (fun s=>RF s1 s) 0

noncomputable def Sa (s1 : (List Int)) (cap2 : OX) : Option (Bool) :=
 (Yk s1).bind fun r3 =>
 bif (!r3) then
  some true
 else
  bif (decide ((s1.length : Int) > 0)) then
   (ixO s1 (IntKind.i64.wrap ((s1.length : Int) - 1))).bind fun x_x4 =>
   some (decide (x_x4 ≥ (cap2.Slots.length : Int)))
  else
   some false

noncomputable def Qq (s1 : (List (List Int))) (f2 : OX) (x3 : Int) : Option ((Int) ⊕ (Int)) :=
 bif (decide (x3 < (s1.length : Int))) then
  (ixO s1 x3).bind fun x_x4 =>
  (Sa x_x4 f2).bind fun r5 =>
  bif r5 then
   lft (some x3)
  else
   cnt (IntKind.i64.wrap (x3 + 1))
 else
  lft (some (-1))
noncomputable def Qe (s1 : (List (List Int))) (f2 : OX) : Option (Int) :=
 Pq (fun s=>Qq s1 f2 s) 0

noncomputable def Qp (s1 : (List (List Int))) (f2 : OX) : Option (Bool) :=
 (Qe s1 f2).bind fun r3 =>
 some (decide (r3 ≥ 0))

noncomputable def SZ (f1 : OX) (l2 : Ph) : Option (Bool) :=
 bif ((l2.Out.length : Int) == (f1.Code.length : Int)) then
  (Qp l2.Out f1).bind fun r3 =>
  some (!r3)
 else
  some false

noncomputable def YU (l1 : Ph) : Option (Ph) :=
 some l1

noncomputable def Zz (op1 : Int) : Option (Bool) :=
 bif (op1 == 20) then
  some true
 else
  bif (op1 == 23) then
   some true
  else
   some (op1 == 24)

noncomputable def Yq (x_x3 : OZ) (l4 : List Int) : Option ((List Int)) :=
 bif (x_x3.Op == 20) then
  chk (l4.length + ([x_x3.A] : List Int).length ≤ 16777216) <|
  chk ((l4 ++ ([x_x3.A] : List Int)).length < 4611686018427387904) <|
  chk ((XK (l4 ++ ([x_x3.A] : List Int))).length < 4611686018427387904) <|
  some (Lib.compact (XK (l4 ++ ([x_x3.A] : List Int))))
 else
  bif (x_x3.Op == 21) then
   chk (l4.length + ([x_x3.B] : List Int).length ≤ 16777216) <|
   chk ((l4 ++ ([x_x3.B] : List Int)).length < 4611686018427387904) <|
   chk ((XK (l4 ++ ([x_x3.B] : List Int))).length < 4611686018427387904) <|
   some (Lib.compact (XK (l4 ++ ([x_x3.B] : List Int))))
  else
   chk (l4.length < 4611686018427387904) <|
   chk ((XK l4).length < 4611686018427387904) <|
   some (Lib.compact (XK l4))
noncomputable def Aba (f1 : OX) (k2 : Int) : Option ((List Int)) :=
 (ixO f1.Code k2).bind fun x_x3 =>
 (Zz x_x3.Op).bind fun r5 =>
 bif (!r5) then
  chk (([] : List Int).length + ([IntKind.i64.wrap (k2 + 1)] : List Int).length ≤ 16777216) <|
  Yq x_x3 (([] : List Int) ++ ([IntKind.i64.wrap (k2 + 1)] : List Int))
 else
  Yq x_x3 ([] : List Int)
noncomputable def AbZ (f1 : OX) (k2 : Int) : Option ((List Int)) :=
 bif (decide (k2 < 0)) then
  some ([] : List Int)
 else
  bif (decide (k2 ≥ (f1.Code.length : Int))) then
   some ([] : List Int)
  else
   Aba f1 k2

noncomputable def UQ (j1 : Int) (cap2 : Ph) : Option ((List Int)) :=
 (ixO cap2.Out j1).bind fun x_x3 =>
 some x_x3

noncomputable def Ur (x1 : OZ) : Option (Int × Bool) :=
 bif (x1.Op == 16) then
  bif (x1.Op == 16) then
   some (x1.A,true)
  else
   some (0,false)
 else
  bif (x1.Op == 17) then
   some (x1.A,true)
  else
   some (0,false)

noncomputable def RS (s1 : OY) (n2 : Int) (in3 : Bool) : Option (OY) :=
 chk (0 ≤ ((IntKind.u64.wrap (n2)).tmod 64)) <|
 (QQ n2).bind fun r4 =>
 bif (!r4) then
  some s1
 else
  bif in3 then
   chk (0 ≤ (IntKind.i64.wrap (n2.tdiv 64)) ∧ (IntKind.i64.wrap (n2.tdiv 64)) < 8) <|
   ((s1.toList)[(IntKind.i64.wrap (n2.tdiv 64)).toNat]?).bind fun s_e5 =>
   chk (0 ≤ (IntKind.i64.wrap (n2.tdiv 64)) ∧ (IntKind.i64.wrap (n2.tdiv 64)) < 8) <|
   ((s1.toList)[(IntKind.i64.wrap (n2.tdiv 64)).toNat]?).bind fun _ =>
   some (s1.set ((IntKind.i64.wrap (n2.tdiv 64)).toNat) (IntKind.u64.wrap ((BitVec.ofInt IntKind.u64.bits s_e5 ||| BitVec.ofInt IntKind.u64.bits (IntKind.u64.wrap (1 * 2 ^ (Nat.min ((IntKind.u64.wrap (n2)).tmod 64).toNat IntKind.u64.bits)))).toNat)))
  else
   chk (0 ≤ (IntKind.i64.wrap (n2.tdiv 64)) ∧ (IntKind.i64.wrap (n2.tdiv 64)) < 8) <|
   ((s1.toList)[(IntKind.i64.wrap (n2.tdiv 64)).toNat]?).bind fun s_e7 =>
   chk (0 ≤ (IntKind.i64.wrap (n2.tdiv 64)) ∧ (IntKind.i64.wrap (n2.tdiv 64)) < 8) <|
   ((s1.toList)[(IntKind.i64.wrap (n2.tdiv 64)).toNat]?).bind fun _ =>
   some (s1.set ((IntKind.i64.wrap (n2.tdiv 64)).toNat) (IntKind.u64.wrap ((BitVec.ofInt IntKind.u64.bits s_e7 &&& ~~~ BitVec.ofInt IntKind.u64.bits (IntKind.u64.wrap (1 * 2 ^ (Nat.min ((IntKind.u64.wrap (n2)).tmod 64).toNat IntKind.u64.bits)))).toNat)))

noncomputable def WN (l1 : (List Int)) (x2 : OY) (x3 : Int) : Option ((OY × Int) ⊕ (OY)) :=
 bif (decide (x3 < (l1.length : Int))) then
  (ixO l1 x3).bind fun x_x4 =>
  (RS x2 x_x4 true).bind fun r5 =>
  cnt (r5,IntKind.i64.wrap (x3 + 1))
 else
  lft (some x2)
noncomputable def Rn (l1 : (List Int)) : Option (OY) :=
 Pq (fun s=>WN l1 s.1 s.2) ((OY.mk 0 0 0 0 0 0 0 0),0)

noncomputable def Th (x3 : Int) (l5 : List Int) (x6 : Int) : Option (((List Int) × Int) ⊕ (((List Int) × Int) ⊕ ((List Int) × OY))) :=
 bif (x6 != 0) then
  (AeT x6).bind fun r7 =>
  chk (l5.length + ([IntKind.i64.wrap ((IntKind.i64.wrap (64 * x3)) + r7)] : List Int).length ≤ 16777216) <|
  cnt (l5 ++ ([IntKind.i64.wrap ((IntKind.i64.wrap (64 * x3)) + r7)] : List Int),IntKind.u64.wrap ((BitVec.ofInt IntKind.u64.bits x6 &&& BitVec.ofInt IntKind.u64.bits (IntKind.u64.wrap (x6 - 1))).toNat))
 else
  lft (cnt (l5,IntKind.i64.wrap (x3 + 1)))
noncomputable def Tg (s1 : OY) (l2 : List Int) (x3 : Int) : Option (((List Int) × Int) ⊕ ((List Int) × OY)) :=
 bif (decide (x3 < 8)) then
  chk (0 ≤ x3 ∧ x3 < 8) <|
  ((s1.toList)[x3.toNat]?).bind fun s_e4 =>
  Pq (fun s=>Th x3 s.1 s.2) (l2,s_e4)
 else
  lft (some (l2,s1))
noncomputable def Qt (s1 : OY) : Option ((List Int) × OY) :=
 Pq (fun s=>Tg s1 s.1 s.2) (([] : List Int),0)

noncomputable def UU (s1 : (List Int)) (n2 : Int) : Option ((List Int)) :=
 (Rn s1).bind fun r3 =>
 (RS r3 n2 false).bind fun r4 =>
 (Qt r4).bind fun r5 =>
 some r5.1

noncomputable def XD (x1 : OZ) : Option ((List Int)) :=
 bif (x1.Op == 15) then
  bif (x1.Op == 15) then
   some ([x1.B] : List Int)
  else
   some ([] : List Int)
 else
  bif (x1.Op == 17) then
   some ([x1.B] : List Int)
  else
   some ([] : List Int)

noncomputable def Yl (l1 : (List Int)) : Option ((List Int)) :=
 (Rn l1).bind fun r2 =>
 (Qt r2).bind fun r3 =>
 some r3.1

noncomputable def Wn (x1 : Int) (y2 : Int) : Option (Int) :=
 some (IntKind.u64.wrap ((BitVec.ofInt IntKind.u64.bits x1 ||| BitVec.ofInt IntKind.u64.bits y2).toNat))

noncomputable def Qo (s1 : OY) (t2 : OY) (x3 : OY) (x4 : Int) : Option ((OY × Int) ⊕ (OY × OY × OY)) :=
 bif (decide (x4 < 8)) then
  chk (0 ≤ x4 ∧ x4 < 8) <|
  ((s1.toList)[x4.toNat]?).bind fun s_e5 =>
  chk (0 ≤ x4 ∧ x4 < 8) <|
  ((t2.toList)[x4.toNat]?).bind fun t_e6 =>
  (Wn s_e5 t_e6).bind fun r7 =>
  chk (0 ≤ x4 ∧ x4 < 8) <|
  ((x3.toList)[x4.toNat]?).bind fun _ =>
  cnt ((x3.set x4.toNat r7),IntKind.i64.wrap (x4 + 1))
 else
  lft (some (x3,s1,t2))
noncomputable def QC (s1 : OY) (t2 : OY) : Option (OY × OY × OY) :=
 Pq (fun s=>Qo s1 t2 s.1 s.2) ((OY.mk 0 0 0 0 0 0 0 0),0)

noncomputable def Tt (a1 : (List Int)) (b2 : (List Int)) : Option ((List Int)) :=
 (Rn a1).bind fun r3 =>
 (Rn b2).bind fun r4 =>
 (QC r3 r4).bind fun r5 =>
 (Qt r5.1).bind fun r6 =>
 some r6.1

noncomputable def AbY (x1 : OZ) (out2 : (List Int)) : Option ((List Int)) :=
 (Ur x1).bind fun r3 =>
 bif r3.2 then
  (UU out2 r3.1).bind fun r4 =>
  (XD x1).bind fun r5 =>
  (Yl r5).bind fun r6 =>
  (Tt r4 r6).bind fun r7 =>
  some r7
 else
  (XD x1).bind fun r8 =>
  (Yl r8).bind fun r9 =>
  (Tt out2 r9).bind fun r10 =>
  some r10

noncomputable def Wm (x1 : Int) (y2 : Int) : Option (Int) :=
 some (IntKind.u64.wrap ((BitVec.ofInt IntKind.u64.bits x1 &&& ~~~ BitVec.ofInt IntKind.u64.bits y2).toNat))

noncomputable def Qn (s1 : OY) (t2 : OY) (x3 : OY) (x4 : Int) : Option ((OY × Int) ⊕ (OY × OY × OY)) :=
 bif (decide (x4 < 8)) then
  chk (0 ≤ x4 ∧ x4 < 8) <|
  ((s1.toList)[x4.toNat]?).bind fun s_e5 =>
  chk (0 ≤ x4 ∧ x4 < 8) <|
  ((t2.toList)[x4.toNat]?).bind fun t_e6 =>
  (Wm s_e5 t_e6).bind fun r7 =>
  chk (0 ≤ x4 ∧ x4 < 8) <|
  ((x3.toList)[x4.toNat]?).bind fun _ =>
  cnt ((x3.set x4.toNat r7),IntKind.i64.wrap (x4 + 1))
 else
  lft (some (x3,s1,t2))
noncomputable def QB (s1 : OY) (t2 : OY) : Option (OY × OY × OY) :=
 Pq (fun s=>Qn s1 t2 s.1 s.2) ((OY.mk 0 0 0 0 0 0 0 0),0)

noncomputable def Wl (a1 : (List Int)) (b2 : (List Int)) : Option ((List Int)) :=
 (Rn a1).bind fun r3 =>
 (Rn b2).bind fun r4 =>
 (QB r3 r4).bind fun r5 =>
 (Qt r5.1).bind fun r6 =>
 some r6.1

noncomputable def Sg (need1 : (List Int)) (cap2 : (List Int)) (cap3 : Ph) (cap4 : Int) : Option (Bool × (List Int)) :=
 (ixO cap3.Out cap4).bind fun x_x5 =>
 (Wl need1 x_x5).bind fun r6 =>
 (Tt cap2 r6).bind fun r7 =>
 some (true,r7)

noncomputable def PL (r7 : (List Int)) (f1 : OX) (set3 : Ph) (visit5 : Ph) (visit6 : Int) (x8 : List Int) (x9 : Int) : Option (((List Int) × Int) ⊕ (Bool × (List Int))) :=
 bif (decide (x9 < (r7.length : Int))) then
  chk (0 ≤ x9 ∧ x9 < r7.length) <|
  ((r7)[x9.toNat]?).bind fun x_e10 =>
  (ixO f1.Code x_e10).bind fun x_x11 =>
  (UQ x_e10 set3).bind fun r12 =>
  (AbY x_x11 r12).bind fun r13 =>
  (Sg r13 x8 visit5 visit6).bind fun r14 =>
  bif (!r14.1) then
   lft (some (false,r14.2))
  else
   cnt (r14.2,IntKind.i64.wrap (x9 + 1))
 else
  lft (some (true,x8))
noncomputable def Qd (f1 : OX) (k2 : Int) (set3 : Ph) (visit4 : (List Int)) (visit5 : Ph) (visit6 : Int) : Option (Bool × (List Int)) :=
 (AbZ f1 k2).bind fun r7 =>
 Pq (fun s=>PL r7 f1 set3 visit5 visit6 s.1 s.2) (visit4,0)

noncomputable def Vu (f1 : OX) (l2 : Ph) (x4 : Int) : Option ((Int) ⊕ (Int × Int × Bool)) :=
 bif (decide (x4 < (f1.Code.length : Int))) then
  (YU l2).bind fun r5 =>
  (Qd f1 x4 r5 ([]) l2 x4).bind fun r6 =>
  bif (decide ((r6.2.length : Int) > 0)) then
   (ixO r6.2 0).bind fun x_x7 =>
   lft (some (x4,x_x7,true))
  else
   cnt (IntKind.i64.wrap (x4 + 1))
 else
  lft (some (0,0,false))
noncomputable def Vt (f1 : OX) (l2 : Ph) : Option (Int × Int × Bool) :=
 (SZ f1 l2).bind fun r3 =>
 bif (!r3) then
  some (0,0,false)
 else
  Pq (fun s=>Vu f1 l2 s) 0

noncomputable def Vs (f1 : OX) (l2 : Ph) : Option (Int) :=
 (SZ f1 l2).bind fun r3 =>
 bif (!r3) then
  some 11
 else
  (Vt f1 l2).bind fun r4 =>
  bif r4.2.2 then
   some 11
  else
   some 0

noncomputable def Rx (s1 : Pp) (l2 : Ph) : Option (Int) :=
 (Ry s1).bind fun r3 =>
 bif (r3 != 0) then
  some r3
 else
  (Vs s1.f l2).bind fun r4 =>
  bif (r4 != 0) then
   some 11
  else
   some 0

noncomputable def AbT (a1 : Pe) (b2 : Pe) : Option (Bool) :=
 some (decide ((RH a1.Off b2.Off) < (Sm (IntKind.i64.wrap (a1.Off + a1.Size)) (IntKind.i64.wrap (b2.Off + b2.Size)))))

noncomputable def Wo (a1 : Pe) (b2 : Pe) : Option (Bool) :=
 (UB a1).bind fun r3 =>
 bif r3 then
  (UB b2).bind fun r4 =>
  bif r4 then
   (AbT a1 b2).bind fun r5 =>
   some r5
  else
   some false
 else
  some false

noncomputable def SM (x_x8 : (List Int)) (r5 : Int × Bool) (s1 : Pp) (x9 : Int) : Option ((Int) ⊕ (Int × Bool)) :=
 bif (decide (x9 < (x_x8.length : Int))) then
  (ixO x_x8 x9).bind fun x_x10 =>
  bif (x_x10 != r5.1) then
   (PZ s1 x_x10).bind fun r11 =>
   (PZ s1 r5.1).bind fun r12 =>
   (Wo r11 r12).bind fun r13 =>
   bif r13 then
    lft (some (x_x10,true))
   else
    cnt (IntKind.i64.wrap (x9 + 1))
  else
   cnt (IntKind.i64.wrap (x9 + 1))
 else
  lft (some (0,false))
noncomputable def QG (l2 : Ph) (k3 : Int) (r5 : Int × Bool) (s1 : Pp) : Option (Int × Bool) :=
 (ixO l2.Out k3).bind fun x_x8 =>
 Pq (fun s=>SM x_x8 r5 s1 s) 0
noncomputable def Sp (s1 : Pp) (l2 : Ph) (k3 : Int) : Option (Int × Bool) :=
 (ixO s1.f.Code k3).bind fun x_x4 =>
 (Ur x_x4).bind fun r5 =>
 bif (!r5.2) then
  some (0,false)
 else
  bif (x_x4.Op == 17) then
   (ixO s1.y.Off x_x4.A).bind fun x_x6 =>
   (ixO s1.y.Off x_x4.B).bind fun x_x7 =>
   bif (x_x6 == x_x7) then
    some (0,false)
   else
    QG l2 k3 r5 s1
  else
   QG l2 k3 r5 s1

noncomputable def SN (s1 : Pp) (l2 : Ph) (x3 : Int) : Option ((Int) ⊕ (Int × Int × Bool)) :=
 bif (decide (x3 < (s1.f.Code.length : Int))) then
  (Sp s1 l2 x3).bind fun r4 =>
  bif r4.2 then
   lft (some (x3,r4.1,true))
  else
   cnt (IntKind.i64.wrap (x3 + 1))
 else
  lft (some (0,0,false))
noncomputable def Rv (s1 : Pp) (l2 : Ph) : Option (Int × Int × Bool) :=
 Pq (fun s=>SN s1 l2 s) 0

noncomputable def Yt (p1 : Pj) (i2 : Int) (align3 : Int) (l4 : Ph) (y5 : Pg) : Option (Int × Int × Bool) :=
 (ixO p1.Funcs i2).bind fun x_x6 =>
 (Rx (Pp.mk p1 i2 align3 x_x6 y5) l4).bind fun r7 =>
 bif (r7 != 0) then
  some (0,0,false)
 else
  (Rv (Pp.mk p1 i2 align3 x_x6 y5) l4).bind fun r8 =>
  some (r8.1,r8.2.1,r8.2.2)

noncomputable def Ys (p1 : Pj) (i2 : Int) (align3 : Int) (l4 : Ph) (y5 : Pg) : Option (Int) :=
 (ixO p1.Funcs i2).bind fun x_x6 =>
 (Rx (Pp.mk p1 i2 align3 x_x6 y5) l4).bind fun r7 =>
 bif (r7 != 0) then
  some r7
 else
  (Rv (Pp.mk p1 i2 align3 x_x6 y5) l4).bind fun r8 =>
  bif r8.2.2 then
   some 13
  else
   some 0

noncomputable def Qx (r3 : Pj × Int × Int × Ph × Pg × Mk) (r5 : Ph × Mk) (r9 : Pg × Int) : Option (Bool) :=
 (Yt r3.1 r3.2.1 r3.2.2.1 r5.1 r9.1).bind fun r10 =>
 (Sf r3.1 r3.2.1 r3.2.2.1).bind fun r11 =>
 bif (!r10.2.2) then
  (Ys r3.1 r3.2.1 r3.2.2.1 r5.1 r9.1).bind fun r12 =>
  some ((r12 == 0) == (decide (r9.1.Size ≤ r11.1.Size)))
 else
  some false
noncomputable def Qi (codes1 : (List Int)) : Option (Bool) :=
 (ZO).bind fun r2 =>
 bif (!r2) then
  some false
 else
  (ZP codes1).bind fun r3 =>
  (ixO r3.1.Funcs r3.2.1).bind fun x_x4 =>
  (SY r3.2.2.2.2.2 x_x4).bind fun r5 =>
  (WE x_x4 r5.1).bind fun r6 =>
  (RP r3.1 r3.2.1).bind fun r7 =>
  (TC x_x4.Slots r6.1 r7).bind fun r8 =>
  (TD r3.1 r3.2.1 r3.2.2.1 r8.1).bind fun r9 =>
  bif (r6.2 != 0) then
   some false
  else
   bif (r8.2 != 0) then
    some false
   else
    bif (r9.2 != 0) then
     some false
    else
     Qx r3 r5 r9

noncomputable def Abe (a1 : Pe) (size2 : Int) : Option (Bool) :=
 (QP a1).bind fun r3 =>
 bif r3 then
  some (decide ((IntKind.i64.wrap (a1.Off + a1.Size)) ≤ size2))
 else
  some false

noncomputable def AjM (x_x6 : OX) (y4 : Pg) (align3 : Int) (r5 : Pg × Int) (k8 : Int) : Option ((Int) ⊕ (Int)) :=
 bif (decide (k8 < (x_x6.Slots.length : Int))) then
  (ixO y4.Off k8).bind fun x_x9 =>
  bif (decide (x_x9 < y4.Args)) then
   lft (some 13)
  else
   (ixO y4.Off k8).bind fun x_x10 =>
   (ixO x_x6.Slots k8).bind fun x_x11 =>
   chk (x_x11.Align ≠ 0) <|
   bif ((x_x10.tmod x_x11.Align) != 0) then
    lft (some 13)
   else
    (ixO y4.Off k8).bind fun x_x12 =>
    (ixO x_x6.Slots k8).bind fun x_x13 =>
    (Abe (Pe.mk x_x12 x_x13.Size) y4.Size).bind fun r14 =>
    bif (!r14) then
     lft (some 13)
    else
     cnt (IntKind.i64.wrap (k8 + 1))
 else
  lft (
   chk (align3 ≠ 0) <|
   bif ((y4.Size.tmod align3) != 0) then
    some 13
   else
    bif (decide (y4.Size < y4.Args)) then
     some 13
    else
     bif (decide (y4.Size > r5.1.Size)) then
      some 13
     else
      some 0)
noncomputable def AjN (x_x6 : OX) (y4 : Pg) (align3 : Int) (r5 : Pg × Int) : Option (Int) :=
 Pq (fun s=>AjM x_x6 y4 align3 r5 s) 0
noncomputable def Ahk (p1 : Pj) (i2 : Int) (align3 : Int) (y4 : Pg) : Option (Int) :=
 (Sf p1 i2 align3).bind fun r5 =>
 bif (r5.2 != 0) then
  some r5.2
 else
  (ixO p1.Funcs i2).bind fun x_x6 =>
  (RP p1 i2).bind fun r7 =>
  bif (y4.Args != r7) then
   some 13
  else
   bif ((y4.Off.length : Int) != (x_x6.Slots.length : Int)) then
    some 13
   else
    AjN x_x6 y4 align3 r5

noncomputable def AjO (l2 : Ph) (k4 : Int) (r6 : Int × Bool) (y3 : Pg) (f1 : OX) (i9 : Int) : Option ((Int) ⊕ (Int × Bool)) :=
 (ixO l2.Out k4).bind fun x_x10 =>
 bif (decide (i9 < (x_x10.length : Int))) then
  (ixO l2.Out k4).bind fun x_x11 =>
  (ixO x_x11 i9).bind fun x_x12 =>
  bif (x_x12 != r6.1) then
   (ixO y3.Off x_x12).bind fun x_x13 =>
   (ixO f1.Slots x_x12).bind fun x_x14 =>
   (ixO y3.Off r6.1).bind fun x_x15 =>
   (ixO f1.Slots r6.1).bind fun x_x16 =>
   (SD (Pe.mk x_x13 x_x14.Size) (Pe.mk x_x15 x_x16.Size)).bind fun r17 =>
   bif r17 then
    lft (some (x_x12,true))
   else
    cnt (IntKind.i64.wrap (i9 + 1))
  else
   cnt (IntKind.i64.wrap (i9 + 1))
 else
  lft (some (0,false))
noncomputable def AeH (l2 : Ph) (k4 : Int) (r6 : Int × Bool) (y3 : Pg) (f1 : OX) : Option (Int × Bool) :=
 Pq (fun s=>AjO l2 k4 r6 y3 f1 s) 0
noncomputable def AmG (f1 : OX) (l2 : Ph) (y3 : Pg) (k4 : Int) : Option (Int × Bool) :=
 (ixO f1.Code k4).bind fun x_x5 =>
 (Rq x_x5).bind fun r6 =>
 bif (!r6.2) then
  some (0,false)
 else
  bif (x_x5.Op == 17) then
   (ixO y3.Off x_x5.A).bind fun x_x7 =>
   (ixO y3.Off x_x5.B).bind fun x_x8 =>
   bif (x_x7 == x_x8) then
    some (0,false)
   else
    AeH l2 k4 r6 y3 f1
  else
   AeH l2 k4 r6 y3 f1

noncomputable def AjK (p1 : Pj) (i2 : Int) (l4 : Ph) (y5 : Pg) (k9 : Int) : Option ((Int) ⊕ (Int × Int × Bool)) :=
 (ixO p1.Funcs i2).bind fun x_x10 =>
 bif (decide (k9 < (x_x10.Code.length : Int))) then
  (ixO p1.Funcs i2).bind fun x_x11 =>
  (AmG x_x11 l4 y5 k9).bind fun r12 =>
  bif r12.2 then
   lft (some (k9,r12.1,true))
  else
   cnt (IntKind.i64.wrap (k9 + 1))
 else
  lft (some (0,0,false))
noncomputable def AjL (p1 : Pj) (i2 : Int) (l4 : Ph) (y5 : Pg) : Option (Int × Int × Bool) :=
 Pq (fun s=>AjK p1 i2 l4 y5 s) 0
noncomputable def AmF (p1 : Pj) (i2 : Int) (align3 : Int) (l4 : Ph) (y5 : Pg) : Option (Int × Int × Bool) :=
 (Ahk p1 i2 align3 y5).bind fun r6 =>
 bif (r6 != 0) then
  some (0,0,false)
 else
  (ixO p1.Funcs i2).bind fun x_x7 =>
  (VR x_x7 l4).bind fun r8 =>
  bif (r8 != 0) then
   some (0,0,false)
  else
   AjL p1 i2 l4 y5

noncomputable def ApX (p1 : Pj) (i2 : Int) (align3 : Int) (l4 : Ph) (y5 : Pg) : Option (Int) :=
 (Ahk p1 i2 align3 y5).bind fun r6 =>
 bif (r6 != 0) then
  some r6
 else
  (ixO p1.Funcs i2).bind fun x_x7 =>
  (VR x_x7 l4).bind fun r8 =>
  bif (r8 != 0) then
   some r8
  else
   (AmF p1 i2 align3 l4 y5).bind fun r9 =>
   bif r9.2.2 then
    some 13
   else
    some 0

end Go.Proofs.YtnldnldmgceooaaGreatDoor
