/-
 The programs on typed data; written by a program (dx.py).
-/
import Derived.Test.YtnldnldmgceooaaGreatDoorDxT
namespace Go.Proofs.YtnldnldmgceooaaGreatDoor
open Go Go.Dw Go.Proofs
set_option maxRecDepth 100000
set_option maxHeartbeats 4000000
noncomputable def Abb (x_x3 : OX) (p1 : Ph) (x4 : Int) (n5 : Int) : Option ((Int × Int) ⊕ (Int)) :=
 bif (decide (x4 < (x_x3.Code.length : Int))) then
  (ixO x_x3.Code x4).bind fun x_x6 =>
  bif (x_x6.Op == 18) then
   cnt (IntKind.i64.wrap (x4 + 1),RI n5 (IntKind.i64.wrap (x_x6.A + 1)))
  else
   bif (x_x6.Op == 22) then
    (ixO p1.Funcs x_x6.A).bind fun x_x7 =>
    cnt (IntKind.i64.wrap (x4 + 1),RI n5 x_x7.Params)
   else
    cnt (IntKind.i64.wrap (x4 + 1),n5)
 else
  lft (some (IntKind.i64.wrap (16 * n5)))
noncomputable def Yp (p1 : Ph) (i2 : Int) : Option (Int) :=
 (ixO p1.Funcs i2).bind fun x_x3 =>
 Pq (fun s=>Abb x_x3 p1 s.1 s.2) (0,0)

noncomputable def Ty (n1 : Int) : Option (Bool) :=
 bif (decide (n1 ≥ 0)) then
  some (decide (n1 ≤ 2147483647))
 else
  some false

noncomputable def Yj (n1 : Int) : Option (Bool) :=
 bif (decide (n1 ≥ 1)) then
  bif (decide (n1 ≤ 16777216)) then
   some ((IntKind.i64.wrap ((BitVec.ofInt IntKind.i64.bits n1 &&& BitVec.ofInt IntKind.i64.bits (IntKind.i64.wrap (n1 - 1))).toNat)) == 0)
  else
   some false
 else
  some false

noncomputable def AdK (n1 : Int) (align2 : Int) : Option (Int) :=
 some (IntKind.i64.wrap ((BitVec.ofInt IntKind.i64.bits (IntKind.i64.wrap ((IntKind.i64.wrap (n1 + align2)) - 1)) &&& ~~~ BitVec.ofInt IntKind.i64.bits (IntKind.i64.wrap (align2 - 1))).toNat))

noncomputable def Uq (n1 : Int) : Option (Int × Int) :=
 bif (decide (n1 > 2147483647)) then
  some (0,9)
 else
  some (n1,0)

noncomputable def AaW (n1 : Int) (align2 : Int) : Option (Int × Int) :=
 (AdK n1 align2).bind fun r5 =>
 (Uq r5).bind fun r6 =>
 some (r6.1,r6.2)
noncomputable def AaD (n1 : Int) (align2 : Int) : Option (Int × Int) :=
 (Ty n1).bind fun r3 =>
 bif (!r3) then
  some (0,4)
 else
  (Yj align2).bind fun r4 =>
  bif (!r4) then
   some (0,4)
  else
   AaW n1 align2

noncomputable def Aab (x1 : Int) (y2 : Int) : Option (Int × Int) :=
 (Uq (IntKind.i64.wrap (x1 + y2))).bind fun r5 =>
 some (r5.1,r5.2)
noncomputable def YB (x1 : Int) (y2 : Int) : Option (Int × Int) :=
 (Ty x1).bind fun r3 =>
 bif (!r3) then
  some (0,4)
 else
  (Ty y2).bind fun r4 =>
  bif (!r4) then
   some (0,4)
  else
   Aab x1 y2

noncomputable def Xc (y1 : Pe) (r4 : Int × Int) (e5 : Int) : Option (Pe × Int) :=
 bif (e5 != 0) then
  some ((Pe.mk 0 0 ([])),9)
 else
  some ((Pe.mk y1.Args r4.1 y1.Off),0)
noncomputable def AcM (y1 : Pe) (end2 : Int) (align3 : Int) : Option (Pe × Int) :=
 (AaD end2 align3).bind fun r4 =>
 bif (r4.2 == 0) then
  (YB r4.1 128).bind fun r6 =>
  Xc y1 r4 r6.2
 else
  Xc y1 r4 r4.2

noncomputable def UI (x6 : List Int) (r10 : Int × Int) (x7 : Int) (e11 : Int) (end12 : Int) : Option (((List Int) × Int × Int) ⊕ (Pe × Int)) :=
 bif (e11 != 0) then
  lft (some ((Pe.mk 0 0 ([])),9))
 else
  chk (x6.length + ([r10.1] : List Int).length ≤ 16777216) <|
  cnt (x6 ++ ([r10.1] : List Int),IntKind.i64.wrap (x7 + 1),end12)
noncomputable def WG (x_x5 : OX) (r4 : Int) (align3 : Int) (x6 : List Int) (x7 : Int) (end8 : Int) : Option (((List Int) × Int × Int) ⊕ (Pe × Int)) :=
 bif (decide (x7 < (x_x5.Slots.length : Int))) then
  (ixO x_x5.Slots x7).bind fun x_x9 =>
  (AaD end8 x_x9.Align).bind fun r10 =>
  bif (r10.2 == 0) then
   (YB r10.1 x_x9.Size).bind fun r13 =>
   UI x6 r10 x7 r13.2 r13.1
  else
   UI x6 r10 x7 r10.2 end8
 else
  lft (
   (AcM (Pe.mk r4 0 x6) end8 align3).bind fun r14 =>
   some (r14.1,r14.2))
noncomputable def UY (p1 : Ph) (i2 : Int) (align3 : Int) : Option (Pe × Int) :=
 (Yp p1 i2).bind fun r4 =>
 (ixO p1.Funcs i2).bind fun x_x5 =>
 Pq (fun s=>WG x_x5 r4 align3 s.1 s.2.1 s.2.2) (([] : List Int),0,r4)

noncomputable def Qa (s1 : Pr) (x2 : Int) : Option (Pj) :=
 (ixO s1.y.Off x2).bind fun x_x3 =>
 (ixO s1.f.Slots x2).bind fun x_x4 =>
 some (Pj.mk x_x3 x_x4.Size)

noncomputable def UD (a1 : Pj) : Option (Bool) :=
 (Ty a1.Off).bind fun r2 =>
 bif r2 then
  (Ty a1.Size).bind fun r3 =>
  bif r3 then
   some (decide ((IntKind.i64.wrap (a1.Off + a1.Size)) ≤ 2147483647))
  else
   some false
 else
  some false

noncomputable def Xa (a1 : Pj) (size2 : Int) : Option (Bool) :=
 (UD a1).bind fun r3 =>
 bif r3 then
  some (decide ((IntKind.i64.wrap (a1.Off + a1.Size)) ≤ size2))
 else
  some false

noncomputable def RX (s1 : Pr) (x2 : Int) : Option (Bool) :=
 (ixO s1.y.Off x2).bind fun x_x3 =>
 bif (decide (x_x3 ≥ s1.y.Args)) then
  (ixO s1.f.Slots x2).bind fun x_x4 =>
  chk (x_x4.Align ≠ 0) <|
  bif ((x_x3.tmod x_x4.Align) == 0) then
   (Qa s1 x2).bind fun r5 =>
   (Xa r5 s1.y.Size).bind fun r6 =>
   some r6
  else
   some false
 else
  some false

noncomputable def SO (s1 : Pr) (r2 : Pe × Int) (x4 : Int) : Option ((Int) ⊕ (Int)) :=
 bif (decide (x4 < (s1.f.Slots.length : Int))) then
  (RX s1 x4).bind fun r5 =>
  bif (!r5) then
   lft (some 13)
  else
   cnt (IntKind.i64.wrap (x4 + 1))
 else
  lft (
   chk (s1.align ≠ 0) <|
   bif ((s1.y.Size.tmod s1.align) != 0) then
    some 13
   else
    bif (decide (s1.y.Size < s1.y.Args)) then
     some 13
    else
     bif (decide (s1.y.Size > r2.1.Size)) then
      some 13
     else
      some 0)
noncomputable def SP (s1 : Pr) (r2 : Pe × Int) : Option (Int) :=
 Pq (fun s=>SO s1 r2 s) 0
noncomputable def Rx (s1 : Pr) : Option (Int) :=
 (UY s1.p s1.i s1.align).bind fun r2 =>
 bif (r2.2 != 0) then
  some r2.2
 else
  (Yp s1.p s1.i).bind fun r3 =>
  bif (s1.y.Args != r3) then
   some 13
  else
   bif ((s1.y.Off.length : Int) != (s1.f.Slots.length : Int)) then
    some 13
   else
    SP s1 r2

noncomputable def We (p1 : Ph) (i2 : Int) (align3 : Int) (y4 : Pe) : Option (Int) :=
 (ixO p1.Funcs i2).bind fun x_x5 =>
 (Rx (Pr.mk p1 i2 align3 x_x5 y4)).bind fun r6 =>
 some r6

noncomputable def ZH  : Option (Bool) :=
 (We (Ph.mk ([(OX.mk 0 ([]) ([(OZ.mk 23 0 0 0 0)] : List OZ))] : List OX)) 0 16 (Pe.mk 0 0 ([]))).bind fun r1 =>
 bif (r1 == 0) then
  (We (Ph.mk ([(OX.mk 0 ([]) ([(OZ.mk 23 0 0 0 0)] : List OZ))] : List OX)) 0 16 (Pe.mk 0 16 ([]))).bind fun r2 =>
  some (r2 == 13)
 else
  some false

noncomputable def Ada (list1 : (List Int)) (limit2 : Int) : Option (Mk) :=
 chk (0 ≤ (Sp (list1.length : Int) limit2) ∧ (Sp (list1.length : Int) limit2) ≤ list1.length) <|
 some (Mk.mk (list1.take (Sp (list1.length : Int) limit2).toNat) 0)

noncomputable def Xz (c1 : Mk) : Option (Bool × Mk) :=
 some ((decide (c1.at_ < (c1.list.length : Int))),c1)

noncomputable def Vm (n2 : Int) (c3 : List Int) (c4 : Int) : Option (Int × Mk) :=
 (ixO c3 c4).bind fun x_x6 =>
 some (IntKind.i64.wrap ((IntKind.i64.wrap ((IntKind.i64.wrap (x_x6)) * n2)).tdiv 256),(Mk.mk c3 (IntKind.i64.wrap (c4 + 1))))
noncomputable def Pc (c1 : Mk) (n2 : Int) : Option (Int × Mk) :=
 (Xz c1).bind fun r5 =>
 bif (!r5.1) then
  some (0,r5.2)
 else
  bif (decide (n2 < 1)) then
   some (0,r5.2)
  else
   Vm n2 r5.2.list r5.2.at_

noncomputable def Vn (c1 : Mk) : Option (Po × Mk) :=
 (Pc c1 7).bind fun r2 =>
 chk (0 ≤ r2.1 ∧ r2.1 < ([8,4,8,1,2,16,8] : List Int).length) <|
 ((([8,4,8,1,2,16,8] : List Int))[r2.1.toNat]?).bind fun x_e3 =>
 (Pc r2.2 8).bind fun r4 =>
 chk (0 ≤ r4.1 ∧ r4.1 < ([8,4,1,8,16,2,32,64] : List Int).length) <|
 ((([8,4,1,8,16,2,32,64] : List Int))[r4.1.toNat]?).bind fun x_e5 =>
 some ((Po.mk x_e3 x_e5),r4.2)

noncomputable def UN (c4 : List Int) (c5 : Int) (l6 : List Po) (n7 : Int) : Option (((List Int) × Int × (List Po) × Int) ⊕ ((List Po) × Mk)) :=
 bif (decide (n7 > 0)) then
  (Vn (Mk.mk c4 c5)).bind fun r8 =>
  chk (l6.length + ([r8.1] : List Po).length ≤ 16777216) <|
  cnt (r8.2.list,r8.2.at_,l6 ++ ([r8.1] : List Po),IntKind.i64.wrap (n7 - 1))
 else
  lft (some (l6,(Mk.mk c4 c5)))
noncomputable def UC (c1 : Mk) (most2 : Int) : Option ((List Po) × Mk) :=
 (Pc c1 (IntKind.i64.wrap (most2 + 1))).bind fun r3 =>
 Pq (fun s=>UN s.1 s.2.1 s.2.2.1 s.2.2.2) (r3.2.list,r3.2.at_,([] : List Po),r3.1)

noncomputable def Vr (f2 : OX) (s3 : Int) (c1 : Mk) (l4 : List Int) (k5 : Int) : Option (((List Int) × Int) ⊕ (Int × Mk)) :=
 bif (decide (k5 < (f2.Slots.length : Int))) then
  (ixO f2.Slots k5).bind fun x_x6 =>
  (ixO f2.Slots s3).bind fun x_x7 =>
  bif (x_x6.Size == x_x7.Size) then
   chk (l4.length + ([k5] : List Int).length ≤ 16777216) <|
   cnt (l4 ++ ([k5] : List Int),IntKind.i64.wrap (k5 + 1))
  else
   cnt (l4,IntKind.i64.wrap (k5 + 1))
 else
  lft (
   (Pc c1 (l4.length : Int)).bind fun r8 =>
   chk (0 ≤ r8.1 ∧ r8.1 < l4.length) <|
   ((l4)[r8.1.toNat]?).bind fun l_e9 =>
   some (l_e9,r8.2))
noncomputable def Vq (c1 : Mk) (f2 : OX) (s3 : Int) : Option (Int × Mk) :=
 Pq (fun s=>Vr f2 s3 c1 s.1 s.2) (([] : List Int),0)

noncomputable def TH (c1 : Mk) : Option (Int × Mk) :=
 (Pc c1 6).bind fun r2 =>
 bif (r2.1 == 0) then
  (Pc r2.2 3).bind fun r3 =>
  some (IntKind.u64.wrap (18446744073709551615 - (IntKind.u64.wrap (r3.1))),r3.2)
 else
  bif (r2.1 == 1) then
   (Pc r2.2 64).bind fun r4 =>
   chk (0 ≤ r4.1) <|
   some (IntKind.u64.wrap (1 * 2 ^ (Nat.min r4.1.toNat IntKind.u64.bits)),r4.2)
  else
   bif (r2.1 == 2) then
    some (0,r2.2)
   else
    (Pc r2.2 256).bind fun r5 =>
    some (IntKind.u64.wrap (r5.1),r5.2)

noncomputable def Vp (params4 : (List Int)) (i3 : Int) (r23 : Int × Mk) (c24 : List Int) (c25 : Int) (out26 : List OZ) (a27 : Int) : Option (((List Int) × Int × (List OZ) × Int) ⊕ ((List OZ) × Mk)) :=
 (ixO params4 (IntKind.i64.wrap ((IntKind.i64.wrap (i3 + 1)) + r23.1))).bind fun x_x28 =>
 bif (decide (a27 < x_x28)) then
  (Pc (Mk.mk c24 c25) 8).bind fun r29 =>
  bif (decide (r29.1 < 7)) then
   (Pc r29.2 4).bind fun r30 =>
   chk (out26.length + ([(OZ.mk 18 a27 r30.1 0 0)] : List OZ).length ≤ 16777216) <|
   cnt (r30.2.list,r30.2.at_,out26 ++ ([(OZ.mk 18 a27 r30.1 0 0)] : List OZ),IntKind.i64.wrap (a27 + 1))
  else
   cnt (r29.2.list,r29.2.at_,out26,IntKind.i64.wrap (a27 + 1))
 else
  lft (
   chk (out26.length + ([(OZ.mk 22 (IntKind.i64.wrap ((IntKind.i64.wrap (i3 + 1)) + r23.1)) 0 0 0)] : List OZ).length ≤ 16777216) <|
   some (out26 ++ ([(OZ.mk 22 (IntKind.i64.wrap ((IntKind.i64.wrap (i3 + 1)) + r23.1)) 0 0 0)] : List OZ),(Mk.mk c24 c25)))
noncomputable def Yi (r5 : Int × Mk) (r6 : Int × Mk) : Option ((List OZ) × Mk) :=
 some (([(OZ.mk 14 r5.1 0 0 0)] : List OZ),r6.2)
noncomputable def RV (r6 : Int × Mk) (params4 : (List Int)) (i3 : Int) (r5 : Int × Mk) (x22 : Bool) : Option ((List OZ) × Mk) :=
 bif x22 then
  (Pc r6.2 (IntKind.i64.wrap ((IntKind.i64.wrap ((params4.length : Int) - i3)) - 1))).bind fun r23 =>
  Pq (fun s=>Vp params4 i3 r23 s.1 s.2.1 s.2.2.1 s.2.2.2) (r23.2.list,r23.2.at_,([] : List OZ),0)
 else
  Yi r5 r6
noncomputable def RU (r6 : Int × Mk) (f2 : OX) (r5 : Int × Mk) (params4 : (List Int)) (i3 : Int) (x20 : Bool) : Option ((List OZ) × Mk) :=
 bif x20 then
  (Pc r6.2 f2.Params).bind fun r21 =>
  some (([(OZ.mk 19 r5.1 r21.1 0 0)] : List OZ),r21.2)
 else
  bif (decide (r6.1 ≥ 17)) then
   RV r6 params4 i3 r5 (decide ((IntKind.i64.wrap (i3 + 1)) < (params4.length : Int)))
  else
   RV r6 params4 i3 r5 false
noncomputable def RT (r6 : Int × Mk) (f2 : OX) (r5 : Int × Mk) (params4 : (List Int)) (i3 : Int) (x11 : Bool) : Option ((List OZ) × Mk) :=
 bif x11 then
  (Pc r6.2 (f2.Slots.length : Int)).bind fun r12 =>
  (Vq r12.2 f2 r12.1).bind fun r13 =>
  some (([(OZ.mk 17 r13.1 r12.1 0 0)] : List OZ),r13.2)
 else
  bif (decide (r6.1 < 11)) then
   (TH r6.2).bind fun r14 =>
   some (([(OZ.mk 0 r5.1 0 0 r14.1)] : List OZ),r14.2)
  else
   bif (decide (r6.1 < 13)) then
    (Pc r6.2 10).bind fun r15 =>
    (Pc r15.2 4).bind fun r16 =>
    (Pc r16.2 8).bind fun r17 =>
    some (([(OZ.mk (IntKind.i64.wrap (2 + r15.1)) r5.1 r16.1 r17.1 0)] : List OZ),r17.2)
   else
    bif (decide (r6.1 < 15)) then
     some (([(OZ.mk 14 r5.1 0 0 0)] : List OZ),r6.2)
    else
     bif (r6.1 == 15) then
      (Pc r6.2 3).bind fun r18 =>
      chk (0 ≤ r18.1 ∧ r18.1 < ([13,12,1] : List Int).length) <|
      ((([13,12,1] : List Int))[r18.1.toNat]?).bind fun x_e19 =>
      some (([(OZ.mk x_e19 r5.1 0 0 0)] : List OZ),r18.2)
     else
      bif (r6.1 == 16) then
       RU r6 f2 r5 params4 i3 (decide (f2.Params > 0))
      else
       RU r6 f2 r5 params4 i3 false
noncomputable def RS (r6 : Int × Mk) (f2 : OX) (r5 : Int × Mk) (params4 : (List Int)) (i3 : Int) (x9 : Bool) : Option ((List OZ) × Mk) :=
 bif x9 then
  (Pc r6.2 (f2.Slots.length : Int)).bind fun r10 =>
  some (([(OZ.mk 15 r5.1 r10.1 0 0)] : List OZ),r10.2)
 else
  bif (decide (r6.1 < 9)) then
   RT r6 f2 r5 params4 i3 (decide ((f2.Slots.length : Int) > 0))
  else
   RT r6 f2 r5 params4 i3 false
noncomputable def RR (r6 : Int × Mk) (f2 : OX) (r5 : Int × Mk) (params4 : (List Int)) (i3 : Int) (x7 : Bool) : Option ((List OZ) × Mk) :=
 bif x7 then
  (Pc r6.2 (f2.Slots.length : Int)).bind fun r8 =>
  some (([(OZ.mk 16 r8.1 r5.1 0 0)] : List OZ),r8.2)
 else
  bif (decide (r6.1 < 6)) then
   RS r6 f2 r5 params4 i3 (decide ((f2.Slots.length : Int) > 0))
  else
   RS r6 f2 r5 params4 i3 false
noncomputable def Vo (c1 : Mk) (f2 : OX) (i3 : Int) (params4 : (List Int)) : Option ((List OZ) × Mk) :=
 (Pc c1 4).bind fun r5 =>
 (Pc r5.2 20).bind fun r6 =>
 bif (decide (r6.1 < 3)) then
  RR r6 f2 r5 params4 i3 (decide ((f2.Slots.length : Int) > 0))
 else
  RR r6 f2 r5 params4 i3 false

noncomputable def RH (k32 : Int) (code31 : List OZ) (r33 : Int × Mk) (to34 : Int) (x35 : Bool) : Option (((List Int) × Int × (List OZ) × Int) ⊕ (OX × Mk)) :=
 bif x35 then
  chk (0 ≤ k32 ∧ k32 < code31.length) <|
  ((code31)[k32.toNat]?).bind fun code_o38 =>
  cnt (r33.2.list,r33.2.at_,code31.set k32.toNat (OZ.mk code_o38.Op to34 code_o38.B code_o38.C code_o38.Imm),IntKind.i64.wrap (k32 + 1))
 else
  chk (0 ≤ k32 ∧ k32 < code31.length) <|
  ((code31)[k32.toNat]?).bind fun code_e39 =>
  bif (code_e39.Op == 21) then
   chk (0 ≤ k32 ∧ k32 < code31.length) <|
   ((code31)[k32.toNat]?).bind fun code_e40 =>
   bif (decide (code_e40.B < 0)) then
    chk (0 ≤ k32 ∧ k32 < code31.length) <|
    ((code31)[k32.toNat]?).bind fun code_o41 =>
    cnt (r33.2.list,r33.2.at_,code31.set k32.toNat (OZ.mk code_o41.Op code_o41.A to34 code_o41.C code_o41.Imm),IntKind.i64.wrap (k32 + 1))
   else
    cnt (r33.2.list,r33.2.at_,code31,IntKind.i64.wrap (k32 + 1))
  else
   cnt (r33.2.list,r33.2.at_,code31,IntKind.i64.wrap (k32 + 1))
noncomputable def Qd (k32 : Int) (code31 : List OZ) (r33 : Int × Mk) (to34 : Int) : Option (((List Int) × Int × (List OZ) × Int) ⊕ (OX × Mk)) :=
 chk (0 ≤ k32 ∧ k32 < code31.length) <|
 ((code31)[k32.toNat]?).bind fun code_e36 =>
 bif (code_e36.Op == 20) then
  chk (0 ≤ k32 ∧ k32 < code31.length) <|
  ((code31)[k32.toNat]?).bind fun code_e37 =>
  RH k32 code31 r33 to34 (decide (code_e37.A < 0))
 else
  RH k32 code31 r33 to34 false
noncomputable def RG (x_x5 : Int) (f17 : List Po) (c29 : List Int) (c30 : Int) (code31 : List OZ) (k32 : Int) : Option (((List Int) × Int × (List OZ) × Int) ⊕ (OX × Mk)) :=
 bif (decide (k32 < (code31.length : Int))) then
  (Pc (Mk.mk c29 c30) 8).bind fun r33 =>
  bif (decide ((IntKind.i64.wrap ((IntKind.i64.wrap (k32 + r33.1)) - 2)) < 0)) then
   Qd k32 code31 r33 (IntKind.i64.wrap ((code31.length : Int) - 1))
  else
   bif (decide ((IntKind.i64.wrap ((IntKind.i64.wrap (k32 + r33.1)) - 2)) ≥ (code31.length : Int))) then
    Qd k32 code31 r33 (IntKind.i64.wrap ((code31.length : Int) - 1))
   else
    Qd k32 code31 r33 (IntKind.i64.wrap ((IntKind.i64.wrap (k32 + r33.1)) - 2))
 else
  lft (some ((OX.mk x_x5 f17 code31),(Mk.mk c29 c30)))
noncomputable def QP (code16 : List OZ) (x_x5 : Int) (f17 : List Po) (c23 : List Int) (c24 : Int) (end25 : Int) (end26 : Int) : Option (OX × Mk) :=
 chk (code16.length + ([(OZ.mk end25 0 0 0 end26)] : List OZ).length ≤ 16777216) <|
 Pq (fun s=>RG x_x5 f17 s.1 s.2.1 s.2.2.1 s.2.2.2) (c23,c24,code16 ++ ([(OZ.mk end25 0 0 0 end26)] : List OZ),0)
noncomputable def Ts (x_x5 : Int) (i2 : Int) (params3 : (List Int)) (c14 : List Int) (c15 : Int) (code16 : List OZ) (f17 : List Po) (n18 : Int) : Option (((List Int) × Int × (List OZ) × (List Po) × Int) ⊕ (OX × Mk)) :=
 bif (decide (n18 > 0)) then
  (Vo (Mk.mk c14 c15) (OX.mk x_x5 f17 ([])) i2 params3).bind fun r19 =>
  chk (code16.length + r19.1.length ≤ 16777216) <|
  (Pc r19.2 9).bind fun r20 =>
  bif (r20.1 == 7) then
   (Pc r20.2 4).bind fun r21 =>
   chk ((code16 ++ r19.1).length + ([(OZ.mk 21 r21.1 (-1) 0 0)] : List OZ).length ≤ 16777216) <|
   cnt (r21.2.list,r21.2.at_,(code16 ++ r19.1) ++ ([(OZ.mk 21 r21.1 (-1) 0 0)] : List OZ),f17,IntKind.i64.wrap (n18 - 1))
  else
   bif (r20.1 == 8) then
    (Pc r20.2 3).bind fun r22 =>
    bif (r22.1 == 2) then
     chk ((code16 ++ r19.1).length + ([(OZ.mk 20 (-1) 0 0 0)] : List OZ).length ≤ 16777216) <|
     cnt (r22.2.list,r22.2.at_,(code16 ++ r19.1) ++ ([(OZ.mk 20 (-1) 0 0 0)] : List OZ),f17,IntKind.i64.wrap (n18 - 1))
    else
     cnt (r22.2.list,r22.2.at_,code16 ++ r19.1,f17,IntKind.i64.wrap (n18 - 1))
   else
    cnt (r20.2.list,r20.2.at_,code16 ++ r19.1,f17,IntKind.i64.wrap (n18 - 1))
 else
  lft (
   (Pc (Mk.mk c14 c15) 12).bind fun r27 =>
   bif (r27.1 == 11) then
    (TH r27.2).bind fun r28 =>
    QP code16 x_x5 f17 r28.2.list r28.2.at_ 24 r28.1
   else
    QP code16 x_x5 f17 r27.2.list r27.2.at_ 23 0)
noncomputable def Tq (r6 : (List Po) × Mk) (most4 : Int) (x_x5 : Int) (i2 : Int) (params3 : (List Int)) (c7 : List Int) (c8 : Int) (code9 : List OZ) (s10 : Int) : Option (((List Int) × Int × (List OZ) × Int) ⊕ (OX × Mk)) :=
 bif (decide (s10 < (r6.1.length : Int))) then
  (Pc (Mk.mk c7 c8) 4).bind fun r11 =>
  bif (decide (r11.1 < 3)) then
   (Pc r11.2 4).bind fun r12 =>
   chk (code9.length + ([(OZ.mk 16 s10 r12.1 0 0)] : List OZ).length ≤ 16777216) <|
   cnt (r12.2.list,r12.2.at_,code9 ++ ([(OZ.mk 16 s10 r12.1 0 0)] : List OZ),IntKind.i64.wrap (s10 + 1))
  else
   cnt (r11.2.list,r11.2.at_,code9,IntKind.i64.wrap (s10 + 1))
 else
  lft (
   (Pc (Mk.mk c7 c8) (IntKind.i64.wrap (most4 + 1))).bind fun r13 =>
   Pq (fun s=>Ts x_x5 i2 params3 s.1 s.2.1 s.2.2.1 s.2.2.2.1 s.2.2.2.2) (r13.2.list,r13.2.at_,code9,r6.1,r13.1))
noncomputable def SW (c1 : Mk) (i2 : Int) (params3 : (List Int)) (most4 : Int) : Option (OX × Mk) :=
 (ixO params3 i2).bind fun x_x5 =>
 (UC c1 6).bind fun r6 =>
 Pq (fun s=>Tq r6 most4 x_x5 i2 params3 s.1 s.2.1 s.2.2.1 s.2.2.2) (r6.2.list,r6.2.at_,([] : List OZ),0)

noncomputable def TG (most3 : Int) (c10 : List Int) (c11 : Int) (p12 : List OX) (i13 : Int) (params14 : List Int) : Option (((List Int) × Int × (List OX) × Int × (List Int)) ⊕ (Ph × Mk)) :=
 bif (decide (i13 < (params14.length : Int))) then
  chk (([] : List OX).length + p12.length ≤ 16777216) <|
  (SW (Mk.mk c10 c11) i13 params14 most3).bind fun r15 =>
  chk ((([] : List OX) ++ p12).length + ([r15.1] : List OX).length ≤ 16777216) <|
  cnt (r15.2.list,r15.2.at_,(([] : List OX) ++ p12) ++ ([r15.1] : List OX),IntKind.i64.wrap (i13 + 1),params14)
 else
  lft (some ((Ph.mk p12),(Mk.mk c10 c11)))
noncomputable def TF (most3 : Int) (c5 : List Int) (c6 : Int) (params7 : List Int) (n8 : Int) : Option (((List Int) × Int × (List Int) × Int) ⊕ (Ph × Mk)) :=
 bif (decide (n8 > 0)) then
  (Pc (Mk.mk c5 c6) 4).bind fun r9 =>
  chk (params7.length + ([r9.1] : List Int).length ≤ 16777216) <|
  cnt (r9.2.list,r9.2.at_,params7 ++ ([r9.1] : List Int),IntKind.i64.wrap (n8 - 1))
 else
  lft (Pq (fun s=>TG most3 s.1 s.2.1 s.2.2.1 s.2.2.2.1 s.2.2.2.2) (c5,c6,[],0,params7))
noncomputable def Tx (c1 : Mk) (funcs2 : Int) (most3 : Int) : Option (Ph × Mk) :=
 (Pc c1 funcs2).bind fun r4 =>
 Pq (fun s=>TF most3 s.1 s.2.1 s.2.2.1 s.2.2.2) (r4.2.list,r4.2.at_,([0] : List Int),r4.1)

noncomputable def Abc (n1 : Int) : Option (Bool) :=
 bif (n1 == 1) then
  some true
 else
  bif (n1 == 2) then
   some true
  else
   bif (n1 == 4) then
    some true
   else
    bif (n1 == 8) then
     some true
    else
     some (n1 == 16)

noncomputable def Wj (n1 : Int) (k2 : Int) : Option ((Int) ⊕ (Bool)) :=
 bif (decide (k2 ≤ 16777216)) then
  bif (n1 == k2) then
   lft (some true)
  else
   cnt (IntKind.i64.wrap (k2 * 2))
 else
  lft (some false)
noncomputable def Sg (n1 : Int) : Option (Bool) :=
 Pq (fun s=>Wj n1 s) 1

noncomputable def YM (s1 : (List Po)) (i2 : Int) : Option ((Int) ⊕ (Int)) :=
 bif (decide (i2 < (s1.length : Int))) then
  (ixO s1 i2).bind fun x_x3 =>
  (Abc x_x3.Size).bind fun r4 =>
  bif (!r4) then
   lft (some 5)
  else
   (ixO s1 i2).bind fun x_x5 =>
   (Sg x_x5.Align).bind fun r6 =>
   bif (!r6) then
    lft (some 5)
   else
    cnt (IntKind.i64.wrap (i2 + 1))
 else
  lft (some 0)
noncomputable def Xn (s1 : (List Po)) : Option (Int) :=
 bif (decide ((s1.length : Int) > 512)) then
  some 3
 else
  Pq (fun s=>YM s1 s) 0

noncomputable def Wg (s1 : (List Po)) (a3 : Int) (i4 : Int) : Option ((Int × Int) ⊕ (Int)) :=
 bif (decide (i4 < (s1.length : Int))) then
  (ixO s1 i4).bind fun x_x5 =>
  cnt (RI a3 x_x5.Align,IntKind.i64.wrap (i4 + 1))
 else
  lft (some a3)
noncomputable def VF (s1 : (List Po)) : Option (Int) :=
 (Xn s1).bind fun r2 =>
 bif (r2 != 0) then
  some 16
 else
  Pq (fun s=>Wg s1 s.1 s.2) (16,0)

noncomputable def Wo (p1 : Ph) (a2 : Int) (i3 : Int) : Option ((Int × Int) ⊕ (Int)) :=
 bif (decide (i3 < (p1.Funcs.length : Int))) then
  (ixO p1.Funcs i3).bind fun x_x4 =>
  (VF x_x4.Slots).bind fun r5 =>
  cnt (RI a2 r5,IntKind.i64.wrap (i3 + 1))
 else
  lft (some a2)
noncomputable def Um (p1 : Ph) : Option (Int) :=
 Pq (fun s=>Wo p1 s.1 s.2) (16,0)

noncomputable def Rp (x_x3 : OZ) (k2 : Int) (x4 : Bool) : Option ((List Int)) :=
 bif x4 then
  some ([] : List Int)
 else
  bif (x_x3.Op == 21) then
   bif (decide (x_x3.B < (IntKind.i64.wrap (k2 + 1)))) then
    some ([x_x3.B,IntKind.i64.wrap (k2 + 1)] : List Int)
   else
    bif (decide (x_x3.B > (IntKind.i64.wrap (k2 + 1)))) then
     some ([IntKind.i64.wrap (k2 + 1),x_x3.B] : List Int)
    else
     some ([IntKind.i64.wrap (k2 + 1)] : List Int)
  else
   some ([IntKind.i64.wrap (k2 + 1)] : List Int)
noncomputable def Aag (f1 : OX) (k2 : Int) : Option ((List Int)) :=
 (ixO f1.Code k2).bind fun x_x3 =>
 bif (x_x3.Op == 20) then
  some ([x_x3.A] : List Int)
 else
  bif (x_x3.Op == 23) then
   Rp x_x3 k2 (x_x3.Op == 23)
  else
   Rp x_x3 k2 (x_x3.Op == 24)
noncomputable def YQ (f1 : OX) (k2 : Int) : Option ((List Int)) :=
 bif (decide (k2 < 0)) then
  some ([] : List Int)
 else
  bif (decide (k2 ≥ (f1.Code.length : Int))) then
   some ([] : List Int)
  else
   Aag f1 k2

noncomputable def RF (x1 : OZ) : Option (Bool) :=
 bif (x1.Op == 16) then
  some true
 else
  some (x1.Op == 17)

noncomputable def QJ (x1 : OZ) : Option (Int × Bool) :=
 (RF x1).bind fun r2 =>
 bif r2 then
  some (x1.A,true)
 else
  some (0,false)

noncomputable def Su (s1 : (List Int)) (n2 : Int) (out3 : List Int) (i4 : Int) : Option (((List Int) × Int) ⊕ ((List Int))) :=
 bif (decide (i4 < (s1.length : Int))) then
  (ixO s1 i4).bind fun x_x5 =>
  bif (x_x5 != n2) then
   (ixO s1 i4).bind fun x_x6 =>
   chk (out3.length + ([x_x6] : List Int).length ≤ 16777216) <|
   cnt (out3 ++ ([x_x6] : List Int),IntKind.i64.wrap (i4 + 1))
  else
   cnt (out3,IntKind.i64.wrap (i4 + 1))
 else
  lft (some out3)
noncomputable def Wn (s1 : (List Int)) (n2 : Int) : Option ((List Int)) :=
 Pq (fun s=>Su s1 n2 s.1 s.2) (([] : List Int),0)

noncomputable def Uk (x1 : OZ) : Option ((List Int)) :=
 bif (x1.Op == 15) then
  some ([x1.B] : List Int)
 else
  bif (x1.Op == 17) then
   some ([x1.B] : List Int)
  else
   some ([] : List Int)

noncomputable def Vx (n1 : Int) : Option (Bool) :=
 bif (decide (n1 ≥ 0)) then
  some (decide (n1 < 512))
 else
  some false

noncomputable def Sq (s1 : (List Int)) (i6 : Int) (out7 : List Int) (done8 : Bool) : Option (((List Int) × Bool × Int) ⊕ ((List Int))) :=
 (ixO s1 i6).bind fun x_x12 =>
 chk (out7.length + ([x_x12] : List Int).length ≤ 16777216) <|
 cnt (out7 ++ ([x_x12] : List Int),done8,IntKind.i64.wrap (i6 + 1))
noncomputable def TA (s1 : (List Int)) (i6 : Int) (n2 : Int) (out4 : List Int) (done5 : Bool) (x9 : Bool) : Option (((List Int) × Bool × Int) ⊕ ((List Int))) :=
 bif x9 then
  (ixO s1 i6).bind fun x_x11 =>
  bif (decide (x_x11 > n2)) then
   chk (out4.length + ([n2] : List Int).length ≤ 16777216) <|
   Sq s1 i6 (out4 ++ ([n2] : List Int)) true
  else
   Sq s1 i6 out4 true
 else
  Sq s1 i6 out4 done5
noncomputable def Ri (s1 : (List Int)) (n2 : Int) (out4 : List Int) (done5 : Bool) (i6 : Int) : Option (((List Int) × Bool × Int) ⊕ ((List Int))) :=
 bif (decide (i6 < (s1.length : Int))) then
  bif (!done5) then
   (ixO s1 i6).bind fun x_x10 =>
   TA s1 i6 n2 out4 done5 (decide (x_x10 ≥ n2))
  else
   TA s1 i6 n2 out4 done5 false
 else
  lft (
   bif (!done5) then
    chk (out4.length + ([n2] : List Int).length ≤ 16777216) <|
    some (out4 ++ ([n2] : List Int))
   else
    some out4)
noncomputable def SC (s1 : (List Int)) (n2 : Int) : Option ((List Int)) :=
 (Vx n2).bind fun r3 =>
 Pq (fun s=>Ri s1 n2 s.1 s.2.1 s.2.2) (([] : List Int),(!r3),0)

noncomputable def Us (b2 : (List Int)) (out3 : List Int) (i4 : Int) : Option (((List Int) × Int) ⊕ ((List Int))) :=
 bif (decide (i4 < (b2.length : Int))) then
  (ixO b2 i4).bind fun x_x5 =>
  (SC out3 x_x5).bind fun r6 =>
  cnt (r6,IntKind.i64.wrap (i4 + 1))
 else
  lft (some out3)
noncomputable def Tt (a1 : (List Int)) (b2 : (List Int)) : Option ((List Int)) :=
 chk (([] : List Int).length + a1.length ≤ 16777216) <|
 Pq (fun s=>Us b2 s.1 s.2) (([] : List Int) ++ a1,0)

noncomputable def AbU (x1 : OZ) (out2 : (List Int)) : Option ((List Int)) :=
 (QJ x1).bind fun r3 =>
 bif r3.2 then
  (Wn out2 r3.1).bind fun r4 =>
  (Uk x1).bind fun r5 =>
  (Tt r4 r5).bind fun r6 =>
  some r6
 else
  (Uk x1).bind fun r7 =>
  (Tt out2 r7).bind fun r8 =>
  some r8

noncomputable def Aai (k4 : Int) (x5 : List (List Int)) : Option (((List (List Int)) × Int) ⊕ (Pg)) :=
 cnt (x5,IntKind.i64.wrap (k4 + 1))
noncomputable def Vb (r6 : (List Int)) (k4 : Int) (f1 : OX) (l2 : Pg) (x7 : List (List Int)) (i8 : Int) : Option (((List (List Int)) × Int) ⊕ (((List (List Int)) × Int) ⊕ (Pg))) :=
 bif (decide (i8 < (r6.length : Int))) then
  chk (0 ≤ i8 ∧ i8 < r6.length) <|
  ((r6)[i8.toNat]?).bind fun next_e9 =>
  chk (0 ≤ k4 ∧ k4 < x7.length) <|
  ((x7)[k4.toNat]?).bind fun x_e10 =>
  (ixO f1.Code next_e9).bind fun x_x11 =>
  (ixO l2.Out next_e9).bind fun x_x12 =>
  (AbU x_x11 x_x12).bind fun r13 =>
  (Tt x_e10 r13).bind fun r14 =>
  chk (0 ≤ k4 ∧ k4 < x7.length) <|
  ((x7)[k4.toNat]?).bind fun _ =>
  cnt (x7.set k4.toNat r14,IntKind.i64.wrap (i8 + 1))
 else
  lft (Aai k4 x7)
noncomputable def Va (f1 : OX) (l2 : Pg) (x3 : List (List Int)) (k4 : Int) : Option (((List (List Int)) × Int) ⊕ (Pg)) :=
 bif (decide (k4 < (f1.Code.length : Int))) then
  (YQ f1 k4).bind fun r6 =>
  Pq (fun s=>Vb r6 k4 f1 l2 s.1 s.2) (x3,0)
 else
  lft (some (Pg.mk x3))
noncomputable def Abk (f1 : OX) (l2 : Pg) : Option (Pg) :=
 chk (0 ≤ (f1.Code.length : Int) ∧ (f1.Code.length : Int) ≤ 16777216) <|
 Pq (fun s=>Va f1 l2 s.1 s.2) (List.replicate (f1.Code.length : Int).toNat ([] : (List Int)),0)

noncomputable def TU (a1 : (List Int)) (b2 : (List Int)) (i3 : Int) : Option ((Int) ⊕ (Bool)) :=
 bif (decide (i3 < (a1.length : Int))) then
  (ixO a1 i3).bind fun x_x4 =>
  (ixO b2 i3).bind fun x_x5 =>
  bif (x_x4 != x_x5) then
   lft (some false)
  else
   cnt (IntKind.i64.wrap (i3 + 1))
 else
  lft (some true)
noncomputable def Abh (a1 : (List Int)) (b2 : (List Int)) : Option (Bool) :=
 bif ((a1.length : Int) != (b2.length : Int)) then
  some false
 else
  Pq (fun s=>TU a1 b2 s) 0

noncomputable def RM (a1 : (List (List Int))) (b2 : (List (List Int))) (i3 : Int) : Option ((Int) ⊕ (Bool)) :=
 bif (decide (i3 < (a1.length : Int))) then
  (ixO a1 i3).bind fun x_x4 =>
  (ixO b2 i3).bind fun x_x5 =>
  (Abh x_x4 x_x5).bind fun r6 =>
  bif (!r6) then
   lft (some false)
  else
   cnt (IntKind.i64.wrap (i3 + 1))
 else
  lft (some true)
noncomputable def Xf (a1 : (List (List Int))) (b2 : (List (List Int))) : Option (Bool) :=
 bif ((a1.length : Int) != (b2.length : Int)) then
  some false
 else
  Pq (fun s=>RM a1 b2 s) 0

noncomputable def Abj (a1 : Pg) (b2 : Pg) : Option (Bool) :=
 (Xf a1.Out b2.Out).bind fun r3 =>
 some r3

noncomputable def YT (f1 : OX) (l2 : List (List Int)) : Option (((List (List Int))) ⊕ (Pg)) :=
 (Abk f1 (Pg.mk l2)).bind fun r3 =>
 (Abj r3 (Pg.mk l2)).bind fun r4 =>
 bif r4 then
  lft (some (Pg.mk l2))
 else
  cnt r3.Out
noncomputable def Un (f1 : OX) : Option (Pg) :=
 chk (0 ≤ (f1.Code.length : Int) ∧ (f1.Code.length : Int) ≤ 16777216) <|
 Pq (fun s=>YT f1 s) (List.replicate (f1.Code.length : Int).toNat ([] : (List Int)))

noncomputable def UM (n8 : Int) (c9 : List Int) (c10 : Int) (x11 : List (List Int)) : Option (((List Int) × Int × (List (List Int)) × Int) ⊕ (Pg × Mk)) :=
 cnt (c9,c10,x11,IntKind.i64.wrap (n8 - 1))
noncomputable def UK (r12 : Int × Mk) (n8 : Int) (x13 : List (List Int)) (k14 : Int) : Option (((List (List Int)) × Int) ⊕ (((List Int) × Int × (List (List Int)) × Int) ⊕ (Pg × Mk))) :=
 bif (decide (k14 < (x13.length : Int))) then
  chk (0 ≤ k14 ∧ k14 < x13.length) <|
  ((x13)[k14.toNat]?).bind fun x_e15 =>
  (SC x_e15 r12.1).bind fun r16 =>
  chk (0 ≤ k14 ∧ k14 < x13.length) <|
  ((x13)[k14.toNat]?).bind fun _ =>
  cnt (x13.set k14.toNat r16,IntKind.i64.wrap (k14 + 1))
 else
  lft (UM n8 r12.2.list r12.2.at_ x13)
noncomputable def UL (c5 : List Int) (c6 : Int) (f2 : OX) (n8 : Int) (x7 : List (List Int)) : Option (((List Int) × Int × (List (List Int)) × Int) ⊕ (Pg × Mk)) :=
 (Pc (Mk.mk c5 c6) (f2.Slots.length : Int)).bind fun r12 =>
 Pq (fun s=>UK r12 n8 s.1 s.2) (x7,0)
noncomputable def UJ (f2 : OX) (c5 : List Int) (c6 : Int) (x7 : List (List Int)) (n8 : Int) : Option (((List Int) × Int × (List (List Int)) × Int) ⊕ (Pg × Mk)) :=
 bif (decide (n8 > 0)) then
  bif (decide ((f2.Slots.length : Int) > 0)) then
   UL c5 c6 f2 n8 x7
  else
   lft (some ((Pg.mk x7),(Mk.mk c5 c6)))
 else
  lft (some ((Pg.mk x7),(Mk.mk c5 c6)))
noncomputable def UB (c1 : Mk) (f2 : OX) : Option (Pg × Mk) :=
 (Un f2).bind fun r3 =>
 chk (([] : List (List Int)).length + r3.Out.length ≤ 16777216) <|
 (Pc c1 3).bind fun r4 =>
 Pq (fun s=>UJ f2 s.1 s.2.1 s.2.2.1 s.2.2.2) (r4.2.list,r4.2.at_,([] : List (List Int)) ++ r3.Out,r4.1)

noncomputable def Rr (c1 : Mk) : Option (Int × Mk) :=
 (Pc c1 12).bind fun r2 =>
 bif (r2.1 == 11) then
  (Pc r2.2 (([9223372036854775807,(-9223372036854775808),2147483648,2147483647,(-1),16777216,33554432,1048577,512,80] : List Int).length : Int)).bind fun r3 =>
  chk (0 ≤ r3.1 ∧ r3.1 < ([9223372036854775807,(-9223372036854775808),2147483648,2147483647,(-1),16777216,33554432,1048577,512,80] : List Int).length) <|
  ((([9223372036854775807,(-9223372036854775808),2147483648,2147483647,(-1),16777216,33554432,1048577,512,80] : List Int))[r3.1.toNat]?).bind fun l_e4 =>
  some (l_e4,r3.2)
 else
  (Pc r2.2 256).bind fun r5 =>
  (Pc r5.2 7).bind fun r6 =>
  chk (0 ≤ r6.1) <|
  some (IntKind.i64.wrap ((r5.1.fdiv (2 ^ (Nat.min r6.1.toNat IntKind.i64.bits))) - (IntKind.i64.wrap (r2.1.tdiv 9))),r6.2)

noncomputable def Rf (n12 : Int) (c13 : List Int) (c14 : Int) (x15 : List (List Int)) : Option (((List Int) × Int × (List (List Int)) × Int) ⊕ (Pg × Mk)) :=
 cnt (c13,c14,x15,IntKind.i64.wrap (n12 - 1))
noncomputable def Vk (r16 : Int × Mk) (n12 : Int) (r17 : Int × Mk) (x18 : List (List Int)) (k19 : Int) : Option (((List (List Int)) × Int) ⊕ (((List Int) × Int × (List (List Int)) × Int) ⊕ (Pg × Mk))) :=
 bif (decide (k19 < (x18.length : Int))) then
  chk (0 ≤ k19 ∧ k19 < x18.length) <|
  ((x18)[k19.toNat]?).bind fun x_e20 =>
  (SC x_e20 r16.1).bind fun r21 =>
  chk (0 ≤ k19 ∧ k19 < x18.length) <|
  ((x18)[k19.toNat]?).bind fun _ =>
  cnt (x18.set k19.toNat r21,IntKind.i64.wrap (k19 + 1))
 else
  lft (Rf n12 r17.2.list r17.2.at_ x18)
noncomputable def Vl (c9 : List Int) (c10 : Int) (f2 : OX) (n12 : Int) (x11 : List (List Int)) : Option (((List Int) × Int × (List (List Int)) × Int) ⊕ (Pg × Mk)) :=
 (Pc (Mk.mk c9 c10) (f2.Slots.length : Int)).bind fun r16 =>
 (Pc r16.2 2).bind fun r17 =>
 bif (r17.1 == 0) then
  Pq (fun s=>Vk r16 n12 r17 s.1 s.2) (x11,0)
 else
  (Pc r17.2 (x11.length : Int)).bind fun r23 =>
  (Pc r23.2 2).bind fun r24 =>
  bif (r24.1 == 0) then
   chk (0 ≤ r23.1 ∧ r23.1 < x11.length) <|
   ((x11)[r23.1.toNat]?).bind fun x_e25 =>
   (SC x_e25 r16.1).bind fun r26 =>
   chk (0 ≤ r23.1 ∧ r23.1 < x11.length) <|
   ((x11)[r23.1.toNat]?).bind fun _ =>
   Rf n12 r24.2.list r24.2.at_ (x11.set r23.1.toNat r26)
  else
   chk (0 ≤ r23.1 ∧ r23.1 < x11.length) <|
   ((x11)[r23.1.toNat]?).bind fun x_e28 =>
   (Wn x_e28 r16.1).bind fun r29 =>
   chk (0 ≤ r23.1 ∧ r23.1 < x11.length) <|
   ((x11)[r23.1.toNat]?).bind fun _ =>
   Rf n12 r24.2.list r24.2.at_ (x11.set r23.1.toNat r29)
noncomputable def RQ (c5 : List Int) (c6 : Int) (x7 : List (List Int)) : Option (Pg × Mk) :=
 (Pc (Mk.mk c5 c6) 12).bind fun r31 =>
 bif (r31.1 == 10) then
  chk (0 ≤ (1 : Int) ∧ (1 : Int) ≤ x7.length) <|
  some ((Pg.mk (x7.drop ((1 : Int).toNat))),r31.2)
 else
  bif (r31.1 == 11) then
   (Rr r31.2).bind fun r32 =>
   (Rr r32.2).bind fun r33 =>
   chk (0 ≤ (0 : Int) ∧ (0 : Int) < x7.length) <|
   ((x7)[(0 : Int).toNat]?).bind fun _ =>
   some ((Pg.mk (x7.set ((0 : Int).toNat) ([r32.1,r33.1] : List Int))),r33.2)
  else
   some ((Pg.mk x7),r31.2)
noncomputable def Vj (f2 : OX) (c9 : List Int) (c10 : Int) (x11 : List (List Int)) (n12 : Int) : Option (((List Int) × Int × (List (List Int)) × Int) ⊕ (Pg × Mk)) :=
 bif (decide (n12 > 0)) then
  bif (decide ((f2.Slots.length : Int) > 0)) then
   Vl c9 c10 f2 n12 x11
  else
   lft (RQ c9 c10 x11)
 else
  lft (RQ c9 c10 x11)
noncomputable def Vi (c1 : Mk) (f2 : OX) : Option (Pg × Mk) :=
 (Un f2).bind fun r3 =>
 (Pc c1 3).bind fun r4 =>
 bif (r4.1 == 0) then
  some (r3,r4.2)
 else
  chk (([] : List (List Int)).length + r3.Out.length ≤ 16777216) <|
  (Pc r4.2 4).bind fun r8 =>
  Pq (fun s=>Vj f2 s.1 s.2.1 s.2.2.1 s.2.2.2) (r8.2.list,r8.2.at_,([] : List (List Int)) ++ r3.Out,r8.1)

noncomputable def Xj (x_x3 : OX) (p1 : Ph) (n4 : Int) (k5 : Int) : Option ((Int × Int) ⊕ (Int)) :=
 bif (decide (k5 < (x_x3.Code.length : Int))) then
  (ixO x_x3.Code k5).bind fun x_x6 =>
  bif (x_x6.Op == 18) then
   (ixO x_x3.Code k5).bind fun x_x7 =>
   cnt (RI n4 (IntKind.i64.wrap (x_x7.A + 1)),IntKind.i64.wrap (k5 + 1))
  else
   bif (x_x6.Op == 22) then
    (ixO x_x3.Code k5).bind fun x_x8 =>
    (ixO p1.Funcs x_x8.A).bind fun x_x9 =>
    cnt (RI n4 x_x9.Params,IntKind.i64.wrap (k5 + 1))
   else
    cnt (n4,IntKind.i64.wrap (k5 + 1))
 else
  lft (some (IntKind.i64.wrap (n4 * 16)))
noncomputable def Sw (p1 : Ph) (i2 : Int) : Option (Int) :=
 (ixO p1.Funcs i2).bind fun x_x3 =>
 Pq (fun s=>Xj x_x3 p1 s.1 s.2) (0,0)

noncomputable def Sf (n1 : Int) : Option (Bool) :=
 bif (decide (n1 ≥ 0)) then
  some (decide (n1 ≤ 2147483647))
 else
  some false

noncomputable def VH (m5 : Int) : Option (Int × Int) :=
 bif (decide (m5 > 2147483647)) then
  some (0,9)
 else
  some (m5,0)
noncomputable def ZM (align2 : Int) (n1 : Int) : Option (Int × Int) :=
 chk (align2 ≠ 0) <|
 bif ((n1.tmod align2) != 0) then
  chk (align2 ≠ 0) <|
  VH (IntKind.i64.wrap ((IntKind.i64.wrap (n1 - (n1.tmod align2))) + align2))
 else
  VH n1
noncomputable def VG (n1 : Int) (align2 : Int) : Option (Int × Int) :=
 (Sf n1).bind fun r3 =>
 bif (!r3) then
  some (0,4)
 else
  (Sg align2).bind fun r4 =>
  bif (!r4) then
   some (0,4)
  else
   ZM align2 n1

noncomputable def VY (x6 : List Int) (r10 : Int × Int) (x_x5 : OX) (k7 : Int) (_x11 : Po) (_x12 : Po) (_x13 : Int) (_x14 : Int) (_x15 : Bool) : Option (((List Int) × Int × Int) ⊕ (Pe × Int)) :=
 chk (([] : List Int).length + x6.length ≤ 16777216) <|
 chk ((([] : List Int) ++ x6).length + ([r10.1] : List Int).length ≤ 16777216) <|
 (ixO x_x5.Slots k7).bind fun x_x17 =>
 cnt ((([] : List Int) ++ x6) ++ ([r10.1] : List Int),IntKind.i64.wrap (k7 + 1),IntKind.i64.wrap (r10.1 + x_x17.Size))
noncomputable def VX (x_x5 : OX) (align3 : Int) (r4 : Int) (x6 : List Int) (k7 : Int) (end8 : Int) : Option (((List Int) × Int × Int) ⊕ (Pe × Int)) :=
 bif (decide (k7 < (x_x5.Slots.length : Int))) then
  (ixO x_x5.Slots k7).bind fun x_x9 =>
  (VG end8 x_x9.Align).bind fun r10 =>
  bif (r10.2 != 0) then
   lft (some ((Pe.mk 0 0 ([])),9))
  else
   (ixO x_x5.Slots k7).bind fun x_x16 =>
   bif (decide (r10.1 > (IntKind.i64.wrap (2147483519 - x_x16.Size)))) then
    lft (some ((Pe.mk 0 0 ([])),9))
   else
    VY x6 r10 x_x5 k7 x_x16 x_x16 x_x16.Size (IntKind.i64.wrap (2147483519 - x_x16.Size)) (decide (r10.1 > (IntKind.i64.wrap (2147483519 - x_x16.Size))))
 else
  lft (
   (VG end8 align3).bind fun r18 =>
   bif (r18.2 != 0) then
    some ((Pe.mk 0 0 ([])),9)
   else
    bif (decide (r18.1 > 2147483519)) then
     some ((Pe.mk 0 0 ([])),9)
    else
     some ((Pe.mk r4 r18.1 x6),0))
noncomputable def Tg (p1 : Ph) (i2 : Int) (align3 : Int) : Option (Pe × Int) :=
 (Sw p1 i2).bind fun r4 =>
 (ixO p1.Funcs i2).bind fun x_x5 =>
 Pq (fun s=>VX x_x5 align3 r4 s.1 s.2.1 s.2.2) (([] : List Int),0,r4)

noncomputable def RZ (s1 : (List Int)) (i2 : Int) : Option ((Int) ⊕ (Bool)) :=
 bif (decide (i2 < (s1.length : Int))) then
  (ixO s1 i2).bind fun x_x3 =>
  (Vx x_x3).bind fun r4 =>
  bif (!r4) then
   lft (some false)
  else
   bif (decide (i2 > 0)) then
    (ixO s1 i2).bind fun x_x5 =>
    (ixO s1 (IntKind.i64.wrap (i2 - 1))).bind fun x_x6 =>
    bif (decide (x_x5 ≤ x_x6)) then
     lft (some false)
    else
     cnt (IntKind.i64.wrap (i2 + 1))
   else
    cnt (IntKind.i64.wrap (i2 + 1))
 else
  lft (some true)
noncomputable def Xp (s1 : (List Int)) : Option (Bool) :=
 Pq (fun s=>RZ s1 s) 0

noncomputable def YV (l2 : Pg) (f1 : OX) (k3 : Int) : Option ((Int) ⊕ (Bool)) :=
 bif (decide (k3 < (l2.Out.length : Int))) then
  (ixO l2.Out k3).bind fun x_x4 =>
  (Xp x_x4).bind fun r5 =>
  bif (!r5) then
   lft (some false)
  else
   (ixO l2.Out k3).bind fun x_x6 =>
   bif (decide ((x_x6.length : Int) > 0)) then
    (ixO l2.Out k3).bind fun x_x7 =>
    (ixO x_x7 (IntKind.i64.wrap ((x_x6.length : Int) - 1))).bind fun x_x8 =>
    bif (decide (x_x8 ≥ (f1.Slots.length : Int))) then
     lft (some false)
    else
     cnt (IntKind.i64.wrap (k3 + 1))
   else
    cnt (IntKind.i64.wrap (k3 + 1))
 else
  lft (some true)
noncomputable def Xq (f1 : OX) (l2 : Pg) : Option (Bool) :=
 bif ((l2.Out.length : Int) != (f1.Code.length : Int)) then
  some false
 else
  Pq (fun s=>YV l2 f1 s) 0

noncomputable def Wl (s1 : (List Int)) (n2 : Int) (i3 : Int) : Option ((Int) ⊕ (Bool)) :=
 bif (decide (i3 < (s1.length : Int))) then
  (ixO s1 i3).bind fun x_x4 =>
  bif (x_x4 == n2) then
   lft (some true)
  else
   cnt (IntKind.i64.wrap (i3 + 1))
 else
  lft (some false)
noncomputable def TB (s1 : (List Int)) (n2 : Int) : Option (Bool) :=
 Pq (fun s=>Wl s1 n2 s) 0

noncomputable def Ta (a1 : (List Int)) (b2 : (List Int)) (out3 : List Int) (i4 : Int) : Option (((List Int) × Int) ⊕ ((List Int))) :=
 bif (decide (i4 < (a1.length : Int))) then
  (ixO a1 i4).bind fun x_x5 =>
  (TB b2 x_x5).bind fun r6 =>
  bif (!r6) then
   (ixO a1 i4).bind fun x_x7 =>
   chk (out3.length + ([x_x7] : List Int).length ≤ 16777216) <|
   cnt (out3 ++ ([x_x7] : List Int),IntKind.i64.wrap (i4 + 1))
  else
   cnt (out3,IntKind.i64.wrap (i4 + 1))
 else
  lft (some out3)
noncomputable def ZN (a1 : (List Int)) (b2 : (List Int)) : Option ((List Int)) :=
 Pq (fun s=>Ta a1 b2 s.1 s.2) (([] : List Int),0)

noncomputable def Tc (r4 : (List Int)) (f1 : OX) (l2 : Pg) (k3 : Int) (out5 : List Int) (i6 : Int) : Option (((List Int) × Int) ⊕ ((List Int))) :=
 bif (decide (i6 < (r4.length : Int))) then
  chk (0 ≤ i6 ∧ i6 < r4.length) <|
  ((r4)[i6.toNat]?).bind fun next_e7 =>
  (ixO f1.Code next_e7).bind fun x_x8 =>
  (ixO l2.Out next_e7).bind fun x_x9 =>
  (AbU x_x8 x_x9).bind fun r10 =>
  (ixO l2.Out k3).bind fun x_x11 =>
  (ZN r10 x_x11).bind fun r12 =>
  (Tt out5 r12).bind fun r13 =>
  cnt (r13,IntKind.i64.wrap (i6 + 1))
 else
  lft (some out5)
noncomputable def Xh (f1 : OX) (l2 : Pg) (k3 : Int) : Option ((List Int)) :=
 (YQ f1 k3).bind fun r4 =>
 Pq (fun s=>Tc r4 f1 l2 k3 s.1 s.2) (([] : List Int),0)

noncomputable def YU (f1 : OX) (l2 : Pg) (k4 : Int) : Option ((Int) ⊕ (Int × Int × Bool)) :=
 bif (decide (k4 < (f1.Code.length : Int))) then
  (Xh f1 l2 k4).bind fun r5 =>
  bif (decide ((r5.length : Int) > 0)) then
   chk (0 ≤ (0 : Int) ∧ (0 : Int) < r5.length) <|
   ((r5)[(0 : Int).toNat]?).bind fun m_e6 =>
   lft (some (k4,m_e6,true))
  else
   cnt (IntKind.i64.wrap (k4 + 1))
 else
  lft (some (0,0,false))
noncomputable def ZO (f1 : OX) (l2 : Pg) : Option (Int × Int × Bool) :=
 (Xq f1 l2).bind fun r3 =>
 bif (!r3) then
  some (0,0,false)
 else
  Pq (fun s=>YU f1 l2 s) 0

noncomputable def VJ (f1 : OX) (l2 : Pg) : Option (Int) :=
 (ZO f1 l2).bind fun r3 =>
 bif r3.2.2 then
  some 11
 else
  (Xq f1 l2).bind fun r4 =>
  bif (!r4) then
   some 11
  else
   some 0

noncomputable def Sa (r14 : Int × Bool) (out15 : List (List Int)) (x_x19 : Int) (i16 : Int) (_x20 : Bool) (_x21 : Bool) (_x22 : Bool) (_x23 : Bool) : Option (((List (List Int)) × Int) ⊕ (((List (List Int)) × Int) ⊕ ((List (List Int)) × Int))) :=
 chk (0 ≤ r14.1 ∧ r14.1 < out15.length) <|
 ((out15)[r14.1.toNat]?).bind fun out_e24 =>
 (SC out_e24 x_x19).bind fun r25 =>
 chk (0 ≤ x_x19 ∧ x_x19 < out15.length) <|
 ((out15)[x_x19.toNat]?).bind fun out_e26 =>
 (SC out_e26 r14.1).bind fun r27 =>
 chk (0 ≤ r14.1 ∧ r14.1 < out15.length) <|
 ((out15)[r14.1.toNat]?).bind fun _ =>
 chk (0 ≤ x_x19 ∧ x_x19 < (out15.set r14.1.toNat r25).length) <|
 ((out15.set r14.1.toNat r25)[x_x19.toNat]?).bind fun _ =>
 cnt ((out15.set r14.1.toNat r25).set x_x19.toNat r27,IntKind.i64.wrap (i16 + 1))
noncomputable def Zd (l2 : Pg) (k6 : Int) (i16 : Int) (r14 : Int × Bool) (out15 : List (List Int)) (strict3 : Bool) (x_x13 : OZ) : Option (((List (List Int)) × Int) ⊕ (((List (List Int)) × Int) ⊕ ((List (List Int)) × Int))) :=
 (ixO l2.Out k6).bind fun x_x18 =>
 (ixO x_x18 i16).bind fun x_x19 =>
 bif (x_x19 == r14.1) then
  cnt (out15,IntKind.i64.wrap (i16 + 1))
 else
  bif (!strict3) then
   bif (x_x13.Op == 17) then
    bif (x_x13.B == x_x19) then
     cnt (out15,IntKind.i64.wrap (i16 + 1))
    else
     Sa r14 out15 x_x19 i16 true (x_x13.Op == 17) true (x_x13.B == x_x19)
   else
    Sa r14 out15 x_x19 i16 true (x_x13.Op == 17) false false
  else
   Sa r14 out15 x_x19 i16 false false false false
noncomputable def Td (k6 : Int) (_x7 : Int) (_x8 : Int) (_x9 : Int) (_x10 : Int) (_x11 : Int) (out12 : List (List Int)) : Option (((List (List Int)) × Int) ⊕ ((List (List Int)) × Int)) :=
 cnt (out12,IntKind.i64.wrap (k6 + 1))
noncomputable def Wv (l2 : Pg) (k6 : Int) (r14 : Int × Bool) (strict3 : Bool) (x_x13 : OZ) (out15 : List (List Int)) (i16 : Int) : Option (((List (List Int)) × Int) ⊕ (((List (List Int)) × Int) ⊕ ((List (List Int)) × Int))) :=
 (ixO l2.Out k6).bind fun x_x17 =>
 bif (decide (i16 < (x_x17.length : Int))) then
  bif r14.2 then
   Zd l2 k6 i16 r14 out15 strict3 x_x13
  else
   lft (Td k6 x_x13.Op x_x13.A x_x13.B x_x13.C x_x13.Imm out15)
 else
  lft (Td k6 x_x13.Op x_x13.A x_x13.B x_x13.C x_x13.Imm out15)
noncomputable def Uu (l2 : Pg) (k6 : Int) (r14 : Int × Bool) (strict3 : Bool) (x_x13 : OZ) (out5 : List (List Int)) : Option (((List (List Int)) × Int) ⊕ ((List (List Int)) × Int)) :=
 Pq (fun s=>Wv l2 k6 r14 strict3 x_x13 s.1 s.2) (out5,0)
noncomputable def Zc (f1 : OX) (l2 : Pg) (strict3 : Bool) (out5 : List (List Int)) (k6 : Int) : Option (((List (List Int)) × Int) ⊕ ((List (List Int)) × Int)) :=
 bif (decide (k6 < (f1.Code.length : Int))) then
  (ixO f1.Code k6).bind fun x_x13 =>
  (QJ x_x13).bind fun r14 =>
  bif (x_x13.Op == 17) then
   bif (x_x13.A == x_x13.B) then
    Td k6 x_x13.Op x_x13.A x_x13.B x_x13.C x_x13.Imm out5
   else
    Uu l2 k6 r14 strict3 x_x13 out5
  else
   Uu l2 k6 r14 strict3 x_x13 out5
 else
  lft (some (out5,0))
noncomputable def Xr (f1 : OX) (l2 : Pg) (strict3 : Bool) : Option ((List (List Int)) × Int) :=
 (VJ f1 l2).bind fun r4 =>
 bif (r4 != 0) then
  some (([] : List (List Int)),r4)
 else
  chk (0 ≤ (f1.Slots.length : Int) ∧ (f1.Slots.length : Int) ≤ 16777216) <|
  Pq (fun s=>Zc f1 l2 strict3 s.1 s.2) (List.replicate (f1.Slots.length : Int).toNat ([] : (List Int)),0)

noncomputable def ZQ (f1 : OX) (l2 : Pg) : Option ((List (List Int)) × Int) :=
 (Xr f1 l2 false).bind fun r3 =>
 some (r3.1,r3.2)

noncomputable def Wu (k3 : Int) (out4 : List PT) : Option (((List PT) × Int) ⊕ ((List PT))) :=
 cnt (out4,IntKind.i64.wrap (k3 + 1))
noncomputable def Zb (out2 : List PT) (x_x5 : OZ) (k3 : Int) (old7 : Bool) (i8 : Int) : Option ((Bool × Int) ⊕ (((List PT) × Int) ⊕ ((List PT)))) :=
 bif (decide (i8 < (out2.length : Int))) then
  bif old7 then
   cnt (true,IntKind.i64.wrap (i8 + 1))
  else
   chk (0 ≤ i8 ∧ i8 < out2.length) <|
   ((out2)[i8.toNat]?).bind fun out_e9 =>
   cnt (((out_e9.a0 == x_x5.A) && ((out_e9.a1 == x_x5.B) && true)),IntKind.i64.wrap (i8 + 1))
 else
  lft (
   bif (!old7) then
    chk (out2.length + ([(PT.mk x_x5.A x_x5.B)] : List PT).length ≤ 16777216) <|
    Wu k3 (out2 ++ ([(PT.mk x_x5.A x_x5.B)] : List PT))
   else
    Wu k3 out2)
noncomputable def Ut (out2 : List PT) (x_x5 : OZ) (k3 : Int) (old6 : Bool) : Option (((List PT) × Int) ⊕ ((List PT))) :=
 Pq (fun s=>Zb out2 x_x5 k3 s.1 s.2) (old6,0)
noncomputable def Za (f1 : OX) (out2 : List PT) (k3 : Int) : Option (((List PT) × Int) ⊕ ((List PT))) :=
 bif (decide (k3 < (f1.Code.length : Int))) then
  (ixO f1.Code k3).bind fun x_x5 =>
  bif (x_x5.Op != 17) then
   Ut out2 x_x5 k3 true
  else
   Ut out2 x_x5 k3 (x_x5.A == x_x5.B)
 else
  lft (some out2)
noncomputable def ZR (f1 : OX) : Option ((List PT)) :=
 Pq (fun s=>Za f1 s.1 s.2) (([] : List PT),0)

noncomputable def WL (to1 : (List Int)) (s2 : Int) (out3 : List Int) (t4 : Int) : Option (((List Int) × Int) ⊕ ((List Int))) :=
 bif (decide (t4 < (to1.length : Int))) then
  (ixO to1 t4).bind fun x_x5 =>
  bif (x_x5 == s2) then
   chk (out3.length + ([t4] : List Int).length ≤ 16777216) <|
   cnt (out3 ++ ([t4] : List Int),IntKind.i64.wrap (t4 + 1))
  else
   cnt (out3,IntKind.i64.wrap (t4 + 1))
 else
  lft (some out3)
noncomputable def TV (to1 : (List Int)) (s2 : Int) : Option ((List Int)) :=
 Pq (fun s=>WL to1 s2 s.1 s.2) (([] : List Int),0)

noncomputable def Zi (i7 : Int) : Option ((Int) ⊕ (Bool)) :=
 cnt (IntKind.i64.wrap (i7 + 1))
noncomputable def Zh (r6 : (List Int)) (i7 : Int) (r5 : (List Int)) (g1 : (List (List Int))) (k8 : Int) : Option ((Int) ⊕ ((Int) ⊕ (Bool))) :=
 bif (decide (k8 < (r6.length : Int))) then
  chk (0 ≤ i7 ∧ i7 < r5.length) <|
  ((r5)[i7.toNat]?).bind fun x_e9 =>
  (ixO g1 x_e9).bind fun x_x10 =>
  chk (0 ≤ k8 ∧ k8 < r6.length) <|
  ((r6)[k8.toNat]?).bind fun y_e11 =>
  (TB x_x10 y_e11).bind fun r12 =>
  bif r12 then
   lft (lft (some false))
  else
   cnt (IntKind.i64.wrap (k8 + 1))
 else
  lft (Zi i7)
noncomputable def Zg (r5 : (List Int)) (r6 : (List Int)) (g1 : (List (List Int))) (i7 : Int) : Option ((Int) ⊕ (Bool)) :=
 bif (decide (i7 < (r5.length : Int))) then
  Pq (fun s=>Zh r6 i7 r5 g1 s) 0
 else
  lft (some true)
noncomputable def ZT (g1 : (List (List Int))) (to2 : (List Int)) (a3 : Int) (b4 : Int) : Option (Bool) :=
 (TV to2 a3).bind fun r5 =>
 (TV to2 b4).bind fun r6 =>
 Pq (fun s=>Zg r5 r6 g1 s) 0

noncomputable def Te (s17 : Int) (to16 : List Int) (to_e10 : Int) (to_e12 : Int) (x18 : Bool) : Option (((List Int) × Int) ⊕ (((List Int) × Int) ⊕ ((List Int)))) :=
 bif x18 then
  chk (0 ≤ s17 ∧ s17 < to16.length) <|
  ((to16)[s17.toNat]?).bind fun _ =>
  cnt (to16.set s17.toNat (Sp to_e10 to_e12),IntKind.i64.wrap (s17 + 1))
 else
  cnt (to16,IntKind.i64.wrap (s17 + 1))
noncomputable def Rl (i7 : Int) (to8 : List Int) : Option (((List Int) × Int) ⊕ ((List Int))) :=
 cnt (to8,IntKind.i64.wrap (i7 + 1))
noncomputable def WJ (to_e10 : Int) (to_e12 : Int) (i7 : Int) (to16 : List Int) (s17 : Int) : Option (((List Int) × Int) ⊕ (((List Int) × Int) ⊕ ((List Int)))) :=
 bif (decide (s17 < (to16.length : Int))) then
  chk (0 ≤ s17 ∧ s17 < to16.length) <|
  ((to16)[s17.toNat]?).bind fun to_e19 =>
  bif (to_e19 == to_e10) then
   Te s17 to16 to_e10 to_e12 true
  else
   chk (0 ≤ s17 ∧ s17 < to16.length) <|
   ((to16)[s17.toNat]?).bind fun to_e20 =>
   Te s17 to16 to_e10 to_e12 (to_e20 == to_e12)
 else
  lft (Rl i7 to16)
noncomputable def WK (to_e10 : Int) (to_e12 : Int) (i7 : Int) (to6 : List Int) (_x13 : Bool) (_x14 : Bool) : Option (((List Int) × Int) ⊕ ((List Int))) :=
 Pq (fun s=>WJ to_e10 to_e12 i7 s.1 s.2) (to6,0)
noncomputable def WI (r5 : (List PT)) (g2 : (List (List Int))) (to6 : List Int) (i7 : Int) : Option (((List Int) × Int) ⊕ ((List Int))) :=
 bif (decide (i7 < (r5.length : Int))) then
  chk (0 ≤ i7 ∧ i7 < r5.length) <|
  ((r5)[i7.toNat]?).bind fun moves_e9 =>
  chk (0 ≤ moves_e9.a0 ∧ moves_e9.a0 < to6.length) <|
  ((to6)[moves_e9.a0.toNat]?).bind fun to_e10 =>
  chk (0 ≤ i7 ∧ i7 < r5.length) <|
  ((r5)[i7.toNat]?).bind fun moves_e11 =>
  chk (0 ≤ moves_e11.a1 ∧ moves_e11.a1 < to6.length) <|
  ((to6)[moves_e11.a1.toNat]?).bind fun to_e12 =>
  bif (to_e10 == to_e12) then
   Rl i7 to6
  else
   (ZT g2 to6 to_e10 to_e12).bind fun r15 =>
   bif (!r15) then
    Rl i7 to6
   else
    WK to_e10 to_e12 i7 to6 r15 (!r15)
 else
  lft (some to6)
noncomputable def WH (f1 : OX) (g2 : (List (List Int))) (to3 : List Int) (s4 : Int) : Option (((List Int) × Int) ⊕ ((List Int))) :=
 bif (decide (s4 < (f1.Slots.length : Int))) then
  chk (to3.length + ([s4] : List Int).length ≤ 16777216) <|
  cnt (to3 ++ ([s4] : List Int),IntKind.i64.wrap (s4 + 1))
 else
  lft (
   (ZR f1).bind fun r5 =>
   Pq (fun s=>WI r5 g2 s.1 s.2) (to3,0))
noncomputable def Vc (f1 : OX) (g2 : (List (List Int))) : Option ((List Int)) :=
 Pq (fun s=>WH f1 g2 s.1 s.2) (([] : List Int),0)

noncomputable def Abn (f1 : OX) (l2 : Pg) (k3 : Int) : Option (Bool) :=
 (ixO f1.Code k3).bind fun x_x4 =>
 (QJ x_x4).bind fun r5 =>
 bif r5.2 then
  (ixO l2.Out k3).bind fun x_x6 =>
  (TB x_x6 r5.1).bind fun r7 =>
  some (!r7)
 else
  some false

noncomputable def Aak (f1 : OX) (l2 : Pg) (to3 : (List Int)) (out4 : List Bool) (k5 : Int) : Option (((List Bool) × Int) ⊕ ((List Bool))) :=
 bif (decide (k5 < (f1.Code.length : Int))) then
  (ixO f1.Code k5).bind fun x_x6 =>
  (Abn f1 l2 k5).bind fun r7 =>
  bif (!r7) then
   bif (x_x6.Op == 17) then
    (ixO to3 x_x6.A).bind fun x_x8 =>
    (ixO to3 x_x6.B).bind fun x_x9 =>
    chk (out4.length + ([(!(x_x8 == x_x9))] : List Bool).length ≤ 16777216) <|
    cnt (out4 ++ ([(!(x_x8 == x_x9))] : List Bool),IntKind.i64.wrap (k5 + 1))
   else
    chk (out4.length + ([true] : List Bool).length ≤ 16777216) <|
    cnt (out4 ++ ([true] : List Bool),IntKind.i64.wrap (k5 + 1))
  else
   chk (out4.length + ([false] : List Bool).length ≤ 16777216) <|
   cnt (out4 ++ ([false] : List Bool),IntKind.i64.wrap (k5 + 1))
 else
  lft (some out4)
noncomputable def Zj (f1 : OX) (l2 : Pg) (to3 : (List Int)) : Option ((List Bool)) :=
 Pq (fun s=>Aak f1 l2 to3 s.1 s.2) (([] : List Bool),0)

noncomputable def Zf (to2 : (List Int)) (f1 : OX) (s6 : Int) : Option ((Int) ⊕ (Bool)) :=
 bif (decide (s6 < (to2.length : Int))) then
  (ixO to2 s6).bind fun x_x7 =>
  (ixO f1.Slots x_x7).bind fun x_x8 =>
  (ixO f1.Slots s6).bind fun x_x9 =>
  bif (x_x8.Size != x_x9.Size) then
   lft (some false)
  else
   (ixO to2 s6).bind fun x_x10 =>
   (ixO to2 x_x10).bind fun x_x11 =>
   (ixO to2 s6).bind fun x_x12 =>
   bif (x_x11 != x_x12) then
    lft (some false)
   else
    cnt (IntKind.i64.wrap (s6 + 1))
 else
  lft (some true)
noncomputable def Ze (to2 : (List Int)) (f1 : OX) (s3 : Int) : Option ((Int) ⊕ (Bool)) :=
 bif (decide (s3 < (to2.length : Int))) then
  (ixO to2 s3).bind fun x_x4 =>
  bif (decide (x_x4 < 0)) then
   lft (some false)
  else
   (ixO to2 s3).bind fun x_x5 =>
   bif (decide (x_x5 ≥ (to2.length : Int))) then
    lft (some false)
   else
    cnt (IntKind.i64.wrap (s3 + 1))
 else
  lft (Pq (fun s=>Zf to2 f1 s) 0)
noncomputable def ZS (f1 : OX) (to2 : (List Int)) : Option (Bool) :=
 bif ((to2.length : Int) != (f1.Slots.length : Int)) then
  some false
 else
  Pq (fun s=>Ze to2 f1 s) 0

noncomputable def Zo (f1 : OX) (r2 : Pw) (k4 : Int) : Option ((Int) ⊕ (Int)) :=
 bif (decide (k4 < (f1.Code.length : Int))) then
  (ixO r2.Keep k4).bind fun x_x5 =>
  bif (!x_x5) then
   (ixO f1.Code k4).bind fun x_x6 =>
   (RF x_x6).bind fun r7 =>
   bif (!r7) then
    lft (some 12)
   else
    cnt (IntKind.i64.wrap (k4 + 1))
  else
   cnt (IntKind.i64.wrap (k4 + 1))
 else
  lft (some 0)
noncomputable def Zp (f1 : OX) (r2 : Pw) : Option (Int) :=
 Pq (fun s=>Zo f1 r2 s) 0
noncomputable def ZU (f1 : OX) (r2 : Pw) : Option (Int) :=
 (ZS f1 r2.To).bind fun r3 =>
 bif (!r3) then
  some 12
 else
  bif ((r2.Keep.length : Int) != (f1.Code.length : Int)) then
   some 12
  else
   Zp f1 r2

noncomputable def SD (s1 : Int) (to2 : (List Int)) : Option (Int) :=
 bif (decide (s1 < 0)) then
  some s1
 else
  bif (decide (s1 ≥ (to2.length : Int))) then
   some s1
  else
   (ixO to2 s1).bind fun x_x3 =>
   some x_x3

noncomputable def UZ (x1 : OZ) (to2 : (List Int)) : Option (OZ) :=
 bif (x1.Op == 15) then
  (SD x1.B to2).bind fun r3 =>
  some (OZ.mk x1.Op x1.A r3 x1.C x1.Imm)
 else
  bif (x1.Op == 16) then
   (SD x1.A to2).bind fun r4 =>
   some (OZ.mk x1.Op r4 x1.B x1.C x1.Imm)
  else
   bif (x1.Op == 17) then
    (SD x1.A to2).bind fun r5 =>
    (SD x1.B to2).bind fun r6 =>
    some (OZ.mk x1.Op r5 r6 x1.C x1.Imm)
   else
    some x1

noncomputable def Aan (r2 : Pw) (k4 : Int) (out3 : List Int) (f1 : OX) : Option (((List Int) × Int) ⊕ ((List Int))) :=
 (ixO r2.Keep k4).bind fun x_x5 =>
 bif (!x_x5) then
  cnt (out3,IntKind.i64.wrap (k4 + 1))
 else
  (ixO f1.Code k4).bind fun x_x6 =>
  (UZ x_x6 r2.To).bind fun r7 =>
  (Uk r7).bind fun r8 =>
  (Tt out3 r8).bind fun r9 =>
  (QJ r7).bind fun r10 =>
  bif r10.2 then
   (SC r9 r10.1).bind fun r11 =>
   cnt (r11,IntKind.i64.wrap (k4 + 1))
  else
   cnt (r9,IntKind.i64.wrap (k4 + 1))
noncomputable def Aam (f1 : OX) (r2 : Pw) (out3 : List Int) (k4 : Int) : Option (((List Int) × Int) ⊕ ((List Int))) :=
 bif (decide (k4 < (f1.Code.length : Int))) then
  bif (decide (k4 < (r2.Keep.length : Int))) then
   Aan r2 k4 out3 f1
  else
   lft (some out3)
 else
  lft (some out3)
noncomputable def Abo (f1 : OX) (r2 : Pw) : Option ((List Int)) :=
 Pq (fun s=>Aam f1 r2 s.1 s.2) (([] : List Int),0)

noncomputable def WR (s4 : Int) (out5 : List Int) : Option (((List Int) × Int) ⊕ ((List Int))) :=
 cnt (out5,IntKind.i64.wrap (s4 + 1))
noncomputable def WQ (used2 : (List Int)) (r1 : Pw) (s4 : Int) (out3 : List Int) (n6 : Int) (i7 : Int) : Option ((Int × Int) ⊕ (((List Int) × Int) ⊕ ((List Int)))) :=
 bif (decide (i7 < (used2.length : Int))) then
  (ixO used2 i7).bind fun x_x8 =>
  (ixO r1.To s4).bind fun x_x9 =>
  bif (x_x8 == x_x9) then
   cnt (i7,IntKind.i64.wrap (i7 + 1))
  else
   cnt (n6,IntKind.i64.wrap (i7 + 1))
 else
  lft (
   chk (out3.length + ([n6] : List Int).length ≤ 16777216) <|
   WR s4 (out3 ++ ([n6] : List Int)))
noncomputable def WO (r1 : Pw) (used2 : (List Int)) (out3 : List Int) (s4 : Int) : Option (((List Int) × Int) ⊕ ((List Int))) :=
 bif (decide (s4 < (r1.To.length : Int))) then
  Pq (fun s=>WQ used2 r1 s4 out3 s.1 s.2) (0,0)
 else
  lft (some out3)
noncomputable def Xi (r1 : Pw) (used2 : (List Int)) : Option ((List Int)) :=
 Pq (fun s=>WO r1 used2 s.1 s.2) (([] : List Int),0)

noncomputable def XO (r1 : Pw) (out2 : List Int) (n3 : Int) (k4 : Int) : Option (((List Int) × Int × Int) ⊕ ((List Int))) :=
 bif (decide (k4 < (r1.Keep.length : Int))) then
  chk (out2.length + ([n3] : List Int).length ≤ 16777216) <|
  (ixO r1.Keep k4).bind fun x_x5 =>
  bif x_x5 then
   cnt (out2 ++ ([n3] : List Int),IntKind.i64.wrap (n3 + 1),IntKind.i64.wrap (k4 + 1))
  else
   cnt (out2 ++ ([n3] : List Int),n3,IntKind.i64.wrap (k4 + 1))
 else
  lft (some out2)
noncomputable def Yr (r1 : Pw) : Option ((List Int)) :=
 Pq (fun s=>XO r1 s.1 s.2.1 s.2.2) (([] : List Int),0,0)

noncomputable def Zn (i6 : Int) (slots7 : List Po) : Option (((List Po) × Int) ⊕ (OX × Int)) :=
 cnt (slots7,IntKind.i64.wrap (i6 + 1))
noncomputable def Ww (r11 : (List Int)) (f1 : OX) (out5 : List Po) (x_x9 : Po) (i6 : Int) (s12 : Int) (k13 : Int) : Option ((Int × Int) ⊕ (((List Po) × Int) ⊕ (OX × Int))) :=
 bif (decide (k13 < (r11.length : Int))) then
  chk (0 ≤ k13 ∧ k13 < r11.length) <|
  ((r11)[k13.toNat]?).bind fun l_e14 =>
  (ixO f1.Slots l_e14).bind fun x_x15 =>
  cnt (RI s12 x_x15.Align,IntKind.i64.wrap (k13 + 1))
 else
  lft (
   chk (([] : List Po).length + out5.length ≤ 16777216) <|
   chk ((([] : List Po) ++ out5).length + ([(Po.mk x_x9.Size s12)] : List Po).length ≤ 16777216) <|
   Zn i6 ((([] : List Po) ++ out5) ++ ([(Po.mk x_x9.Size s12)] : List Po)))
noncomputable def Tf (out18 : List OZ) (r22 : OZ) (k19 : Int) (x23 : Int) (x24 : Int) : Option (((List OZ) × Int) ⊕ (OX × Int)) :=
 chk (([] : List OZ).length + out18.length ≤ 16777216) <|
 chk ((([] : List OZ) ++ out18).length + ([(OZ.mk r22.Op x23 x24 r22.C r22.Imm)] : List OZ).length ≤ 16777216) <|
 cnt ((([] : List OZ) ++ out18) ++ ([(OZ.mk r22.Op x23 x24 r22.C r22.Imm)] : List OZ),IntKind.i64.wrap (k19 + 1))
noncomputable def Wx (f1 : OX) (r2 : Pw) (r16 : (List Int)) (r17 : (List Int)) (out5 : List Po) (out18 : List OZ) (k19 : Int) : Option (((List OZ) × Int) ⊕ (OX × Int)) :=
 bif (decide (k19 < (f1.Code.length : Int))) then
  (ixO r2.Keep k19).bind fun x_x20 =>
  bif (!x_x20) then
   cnt (out18,IntKind.i64.wrap (k19 + 1))
  else
   (ixO f1.Code k19).bind fun x_x21 =>
   (UZ x_x21 r16).bind fun r22 =>
   bif (r22.Op == 20) then
    chk (0 ≤ r22.A ∧ r22.A < r17.length) <|
    ((r17)[r22.A.toNat]?).bind fun places_e25 =>
    Tf out18 r22 k19 places_e25 r22.B
   else
    bif (r22.Op == 21) then
     chk (0 ≤ r22.B ∧ r22.B < r17.length) <|
     ((r17)[r22.B.toNat]?).bind fun places_e26 =>
     Tf out18 r22 k19 r22.A places_e26
    else
     Tf out18 r22 k19 r22.A r22.B
 else
  lft (some ((OX.mk f1.Params out5 out18),0))
noncomputable def Zm (r4 : (List Int)) (f1 : OX) (r2 : Pw) (out5 : List Po) (i6 : Int) : Option (((List Po) × Int) ⊕ (OX × Int)) :=
 bif (decide (i6 < (r4.length : Int))) then
  chk (0 ≤ i6 ∧ i6 < r4.length) <|
  ((r4)[i6.toNat]?).bind fun used_e8 =>
  (ixO f1.Slots used_e8).bind fun x_x9 =>
  chk (0 ≤ i6 ∧ i6 < r4.length) <|
  ((r4)[i6.toNat]?).bind fun used_e10 =>
  (TV r2.To used_e10).bind fun r11 =>
  Pq (fun s=>Ww r11 f1 out5 x_x9 i6 s.1 s.2) (x_x9.Align,0)
 else
  lft (
   (Xi r2 r4).bind fun r16 =>
   (Yr r2).bind fun r17 =>
   Pq (fun s=>Wx f1 r2 r16 r17 out5 s.1 s.2) ([],0))
noncomputable def VK (f1 : OX) (r2 : Pw) : Option (OX × Int) :=
 (ZU f1 r2).bind fun r3 =>
 bif (r3 != 0) then
  some ((OX.mk 0 ([]) ([])),r3)
 else
  (Abo f1 r2).bind fun r4 =>
  Pq (fun s=>Zm r4 f1 r2 s.1 s.2) ([],0)

noncomputable def Abl (f1 : OX) (l2 : Pg) : Option ((List (List Int)) × Int) :=
 (Xr f1 l2 true).bind fun r3 =>
 some (r3.1,r3.2)

noncomputable def YY (x3 : Int) (_x4 : (List Int)) (_x5 : List Int) (_x6 : Bool) : Option ((Int) ⊕ (Bool)) :=
 cnt (IntKind.i64.wrap (x3 + 1))
noncomputable def YX (g1 : (List (List Int))) (x3 : Int) (n2 : Int) (x7 : (List Int)) (x8 : List Int) (x9 : Bool) (i14 : Int) : Option ((Int) ⊕ ((Int) ⊕ (Bool))) :=
 (ixO g1 x3).bind fun x_x15 =>
 bif (decide (i14 < (x_x15.length : Int))) then
  (ixO g1 x3).bind fun x_x16 =>
  (ixO x_x16 i14).bind fun x_x17 =>
  bif (decide (x_x17 ≥ n2)) then
   lft (lft (some false))
  else
   (ixO g1 x_x17).bind fun x_x18 =>
   (TB x_x18 x3).bind fun r19 =>
   bif (!r19) then
    lft (lft (some false))
   else
    cnt (IntKind.i64.wrap (i14 + 1))
 else
  lft (YY x3 x7 x8 x9)
noncomputable def YZ (g1 : (List (List Int))) (x3 : Int) (n2 : Int) (x7 : (List Int)) (x8 : List Int) (x9 : Bool) : Option ((Int) ⊕ (Bool)) :=
 Pq (fun s=>YX g1 x3 n2 x7 x8 x9 s) 0
noncomputable def YW (n2 : Int) (g1 : (List (List Int))) (x3 : Int) : Option ((Int) ⊕ (Bool)) :=
 bif (decide (x3 < n2)) then
  (ixO g1 x3).bind fun x_x10 =>
  (Xp x_x10).bind fun r11 =>
  bif (!r11) then
   lft (some false)
  else
   (ixO g1 x3).bind fun x_x12 =>
   (TB x_x12 x3).bind fun r13 =>
   bif r13 then
    lft (some false)
   else
    YZ g1 x3 n2 x_x12 x_x12 r13
 else
  lft (some true)
noncomputable def ZP (g1 : (List (List Int))) (n2 : Int) : Option (Bool) :=
 bif ((g1.length : Int) != n2) then
  some false
 else
  Pq (fun s=>YW n2 g1 s) 0

noncomputable def Yt (a1 : Po) (b2 : Po) : Option (Bool) :=
 bif (decide (a1.Align > b2.Align)) then
  some true
 else
  bif (a1.Align == b2.Align) then
   some (decide (a1.Size > b2.Size))
  else
   some false

noncomputable def Zs (i3 : Int) (out4 : List Int) : Option (((List Int) × Int) ⊕ ((List Int))) :=
 cnt (out4,IntKind.i64.wrap (i3 + 1))
noncomputable def Uv (out2 : List Int) (i3 : Int) (k5 : Int) : Option (((List Int) × Int) ⊕ ((List Int))) :=
 chk (0 ≤ k5 ∧ k5 ≤ out2.length) <|
 chk (([] : List Int).length + (out2.take k5.toNat).length ≤ 16777216) <|
 chk ((([] : List Int) ++ (out2.take k5.toNat)).length + ([i3] : List Int).length ≤ 16777216) <|
 chk (0 ≤ k5 ∧ k5 ≤ out2.length) <|
 chk (((([] : List Int) ++ (out2.take k5.toNat)) ++ ([i3] : List Int)).length + (out2.drop k5.toNat).length ≤ 16777216) <|
 Zs i3 (((([] : List Int) ++ (out2.take k5.toNat)) ++ ([i3] : List Int)) ++ (out2.drop k5.toNat))
noncomputable def Zr (s1 : (List Po)) (i3 : Int) (out2 : List Int) (k6 : Int) : Option ((Int) ⊕ (((List Int) × Int) ⊕ ((List Int)))) :=
 bif (decide (k6 > 0)) then
  (ixO s1 i3).bind fun x_x7 =>
  chk (0 ≤ (IntKind.i64.wrap (k6 - 1)) ∧ (IntKind.i64.wrap (k6 - 1)) < out2.length) <|
  ((out2)[(IntKind.i64.wrap (k6 - 1)).toNat]?).bind fun out_e8 =>
  (ixO s1 out_e8).bind fun x_x9 =>
  (Yt x_x7 x_x9).bind fun r10 =>
  bif r10 then
   cnt (IntKind.i64.wrap (k6 - 1))
  else
   lft (Uv out2 i3 k6)
 else
  lft (Uv out2 i3 k6)
noncomputable def Zq (s1 : (List Po)) (out2 : List Int) (i3 : Int) : Option (((List Int) × Int) ⊕ ((List Int))) :=
 bif (decide (i3 < (s1.length : Int))) then
  Pq (fun s=>Zr s1 i3 out2 s) (out2.length : Int)
 else
  lft (some out2)
noncomputable def ZV (s1 : (List Po)) : Option ((List Int)) :=
 Pq (fun s=>Zq s1 s.1 s.2) (([] : List Int),0)

noncomputable def QQ (a1 : Pj) : Option (Bool) :=
 (Sf a1.Off).bind fun r2 =>
 bif r2 then
  (Sf a1.Size).bind fun r3 =>
  bif r3 then
   some (decide ((IntKind.i64.wrap (a1.Off + a1.Size)) ≤ 2147483647))
  else
   some false
 else
  some false

noncomputable def RL (a1 : Pj) (b2 : Pj) : Option (Bool) :=
 (QQ a1).bind fun r3 =>
 bif r3 then
  (QQ b2).bind fun r4 =>
  bif r4 then
   bif (decide (a1.Size > 0)) then
    bif (decide (b2.Size > 0)) then
     bif (decide (a1.Off < (IntKind.i64.wrap (b2.Off + b2.Size)))) then
      some (decide (b2.Off < (IntKind.i64.wrap (a1.Off + a1.Size))))
     else
      some false
    else
     some false
   else
    some false
  else
   some false
 else
  some false

noncomputable def Aaf (used1 : (List Pj)) (x2 : Pj) (i3 : Int) : Option ((Int) ⊕ (Bool)) :=
 bif (decide (i3 < (used1.length : Int))) then
  (ixO used1 i3).bind fun x_x4 =>
  (RL x_x4 x2).bind fun r5 =>
  bif r5 then
   lft (some false)
  else
   cnt (IntKind.i64.wrap (i3 + 1))
 else
  lft (some true)
noncomputable def Abg (used1 : (List Pj)) (x2 : Pj) : Option (Bool) :=
 Pq (fun s=>Aaf used1 x2 s) 0

noncomputable def Wh (align4 : Int) (size3 : Int) (used1 : (List Pj)) (found12 : Bool) (i13 : Int) (best11 : Int) (at14 : Int) : Option ((Int × Bool × Int) ⊕ (Int × Int)) :=
 (VG at14 align4).bind fun r17 =>
 bif (r17.2 == 0) then
  (QQ (Pj.mk r17.1 size3)).bind fun r18 =>
  bif r18 then
   (Abg used1 (Pj.mk r17.1 size3)).bind fun r19 =>
   bif r19 then
    bif (!found12) then
     cnt (r17.1,true,IntKind.i64.wrap (i13 + 1))
    else
     bif (decide (r17.1 < best11)) then
      cnt (r17.1,true,IntKind.i64.wrap (i13 + 1))
     else
      cnt (best11,found12,IntKind.i64.wrap (i13 + 1))
   else
    cnt (best11,found12,IntKind.i64.wrap (i13 + 1))
  else
   cnt (best11,found12,IntKind.i64.wrap (i13 + 1))
 else
  cnt (best11,found12,IntKind.i64.wrap (i13 + 1))
noncomputable def Abe (used1 : (List Pj)) (align4 : Int) (size3 : Int) (from2 : Int) (best11 : Int) (found12 : Bool) (i13 : Int) : Option ((Int × Bool × Int) ⊕ (Int × Int)) :=
 bif (decide (i13 < (used1.length : Int))) then
  bif (decide (i13 ≥ 0)) then
   (ixO used1 i13).bind fun x_x15 =>
   (ixO used1 i13).bind fun x_x16 =>
   Wh align4 size3 used1 found12 i13 best11 (RI from2 (IntKind.i64.wrap (x_x15.Off + x_x16.Size)))
  else
   Wh align4 size3 used1 found12 i13 best11 from2
 else
  lft (
   bif (!found12) then
    some (0,9)
   else
    some (best11,0))
noncomputable def Abd (used1 : (List Pj)) (align4 : Int) (size3 : Int) (from2 : Int) (i8 : Int) : Option ((Int) ⊕ (Int × Int)) :=
 bif (decide (i8 < (used1.length : Int))) then
  (ixO used1 i8).bind fun x_x9 =>
  (QQ x_x9).bind fun r10 =>
  bif (!r10) then
   lft (some (0,4))
  else
   cnt (IntKind.i64.wrap (i8 + 1))
 else
  lft (Pq (fun s=>Abe used1 align4 size3 from2 s.1 s.2.1 s.2.2) (0,false,(-1)))
noncomputable def Abf (used1 : (List Pj)) (align4 : Int) (size3 : Int) (from2 : Int) : Option (Int × Int) :=
 Pq (fun s=>Abd used1 align4 size3 from2 s) 0
noncomputable def Acl (used1 : (List Pj)) (from2 : Int) (size3 : Int) (align4 : Int) : Option (Int × Int) :=
 (Sf from2).bind fun r5 =>
 bif (!r5) then
  some (0,4)
 else
  (Sf size3).bind fun r6 =>
  bif (!r6) then
   some (0,4)
  else
   (Sg align4).bind fun r7 =>
   bif (!r7) then
    some (0,4)
   else
    Abf used1 align4 size3 from2

noncomputable def TO (y15 : Int) (off9 : List Int) (s1 : (List Po)) (used14 : List Pj) (x16 : Bool) : Option (((List Pj) × Int) ⊕ (((List Bool) × (List Int) × Int) ⊕ ((List Int) × Int))) :=
 bif x16 then
  chk (0 ≤ y15 ∧ y15 < off9.length) <|
  ((off9)[y15.toNat]?).bind fun off_e20 =>
  (ixO s1 y15).bind fun x_x21 =>
  chk (used14.length + ([(Pj.mk off_e20 x_x21.Size)] : List Pj).length ≤ 16777216) <|
  cnt (used14 ++ ([(Pj.mk off_e20 x_x21.Size)] : List Pj),IntKind.i64.wrap (y15 + 1))
 else
  cnt (used14,IntKind.i64.wrap (y15 + 1))
noncomputable def XS (i10 : Int) (done11 : List Bool) (off12 : List Int) : Option (((List Bool) × (List Int) × Int) ⊕ ((List Int) × Int)) :=
 cnt (done11,off12,IntKind.i64.wrap (i10 + 1))
noncomputable def XQ (s1 : (List Po)) (done8 : List Bool) (g2 : (List (List Int))) (order_e13 : Int) (off9 : List Int) (from3 : Int) (i10 : Int) (used14 : List Pj) (y15 : Int) : Option (((List Pj) × Int) ⊕ (((List Bool) × (List Int) × Int) ⊕ ((List Int) × Int))) :=
 bif (decide (y15 < (s1.length : Int))) then
  chk (0 ≤ y15 ∧ y15 < done8.length) <|
  ((done8)[y15.toNat]?).bind fun done_e17 =>
  bif done_e17 then
   (ixO g2 order_e13).bind fun x_x18 =>
   (TB x_x18 y15).bind fun r19 =>
   TO y15 off9 s1 used14 r19
  else
   TO y15 off9 s1 used14 false
 else
  lft (
   (ixO s1 order_e13).bind fun x_x22 =>
   (ixO s1 order_e13).bind fun x_x23 =>
   (Acl used14 from3 x_x22.Size x_x23.Align).bind fun r24 =>
   bif (r24.2 != 0) then
    lft (some (([] : List Int),r24.2))
   else
    chk (0 ≤ order_e13 ∧ order_e13 < off9.length) <|
    ((off9)[order_e13.toNat]?).bind fun _ =>
    chk (0 ≤ order_e13 ∧ order_e13 < done8.length) <|
    ((done8)[order_e13.toNat]?).bind fun _ =>
    XS i10 (done8.set order_e13.toNat true) (off9.set order_e13.toNat r24.1))
noncomputable def XP (r7 : (List Int)) (s1 : (List Po)) (g2 : (List (List Int))) (from3 : Int) (done8 : List Bool) (off9 : List Int) (i10 : Int) : Option (((List Bool) × (List Int) × Int) ⊕ ((List Int) × Int)) :=
 bif (decide (i10 < (r7.length : Int))) then
  chk (0 ≤ i10 ∧ i10 < r7.length) <|
  ((r7)[i10.toNat]?).bind fun order_e13 =>
  Pq (fun s=>XQ s1 done8 g2 order_e13 off9 from3 i10 s.1 s.2) (([] : List Pj),0)
 else
  lft (some (off9,0))
noncomputable def XR (s1 : (List Po)) (g2 : (List (List Int))) (from3 : Int) : Option ((List Int) × Int) :=
 chk (0 ≤ (s1.length : Int) ∧ (s1.length : Int) ≤ 16777216) <|
 chk (0 ≤ (s1.length : Int) ∧ (s1.length : Int) ≤ 16777216) <|
 (ZV s1).bind fun r7 =>
 Pq (fun s=>XP r7 s1 g2 from3 s.1 s.2.1 s.2.2) (List.replicate (s1.length : Int).toNat false,List.replicate (s1.length : Int).toNat (0 : Int),0)
noncomputable def Ys (s1 : (List Po)) (g2 : (List (List Int))) (from3 : Int) : Option ((List Int) × Int) :=
 (Xn s1).bind fun r4 =>
 bif (r4 != 0) then
  some (([] : List Int),r4)
 else
  (ZP g2 (s1.length : Int)).bind fun r5 =>
  bif (!r5) then
   some (([] : List Int),4)
  else
   (Sf from3).bind fun r6 =>
   bif (!r6) then
    some (([] : List Int),4)
   else
    XR s1 g2 from3

noncomputable def Aal (p1 : Ph) (i2 : Int) (f3 : OX) : Option (Ph) :=
 chk (([] : List OX).length + p1.Funcs.length ≤ 16777216) <|
 chk (0 ≤ i2 ∧ i2 < (([] : List OX) ++ p1.Funcs).length) <|
 ((([] : List OX) ++ p1.Funcs)[i2.toNat]?).bind fun _ =>
 some (Ph.mk ((([] : List OX) ++ p1.Funcs).set i2.toNat f3))

noncomputable def AcO (p1 : Ph) (i2 : Int) (f3 : OX) : Option (Ph) :=
 (Aal p1 i2 f3).bind fun r4 =>
 some r4

noncomputable def Abq (off2 : (List Int)) (i4 : Int) (s1 : (List Po)) (n3 : Int) : Option ((Int × Int) ⊕ (Int)) :=
 (ixO off2 i4).bind fun x_x5 =>
 (ixO s1 i4).bind fun x_x6 =>
 cnt (RI n3 (IntKind.i64.wrap (x_x5 + x_x6.Size)),IntKind.i64.wrap (i4 + 1))
noncomputable def Abp (s1 : (List Po)) (off2 : (List Int)) (n3 : Int) (i4 : Int) : Option ((Int × Int) ⊕ (Int)) :=
 bif (decide (i4 < (s1.length : Int))) then
  bif (decide (i4 < (off2.length : Int))) then
   Abq off2 i4 s1 n3
  else
   lft (some n3)
 else
  lft (some n3)
noncomputable def Acn (s1 : (List Po)) (off2 : (List Int)) : Option (Int) :=
 Pq (fun s=>Abp s1 off2 s.1 s.2) (0,0)

noncomputable def XT (x_x5 : OX) (off4 : (List Int)) (p1 : Ph) (i2 : Int) (align3 : Int) (k6 : Int) : Option ((Int) ⊕ (Pe × Int)) :=
 bif (decide (k6 < (x_x5.Slots.length : Int))) then
  (ixO off4 k6).bind fun x_x7 =>
  (ixO x_x5.Slots k6).bind fun x_x8 =>
  (QQ (Pj.mk x_x7 x_x8.Size)).bind fun r9 =>
  bif (!r9) then
   lft (some ((Pe.mk 0 0 ([])),13))
  else
   cnt (IntKind.i64.wrap (k6 + 1))
 else
  lft (
   (Sw p1 i2).bind fun r10 =>
   (Acn x_x5.Slots off4).bind fun r11 =>
   (VG (RI r10 r11) align3).bind fun r12 =>
   bif (r12.2 != 0) then
    some ((Pe.mk 0 0 ([])),9)
   else
    bif (decide (r12.1 > 2147483519)) then
     some ((Pe.mk 0 0 ([])),9)
    else
     chk (([] : List Int).length + off4.length ≤ 16777216) <|
     some ((Pe.mk r10 r12.1 (([] : List Int) ++ off4)),0))
noncomputable def Yv (p1 : Ph) (i2 : Int) (align3 : Int) (off4 : (List Int)) : Option (Pe × Int) :=
 (ixO p1.Funcs i2).bind fun x_x5 =>
 bif ((off4.length : Int) != (x_x5.Slots.length : Int)) then
  some ((Pe.mk 0 0 ([])),13)
 else
  Pq (fun s=>XT x_x5 off4 p1 i2 align3 s) 0

noncomputable def Xk (p1 : Ph) (i2 : Int) : Option (Ul) :=
 (ixO p1.Funcs i2).bind fun x_x3 =>
 (Un x_x3).bind fun r4 =>
 (ZQ x_x3 r4).bind fun r5 =>
 (Vc x_x3 r5.1).bind fun r6 =>
 (Zj x_x3 r4 r6).bind fun r7 =>
 (VK x_x3 (Pw.mk r6 r7)).bind fun r8 =>
 (Un r8.1).bind fun r9 =>
 (Abl r8.1 r9).bind fun r10 =>
 (Sw p1 i2).bind fun r11 =>
 (Ys r8.1.Slots r10.1 r11).bind fun r12 =>
 bif (r12.2 != 0) then
  some (Ul.mk r4 (Pw.mk r6 r7) r9 (Pe.mk 0 0 ([])))
 else
  (AcO p1 i2 r8.1).bind fun r13 =>
  (Um p1).bind fun r14 =>
  (Yv r13 i2 r14 r12.1).bind fun r15 =>
  some (Ul.mk r4 (Pw.mk r6 r7) r9 r15.1)

noncomputable def Rt (r20 : Int × Mk) (x16 : List Int) (y17 : Int) (y18 : Int) (n19 : Int) (c30 : List Int) (c31 : Int) (x32 : Bool) : Option (((List Int) × Int × (List Int) × Int × Int × Int) ⊕ (Pe × Mk)) :=
 bif x32 then
  (Rr (Mk.mk c30 c31)).bind fun r34 =>
  chk (0 ≤ r20.1 ∧ r20.1 < x16.length) <|
  ((x16)[r20.1.toNat]?).bind fun _ =>
  cnt (r34.2.list,r34.2.at_,x16.set r20.1.toNat r34.1,y17,y18,IntKind.i64.wrap (n19 - 1))
 else
  cnt (c30,c31,x16,y17,y18,IntKind.i64.wrap (n19 - 1))
noncomputable def Rs (r20 : Int × Mk) (x16 : List Int) (r21 : Int × Mk) (y17 : Int) (y18 : Int) (n19 : Int) (x25 : Bool) : Option (((List Int) × Int × (List Int) × Int × Int × Int) ⊕ (Pe × Mk)) :=
 bif x25 then
  bif (decide (r20.1 < (x16.length : Int))) then
   (Pc r21.2 (x16.length : Int)).bind fun r26 =>
   chk (0 ≤ r26.1 ∧ r26.1 < x16.length) <|
   ((x16)[r26.1.toNat]?).bind fun x_e27 =>
   chk (0 ≤ r20.1 ∧ r20.1 < x16.length) <|
   ((x16)[r20.1.toNat]?).bind fun _ =>
   cnt (r26.2.list,r26.2.at_,x16.set r20.1.toNat x_e27,y17,y18,IntKind.i64.wrap (n19 - 1))
  else
   cnt (r21.2.list,r21.2.at_,x16,y17,y18,IntKind.i64.wrap (n19 - 1))
 else
  bif (r21.1 == 5) then
   (Pc r21.2 4).bind fun r29 =>
   cnt (r29.2.list,r29.2.at_,x16,y17,IntKind.i64.wrap (y18 + (IntKind.i64.wrap (16 * (IntKind.i64.wrap (r29.1 - 2))))),IntKind.i64.wrap (n19 - 1))
  else
   bif (r21.1 == 6) then
    bif (decide (r20.1 < (x16.length : Int))) then
     (Pc r21.2 3).bind fun r33 =>
     Rt r20 x16 y17 y18 n19 r33.2.list r33.2.at_ (r33.1 == 2)
    else
     Rt r20 x16 y17 y18 n19 r21.2.list r21.2.at_ false
   else
    bif (r21.1 == 7) then
     (Pc r21.2 8).bind fun r36 =>
     bif (r36.1 == 5) then
      (Rr r36.2).bind fun r37 =>
      cnt (r37.2.list,r37.2.at_,x16,r37.1,y18,IntKind.i64.wrap (n19 - 1))
     else
      bif (r36.1 == 6) then
       (Rr r36.2).bind fun r38 =>
       cnt (r38.2.list,r38.2.at_,x16,y17,r38.1,IntKind.i64.wrap (n19 - 1))
      else
       bif (r36.1 == 7) then
        (Pc r36.2 40).bind fun r39 =>
        chk (x16.length + ([r39.1] : List Int).length ≤ 16777216) <|
        cnt (r39.2.list,r39.2.at_,x16 ++ ([r39.1] : List Int),y17,y18,IntKind.i64.wrap (n19 - 1))
       else
        cnt (r36.2.list,r36.2.at_,x16,y17,y18,IntKind.i64.wrap (n19 - 1))
    else
     cnt (r21.2.list,r21.2.at_,x16,y17,y18,IntKind.i64.wrap (n19 - 1))
noncomputable def QF (r20 : Int × Mk) (x16 : List Int) (r21 : Int × Mk) (y17 : Int) (y18 : Int) (n19 : Int) (x22 : Bool) : Option (((List Int) × Int × (List Int) × Int × Int × Int) ⊕ (Pe × Mk)) :=
 bif x22 then
  bif (decide (r20.1 < (x16.length : Int))) then
   (Pc r21.2 6).bind fun r23 =>
   chk (0 ≤ r20.1 ∧ r20.1 < x16.length) <|
   ((x16)[r20.1.toNat]?).bind fun _ =>
   cnt (r23.2.list,r23.2.at_,x16.set r20.1.toNat (IntKind.i64.wrap (y17 + (IntKind.i64.wrap (8 * r23.1)))),y17,y18,IntKind.i64.wrap (n19 - 1))
  else
   cnt (r21.2.list,r21.2.at_,x16,y17,y18,IntKind.i64.wrap (n19 - 1))
 else
  bif (r21.1 == 3) then
   Rs r20 x16 r21 y17 y18 n19 (r21.1 == 3)
  else
   Rs r20 x16 r21 y17 y18 n19 (r21.1 == 4)
noncomputable def Uh (c14 : List Int) (c15 : Int) (x16 : List Int) (y17 : Int) (y18 : Int) (n19 : Int) : Option (((List Int) × Int × (List Int) × Int × Int × Int) ⊕ (Pe × Mk)) :=
 bif (decide (n19 > 0)) then
  (Pc (Mk.mk c14 c15) (RI 1 (x16.length : Int))).bind fun r20 =>
  (Pc r20.2 8).bind fun r21 =>
  bif (r21.1 == 0) then
   QF r20 x16 r21 y17 y18 n19 (r21.1 == 0)
  else
   bif (r21.1 == 1) then
    QF r20 x16 r21 y17 y18 n19 (r21.1 == 1)
   else
    QF r20 x16 r21 y17 y18 n19 (r21.1 == 2)
 else
  lft (some ((Pe.mk y17 y18 x16),(Mk.mk c14 c15)))
noncomputable def QE (c6 : List Int) (c7 : Int) (y8 : Int) (y9 : Int) (y10 : List Int) : Option (Pe × Mk) :=
 chk (([] : List Int).length + y10.length ≤ 16777216) <|
 (Pc (Mk.mk c6 c7) 4).bind fun r13 =>
 Pq (fun s=>Uh s.1 s.2.1 s.2.2.1 s.2.2.2.1 s.2.2.2.2.1 s.2.2.2.2.2) (r13.2.list,r13.2.at_,([] : List Int) ++ y10,y8,y9,r13.1)
noncomputable def TX (c1 : Mk) (p2 : Ph) (i3 : Int) (align4 : Int) : Option (Pe × Mk) :=
 (Tg p2 i3 align4).bind fun r5 =>
 (Pc c1 3).bind fun r11 =>
 bif (r11.1 == 0) then
  (Xk p2 i3).bind fun r12 =>
  bif ((r12.Layout.Off.length : Int) == (r5.1.Off.length : Int)) then
   QE r11.2.list r11.2.at_ r12.Layout.Args r12.Layout.Size r12.Layout.Off
  else
   QE r11.2.list r11.2.at_ r5.1.Args r5.1.Size r5.1.Off
 else
  QE r11.2.list r11.2.at_ r5.1.Args r5.1.Size r5.1.Off

noncomputable def Ur (r3 : Ph × Mk) (r4 : Int × Mk) (r5 : Int) (l8 : List (List Int)) (x9 : List Int) (x10 : Int) : Option (Ph × Int × Int × Pg × Pe × Mk) :=
 (TX (Mk.mk x9 x10) r3.1 r4.1 r5).bind fun r14 =>
 some (r3.1,r4.1,r5,(Pg.mk l8),r14.1,r14.2)
noncomputable def ZI (codes1 : (List Int)) : Option (Ph × Int × Int × Pg × Pe × Mk) :=
 (Ada codes1 300).bind fun r2 =>
 (Tx r2 3 14).bind fun r3 =>
 (Pc r3.2 (r3.1.Funcs.length : Int)).bind fun r4 =>
 (Um r3.1).bind fun r5 =>
 (ixO r3.1.Funcs r4.1).bind fun x_x6 =>
 (UB r4.2 x_x6).bind fun r7 =>
 (Pc r7.2 4).bind fun r11 =>
 bif (r11.1 == 3) then
  (ixO r3.1.Funcs r4.1).bind fun x_x12 =>
  (Vi r11.2 x_x12).bind fun r13 =>
  Ur r3 r4 r5 r13.1.Out r13.2.list r13.2.at_
 else
  Ur r3 r4 r5 r7.1.Out r11.2.list r11.2.at_

noncomputable def QS (n1 : Int) : Option (Bool) :=
 bif (decide (n1 ≥ 0)) then
  some (decide (n1 < 512))
 else
  some false

noncomputable def RC (s1 : (List Int)) (x2 : Int) : Option ((Int) ⊕ (Bool)) :=
 bif (decide (x2 < (s1.length : Int))) then
  (ixO s1 x2).bind fun x_x3 =>
  (QS x_x3).bind fun r4 =>
  bif (!r4) then
   lft (some false)
  else
   bif (decide (x2 > 0)) then
    (ixO s1 (IntKind.i64.wrap (x2 - 1))).bind fun x_x5 =>
    bif (decide (x_x3 ≤ x_x5)) then
     lft (some false)
    else
     cnt (IntKind.i64.wrap (x2 + 1))
   else
    cnt (IntKind.i64.wrap (x2 + 1))
 else
  lft (some true)
noncomputable def Yc (s1 : (List Int)) : Option (Bool) :=
 Pq (fun s=>RC s1 s) 0

noncomputable def RY (s1 : (List Int)) (cap2 : OX) : Option (Bool) :=
 (Yc s1).bind fun r3 =>
 bif (!r3) then
  some true
 else
  bif (decide ((s1.length : Int) > 0)) then
   (ixO s1 (IntKind.i64.wrap ((s1.length : Int) - 1))).bind fun x_x4 =>
   some (decide (x_x4 ≥ (cap2.Slots.length : Int)))
  else
   some false

noncomputable def Qq (s1 : (List (List Int))) (f2 : OX) (x3 : Int) : Option ((Int) ⊕ (Int)) :=
 bif (decide (x3 < (s1.length : Int))) then
  (ixO s1 x3).bind fun x_x4 =>
  (RY x_x4 f2).bind fun r5 =>
  bif r5 then
   lft (some x3)
  else
   cnt (IntKind.i64.wrap (x3 + 1))
 else
  lft (some (-1))
noncomputable def Qg (s1 : (List (List Int))) (f2 : OX) : Option (Int) :=
 Pq (fun s=>Qq s1 f2 s) 0

noncomputable def Qp (s1 : (List (List Int))) (f2 : OX) : Option (Bool) :=
 (Qg s1 f2).bind fun r3 =>
 some (decide (r3 ≥ 0))

noncomputable def SZ (f1 : OX) (l2 : Pg) : Option (Bool) :=
 bif ((l2.Out.length : Int) == (f1.Code.length : Int)) then
  (Qp l2.Out f1).bind fun r3 =>
  some (!r3)
 else
  some false

noncomputable def YG (l1 : Pg) : Option (Pg) :=
 some l1

noncomputable def Zx (op1 : Int) : Option (Bool) :=
 bif (op1 == 20) then
  some true
 else
  bif (op1 == 23) then
   some true
  else
   some (op1 == 24)

noncomputable def Yk (x_x3 : OZ) (l4 : List Int) : Option ((List Int)) :=
 bif (x_x3.Op == 20) then
  chk (l4.length + ([x_x3.A] : List Int).length ≤ 16777216) <|
  chk ((l4 ++ ([x_x3.A] : List Int)).length < 4611686018427387904) <|
  chk ((XW (l4 ++ ([x_x3.A] : List Int))).length < 4611686018427387904) <|
  some (Lib.compact (XW (l4 ++ ([x_x3.A] : List Int))))
 else
  bif (x_x3.Op == 21) then
   chk (l4.length + ([x_x3.B] : List Int).length ≤ 16777216) <|
   chk ((l4 ++ ([x_x3.B] : List Int)).length < 4611686018427387904) <|
   chk ((XW (l4 ++ ([x_x3.B] : List Int))).length < 4611686018427387904) <|
   some (Lib.compact (XW (l4 ++ ([x_x3.B] : List Int))))
  else
   chk (l4.length < 4611686018427387904) <|
   chk ((XW l4).length < 4611686018427387904) <|
   some (Lib.compact (XW l4))
noncomputable def AaY (f1 : OX) (k2 : Int) : Option ((List Int)) :=
 (ixO f1.Code k2).bind fun x_x3 =>
 (Zx x_x3.Op).bind fun r5 =>
 bif (!r5) then
  chk (([] : List Int).length + ([IntKind.i64.wrap (k2 + 1)] : List Int).length ≤ 16777216) <|
  Yk x_x3 (([] : List Int) ++ ([IntKind.i64.wrap (k2 + 1)] : List Int))
 else
  Yk x_x3 ([] : List Int)
noncomputable def Ach (f1 : OX) (k2 : Int) : Option ((List Int)) :=
 bif (decide (k2 < 0)) then
  some ([] : List Int)
 else
  bif (decide (k2 ≥ (f1.Code.length : Int))) then
   some ([] : List Int)
  else
   AaY f1 k2

noncomputable def US (j1 : Int) (cap2 : Pg) : Option ((List Int)) :=
 (ixO cap2.Out j1).bind fun x_x3 =>
 some x_x3

noncomputable def Up (x1 : OZ) : Option (Int × Bool) :=
 bif (x1.Op == 16) then
  bif (x1.Op == 16) then
   some (x1.A,true)
  else
   some (0,false)
 else
  bif (x1.Op == 17) then
   some (x1.A,true)
  else
   some (0,false)

noncomputable def RP (s1 : OY) (n2 : Int) (in3 : Bool) : Option (OY) :=
 chk (0 ≤ ((IntKind.u64.wrap (n2)).tmod 64)) <|
 (QS n2).bind fun r4 =>
 bif (!r4) then
  some s1
 else
  bif in3 then
   chk (0 ≤ (IntKind.i64.wrap (n2.tdiv 64)) ∧ (IntKind.i64.wrap (n2.tdiv 64)) < 8) <|
   ((s1.toList)[(IntKind.i64.wrap (n2.tdiv 64)).toNat]?).bind fun s_e5 =>
   chk (0 ≤ (IntKind.i64.wrap (n2.tdiv 64)) ∧ (IntKind.i64.wrap (n2.tdiv 64)) < 8) <|
   ((s1.toList)[(IntKind.i64.wrap (n2.tdiv 64)).toNat]?).bind fun _ =>
   some (s1.set ((IntKind.i64.wrap (n2.tdiv 64)).toNat) (IntKind.u64.wrap ((BitVec.ofInt IntKind.u64.bits s_e5 ||| BitVec.ofInt IntKind.u64.bits (IntKind.u64.wrap (1 * 2 ^ (Nat.min ((IntKind.u64.wrap (n2)).tmod 64).toNat IntKind.u64.bits)))).toNat)))
  else
   chk (0 ≤ (IntKind.i64.wrap (n2.tdiv 64)) ∧ (IntKind.i64.wrap (n2.tdiv 64)) < 8) <|
   ((s1.toList)[(IntKind.i64.wrap (n2.tdiv 64)).toNat]?).bind fun s_e7 =>
   chk (0 ≤ (IntKind.i64.wrap (n2.tdiv 64)) ∧ (IntKind.i64.wrap (n2.tdiv 64)) < 8) <|
   ((s1.toList)[(IntKind.i64.wrap (n2.tdiv 64)).toNat]?).bind fun _ =>
   some (s1.set ((IntKind.i64.wrap (n2.tdiv 64)).toNat) (IntKind.u64.wrap ((BitVec.ofInt IntKind.u64.bits s_e7 &&& ~~~ BitVec.ofInt IntKind.u64.bits (IntKind.u64.wrap (1 * 2 ^ (Nat.min ((IntKind.u64.wrap (n2)).tmod 64).toNat IntKind.u64.bits)))).toNat)))

noncomputable def WC (l1 : (List Int)) (x2 : OY) (x3 : Int) : Option ((OY × Int) ⊕ (OY)) :=
 bif (decide (x3 < (l1.length : Int))) then
  (ixO l1 x3).bind fun x_x4 =>
  (RP x2 x_x4 true).bind fun r5 =>
  cnt (r5,IntKind.i64.wrap (x3 + 1))
 else
  lft (some x2)
noncomputable def Ro (l1 : (List Int)) : Option (OY) :=
 Pq (fun s=>WC l1 s.1 s.2) ((OY.mk 0 0 0 0 0 0 0 0),0)

noncomputable def Tj (x3 : Int) (l5 : List Int) (x6 : Int) : Option (((List Int) × Int) ⊕ (((List Int) × Int) ⊕ ((List Int) × OY))) :=
 bif (x6 != 0) then
  (Afs x6).bind fun r7 =>
  chk (l5.length + ([IntKind.i64.wrap ((IntKind.i64.wrap (64 * x3)) + r7)] : List Int).length ≤ 16777216) <|
  cnt (l5 ++ ([IntKind.i64.wrap ((IntKind.i64.wrap (64 * x3)) + r7)] : List Int),IntKind.u64.wrap ((BitVec.ofInt IntKind.u64.bits x6 &&& BitVec.ofInt IntKind.u64.bits (IntKind.u64.wrap (x6 - 1))).toNat))
 else
  lft (cnt (l5,IntKind.i64.wrap (x3 + 1)))
noncomputable def Ti (s1 : OY) (l2 : List Int) (x3 : Int) : Option (((List Int) × Int) ⊕ ((List Int) × OY)) :=
 bif (decide (x3 < 8)) then
  chk (0 ≤ x3 ∧ x3 < 8) <|
  ((s1.toList)[x3.toNat]?).bind fun s_e4 =>
  Pq (fun s=>Tj x3 s.1 s.2) (l2,s_e4)
 else
  lft (some (l2,s1))
noncomputable def Qs (s1 : OY) : Option ((List Int) × OY) :=
 Pq (fun s=>Ti s1 s.1 s.2) (([] : List Int),0)

noncomputable def UU (s1 : (List Int)) (n2 : Int) : Option ((List Int)) :=
 (Ro s1).bind fun r3 =>
 (RP r3 n2 false).bind fun r4 =>
 (Qs r4).bind fun r5 =>
 some r5.1

noncomputable def Xm (x1 : OZ) : Option ((List Int)) :=
 bif (x1.Op == 15) then
  bif (x1.Op == 15) then
   some ([x1.B] : List Int)
  else
   some ([] : List Int)
 else
  bif (x1.Op == 17) then
   some ([x1.B] : List Int)
  else
   some ([] : List Int)

noncomputable def Yd (l1 : (List Int)) : Option ((List Int)) :=
 (Ro l1).bind fun r2 =>
 (Qs r2).bind fun r3 =>
 some r3.1

noncomputable def Wb (x1 : Int) (y2 : Int) : Option (Int) :=
 some (IntKind.u64.wrap ((BitVec.ofInt IntKind.u64.bits x1 ||| BitVec.ofInt IntKind.u64.bits y2).toNat))

noncomputable def Qo (s1 : OY) (t2 : OY) (x3 : OY) (x4 : Int) : Option ((OY × Int) ⊕ (OY × OY × OY)) :=
 bif (decide (x4 < 8)) then
  chk (0 ≤ x4 ∧ x4 < 8) <|
  ((s1.toList)[x4.toNat]?).bind fun s_e5 =>
  chk (0 ≤ x4 ∧ x4 < 8) <|
  ((t2.toList)[x4.toNat]?).bind fun t_e6 =>
  (Wb s_e5 t_e6).bind fun r7 =>
  chk (0 ≤ x4 ∧ x4 < 8) <|
  ((x3.toList)[x4.toNat]?).bind fun _ =>
  cnt ((x3.set x4.toNat r7),IntKind.i64.wrap (x4 + 1))
 else
  lft (some (x3,s1,t2))
noncomputable def Qz (s1 : OY) (t2 : OY) : Option (OY × OY × OY) :=
 Pq (fun s=>Qo s1 t2 s.1 s.2) ((OY.mk 0 0 0 0 0 0 0 0),0)

noncomputable def Tu (a1 : (List Int)) (b2 : (List Int)) : Option ((List Int)) :=
 (Ro a1).bind fun r3 =>
 (Ro b2).bind fun r4 =>
 (Qz r3 r4).bind fun r5 =>
 (Qs r5.1).bind fun r6 =>
 some r6.1

noncomputable def Acg (x1 : OZ) (out2 : (List Int)) : Option ((List Int)) :=
 (Up x1).bind fun r3 =>
 bif r3.2 then
  (UU out2 r3.1).bind fun r4 =>
  (Xm x1).bind fun r5 =>
  (Yd r5).bind fun r6 =>
  (Tu r4 r6).bind fun r7 =>
  some r7
 else
  (Xm x1).bind fun r8 =>
  (Yd r8).bind fun r9 =>
  (Tu out2 r9).bind fun r10 =>
  some r10

noncomputable def Wa (x1 : Int) (y2 : Int) : Option (Int) :=
 some (IntKind.u64.wrap ((BitVec.ofInt IntKind.u64.bits x1 &&& ~~~ BitVec.ofInt IntKind.u64.bits y2).toNat))

noncomputable def Qn (s1 : OY) (t2 : OY) (x3 : OY) (x4 : Int) : Option ((OY × Int) ⊕ (OY × OY × OY)) :=
 bif (decide (x4 < 8)) then
  chk (0 ≤ x4 ∧ x4 < 8) <|
  ((s1.toList)[x4.toNat]?).bind fun s_e5 =>
  chk (0 ≤ x4 ∧ x4 < 8) <|
  ((t2.toList)[x4.toNat]?).bind fun t_e6 =>
  (Wa s_e5 t_e6).bind fun r7 =>
  chk (0 ≤ x4 ∧ x4 < 8) <|
  ((x3.toList)[x4.toNat]?).bind fun _ =>
  cnt ((x3.set x4.toNat r7),IntKind.i64.wrap (x4 + 1))
 else
  lft (some (x3,s1,t2))
noncomputable def Qy (s1 : OY) (t2 : OY) : Option (OY × OY × OY) :=
 Pq (fun s=>Qn s1 t2 s.1 s.2) ((OY.mk 0 0 0 0 0 0 0 0),0)

noncomputable def VZ (a1 : (List Int)) (b2 : (List Int)) : Option ((List Int)) :=
 (Ro a1).bind fun r3 =>
 (Ro b2).bind fun r4 =>
 (Qy r3 r4).bind fun r5 =>
 (Qs r5.1).bind fun r6 =>
 some r6.1

noncomputable def Sb (need1 : (List Int)) (cap2 : (List Int)) (cap3 : Pg) (cap4 : Int) : Option (Bool × (List Int)) :=
 (ixO cap3.Out cap4).bind fun x_x5 =>
 (VZ need1 x_x5).bind fun r6 =>
 (Tu cap2 r6).bind fun r7 =>
 some (true,r7)

noncomputable def PK (r7 : (List Int)) (f1 : OX) (set3 : Pg) (visit5 : Pg) (visit6 : Int) (x8 : List Int) (x9 : Int) : Option (((List Int) × Int) ⊕ (Bool × (List Int))) :=
 bif (decide (x9 < (r7.length : Int))) then
  chk (0 ≤ x9 ∧ x9 < r7.length) <|
  ((r7)[x9.toNat]?).bind fun x_e10 =>
  (ixO f1.Code x_e10).bind fun x_x11 =>
  (US x_e10 set3).bind fun r12 =>
  (Acg x_x11 r12).bind fun r13 =>
  (Sb r13 x8 visit5 visit6).bind fun r14 =>
  bif (!r14.1) then
   lft (some (false,r14.2))
  else
   cnt (r14.2,IntKind.i64.wrap (x9 + 1))
 else
  lft (some (true,x8))
noncomputable def Qf (f1 : OX) (k2 : Int) (set3 : Pg) (visit4 : (List Int)) (visit5 : Pg) (visit6 : Int) : Option (Bool × (List Int)) :=
 (Ach f1 k2).bind fun r7 =>
 Pq (fun s=>PK r7 f1 set3 visit5 visit6 s.1 s.2) (visit4,0)

noncomputable def Vu (f1 : OX) (l2 : Pg) (x4 : Int) : Option ((Int) ⊕ (Int × Int × Bool)) :=
 bif (decide (x4 < (f1.Code.length : Int))) then
  (YG l2).bind fun r5 =>
  (Qf f1 x4 r5 ([]) l2 x4).bind fun r6 =>
  bif (decide ((r6.2.length : Int) > 0)) then
   (ixO r6.2 0).bind fun x_x7 =>
   lft (some (x4,x_x7,true))
  else
   cnt (IntKind.i64.wrap (x4 + 1))
 else
  lft (some (0,0,false))
noncomputable def Vt (f1 : OX) (l2 : Pg) : Option (Int × Int × Bool) :=
 (SZ f1 l2).bind fun r3 =>
 bif (!r3) then
  some (0,0,false)
 else
  Pq (fun s=>Vu f1 l2 s) 0

noncomputable def Vs (f1 : OX) (l2 : Pg) : Option (Int) :=
 (SZ f1 l2).bind fun r3 =>
 bif (!r3) then
  some 11
 else
  (Vt f1 l2).bind fun r4 =>
  bif r4.2.2 then
   some 11
  else
   some 0

noncomputable def Rv (s1 : Pr) (l2 : Pg) : Option (Int) :=
 (Rx s1).bind fun r3 =>
 bif (r3 != 0) then
  some r3
 else
  (Vs s1.f l2).bind fun r4 =>
  bif (r4 != 0) then
   some 11
  else
   some 0

noncomputable def AbY (a1 : Pj) (b2 : Pj) : Option (Bool) :=
 some (decide ((RI a1.Off b2.Off) < (Sp (IntKind.i64.wrap (a1.Off + a1.Size)) (IntKind.i64.wrap (b2.Off + b2.Size)))))

noncomputable def Wc (a1 : Pj) (b2 : Pj) : Option (Bool) :=
 (UD a1).bind fun r3 =>
 bif r3 then
  (UD b2).bind fun r4 =>
  bif r4 then
   (AbY a1 b2).bind fun r5 =>
   some r5
  else
   some false
 else
  some false

noncomputable def SM (x_x8 : (List Int)) (r5 : Int × Bool) (s1 : Pr) (x9 : Int) : Option ((Int) ⊕ (Int × Bool)) :=
 bif (decide (x9 < (x_x8.length : Int))) then
  (ixO x_x8 x9).bind fun x_x10 =>
  bif (x_x10 != r5.1) then
   (Qa s1 x_x10).bind fun r11 =>
   (Qa s1 r5.1).bind fun r12 =>
   (Wc r11 r12).bind fun r13 =>
   bif r13 then
    lft (some (x_x10,true))
   else
    cnt (IntKind.i64.wrap (x9 + 1))
  else
   cnt (IntKind.i64.wrap (x9 + 1))
 else
  lft (some (0,false))
noncomputable def QD (l2 : Pg) (k3 : Int) (r5 : Int × Bool) (s1 : Pr) : Option (Int × Bool) :=
 (ixO l2.Out k3).bind fun x_x8 =>
 Pq (fun s=>SM x_x8 r5 s1 s) 0
noncomputable def Sk (s1 : Pr) (l2 : Pg) (k3 : Int) : Option (Int × Bool) :=
 (ixO s1.f.Code k3).bind fun x_x4 =>
 (Up x_x4).bind fun r5 =>
 bif (!r5.2) then
  some (0,false)
 else
  bif (x_x4.Op == 17) then
   (ixO s1.y.Off x_x4.A).bind fun x_x6 =>
   (ixO s1.y.Off x_x4.B).bind fun x_x7 =>
   bif (x_x6 == x_x7) then
    some (0,false)
   else
    QD l2 k3 r5 s1
  else
   QD l2 k3 r5 s1

noncomputable def SN (s1 : Pr) (l2 : Pg) (x3 : Int) : Option ((Int) ⊕ (Int × Int × Bool)) :=
 bif (decide (x3 < (s1.f.Code.length : Int))) then
  (Sk s1 l2 x3).bind fun r4 =>
  bif r4.2 then
   lft (some (x3,r4.1,true))
  else
   cnt (IntKind.i64.wrap (x3 + 1))
 else
  lft (some (0,0,false))
noncomputable def Ru (s1 : Pr) (l2 : Pg) : Option (Int × Int × Bool) :=
 Pq (fun s=>SN s1 l2 s) 0

noncomputable def Yl (p1 : Ph) (i2 : Int) (align3 : Int) (l4 : Pg) (y5 : Pe) : Option (Int) :=
 (ixO p1.Funcs i2).bind fun x_x6 =>
 (Rv (Pr.mk p1 i2 align3 x_x6 y5) l4).bind fun r7 =>
 bif (r7 != 0) then
  some r7
 else
  (Ru (Pr.mk p1 i2 align3 x_x6 y5) l4).bind fun r8 =>
  bif r8.2.2 then
   some 13
  else
   some 0

noncomputable def Wi (a1 : Pj) (size2 : Int) : Option (Bool) :=
 (QQ a1).bind fun r3 =>
 bif r3 then
  some (decide ((IntKind.i64.wrap (a1.Off + a1.Size)) ≤ size2))
 else
  some false

noncomputable def Zu (x_x6 : OX) (y4 : Pe) (align3 : Int) (r5 : Pe × Int) (k8 : Int) : Option ((Int) ⊕ (Int)) :=
 bif (decide (k8 < (x_x6.Slots.length : Int))) then
  (ixO y4.Off k8).bind fun x_x9 =>
  bif (decide (x_x9 < y4.Args)) then
   lft (some 13)
  else
   (ixO y4.Off k8).bind fun x_x10 =>
   (ixO x_x6.Slots k8).bind fun x_x11 =>
   chk (x_x11.Align ≠ 0) <|
   bif ((x_x10.tmod x_x11.Align) != 0) then
    lft (some 13)
   else
    (ixO y4.Off k8).bind fun x_x12 =>
    (ixO x_x6.Slots k8).bind fun x_x13 =>
    (Wi (Pj.mk x_x12 x_x13.Size) y4.Size).bind fun r14 =>
    bif (!r14) then
     lft (some 13)
    else
     cnt (IntKind.i64.wrap (k8 + 1))
 else
  lft (
   chk (align3 ≠ 0) <|
   bif ((y4.Size.tmod align3) != 0) then
    some 13
   else
    bif (decide (y4.Size < y4.Args)) then
     some 13
    else
     bif (decide (y4.Size > r5.1.Size)) then
      some 13
     else
      some 0)
noncomputable def Zv (x_x6 : OX) (y4 : Pe) (align3 : Int) (r5 : Pe × Int) : Option (Int) :=
 Pq (fun s=>Zu x_x6 y4 align3 r5 s) 0
noncomputable def Xs (p1 : Ph) (i2 : Int) (align3 : Int) (y4 : Pe) : Option (Int) :=
 (Tg p1 i2 align3).bind fun r5 =>
 bif (r5.2 != 0) then
  some r5.2
 else
  (ixO p1.Funcs i2).bind fun x_x6 =>
  (Sw p1 i2).bind fun r7 =>
  bif (y4.Args != r7) then
   some 13
  else
   bif ((y4.Off.length : Int) != (x_x6.Slots.length : Int)) then
    some 13
   else
    Zv x_x6 y4 align3 r5

noncomputable def Zw (l2 : Pg) (k4 : Int) (r6 : Int × Bool) (y3 : Pe) (f1 : OX) (i9 : Int) : Option ((Int) ⊕ (Int × Bool)) :=
 (ixO l2.Out k4).bind fun x_x10 =>
 bif (decide (i9 < (x_x10.length : Int))) then
  (ixO l2.Out k4).bind fun x_x11 =>
  (ixO x_x11 i9).bind fun x_x12 =>
  bif (x_x12 != r6.1) then
   (ixO y3.Off x_x12).bind fun x_x13 =>
   (ixO f1.Slots x_x12).bind fun x_x14 =>
   (ixO y3.Off r6.1).bind fun x_x15 =>
   (ixO f1.Slots r6.1).bind fun x_x16 =>
   (RL (Pj.mk x_x13 x_x14.Size) (Pj.mk x_x15 x_x16.Size)).bind fun r17 =>
   bif r17 then
    lft (some (x_x12,true))
   else
    cnt (IntKind.i64.wrap (i9 + 1))
  else
   cnt (IntKind.i64.wrap (i9 + 1))
 else
  lft (some (0,false))
noncomputable def Ux (l2 : Pg) (k4 : Int) (r6 : Int × Bool) (y3 : Pe) (f1 : OX) : Option (Int × Bool) :=
 Pq (fun s=>Zw l2 k4 r6 y3 f1 s) 0
noncomputable def ZY (f1 : OX) (l2 : Pg) (y3 : Pe) (k4 : Int) : Option (Int × Bool) :=
 (ixO f1.Code k4).bind fun x_x5 =>
 (QJ x_x5).bind fun r6 =>
 bif (!r6.2) then
  some (0,false)
 else
  bif (x_x5.Op == 17) then
   (ixO y3.Off x_x5.A).bind fun x_x7 =>
   (ixO y3.Off x_x5.B).bind fun x_x8 =>
   bif (x_x7 == x_x8) then
    some (0,false)
   else
    Ux l2 k4 r6 y3 f1
  else
   Ux l2 k4 r6 y3 f1

noncomputable def Zt (p1 : Ph) (i2 : Int) (l4 : Pg) (y5 : Pe) (k9 : Int) : Option ((Int) ⊕ (Int × Int × Bool)) :=
 (ixO p1.Funcs i2).bind fun x_x10 =>
 bif (decide (k9 < (x_x10.Code.length : Int))) then
  (ixO p1.Funcs i2).bind fun x_x11 =>
  (ZY x_x11 l4 y5 k9).bind fun r12 =>
  bif r12.2 then
   lft (some (k9,r12.1,true))
  else
   cnt (IntKind.i64.wrap (k9 + 1))
 else
  lft (some (0,0,false))
noncomputable def Wy (p1 : Ph) (i2 : Int) (l4 : Pg) (y5 : Pe) : Option (Int × Int × Bool) :=
 Pq (fun s=>Zt p1 i2 l4 y5 s) 0
noncomputable def ZX (p1 : Ph) (i2 : Int) (align3 : Int) (l4 : Pg) (y5 : Pe) : Option (Int × Int × Bool) :=
 (Xs p1 i2 align3 y5).bind fun r6 =>
 bif (r6 != 0) then
  some (0,0,false)
 else
  (ixO p1.Funcs i2).bind fun x_x7 =>
  (VJ x_x7 l4).bind fun r8 =>
  bif (r8 != 0) then
   some (0,0,false)
  else
   Wy p1 i2 l4 y5

noncomputable def ZW (p1 : Ph) (i2 : Int) (align3 : Int) (l4 : Pg) (y5 : Pe) : Option (Int) :=
 (Xs p1 i2 align3 y5).bind fun r6 =>
 bif (r6 != 0) then
  some r6
 else
  (ixO p1.Funcs i2).bind fun x_x7 =>
  (VJ x_x7 l4).bind fun r8 =>
  bif (r8 != 0) then
   some r8
  else
   (ZX p1 i2 align3 l4 y5).bind fun r9 =>
   bif r9.2.2 then
    some 13
   else
    some 0

noncomputable def PR (k7 : Int) : Option ((Int) ⊕ (Bool)) :=
 cnt (IntKind.i64.wrap (k7 + 1))
noncomputable def Rb (x_x6 : OX) (r9 : Int × Bool) (r3 : Ph × Int × Int × Pg × Pe × Mk) (k7 : Int) (s21 : Int) : Option ((Int) ⊕ ((Int) ⊕ (Bool))) :=
 bif (decide (s21 < (x_x6.Slots.length : Int))) then
  bif (s21 != r9.1) then
   (ixO r3.2.2.2.1.Out k7).bind fun x_x22 =>
   (TB x_x22 s21).bind fun r23 =>
   bif r23 then
    (ixO r3.2.2.2.2.1.Off s21).bind fun x_x24 =>
    (ixO x_x6.Slots s21).bind fun x_x25 =>
    (ixO r3.2.2.2.2.1.Off r9.1).bind fun x_x26 =>
    (ixO x_x6.Slots r9.1).bind fun x_x27 =>
    (RL (Pj.mk x_x24 x_x25.Size) (Pj.mk x_x26 x_x27.Size)).bind fun r28 =>
    bif r28 then
     lft (lft (some false))
    else
     cnt (IntKind.i64.wrap (s21 + 1))
   else
    cnt (IntKind.i64.wrap (s21 + 1))
  else
   cnt (IntKind.i64.wrap (s21 + 1))
 else
  lft (PR k7)
noncomputable def Qc (x_x6 : OX) (r9 : Int × Bool) (r3 : Ph × Int × Int × Pg × Pe × Mk) (k7 : Int) (_x10 : OZ) (_x11 : OZ) (_x12 : Int) (_x13 : Bool) (_x14 : Bool) (_x15 : Bool) : Option ((Int) ⊕ (Bool)) :=
 Pq (fun s=>Rb x_x6 r9 r3 k7 s) 0
noncomputable def Qr (x_x6 : OX) (r3 : Ph × Int × Int × Pg × Pe × Mk) (k7 : Int) : Option ((Int) ⊕ (Bool)) :=
 bif (decide (k7 < (x_x6.Code.length : Int))) then
  (ixO x_x6.Code k7).bind fun x_x8 =>
  (QJ x_x8).bind fun r9 =>
  bif (!r9.2) then
   PR k7
  else
   (ixO x_x6.Code k7).bind fun x_x16 =>
   bif (x_x16.Op == 17) then
    (ixO x_x6.Code k7).bind fun x_x17 =>
    (ixO r3.2.2.2.2.1.Off x_x17.A).bind fun x_x18 =>
    (ixO x_x6.Code k7).bind fun x_x19 =>
    (ixO r3.2.2.2.2.1.Off x_x19.B).bind fun x_x20 =>
    bif (x_x18 == x_x20) then
     PR k7
    else
     Qc x_x6 r9 r3 k7 x_x16 x_x16 x_x16.Op (x_x16.Op == 17) true (x_x18 == x_x20)
   else
    Qc x_x6 r9 r3 k7 x_x16 x_x16 x_x16.Op (x_x16.Op == 17) false false
 else
  lft (some true)
noncomputable def QI (codes1 : (List Int)) : Option (Bool) :=
 (ZH).bind fun r2 =>
 bif (!r2) then
  some false
 else
  (ZI codes1).bind fun r3 =>
  (Yl r3.1 r3.2.1 r3.2.2.1 r3.2.2.2.1 r3.2.2.2.2.1).bind fun r4 =>
  bif (r4 != 0) then
   (ZW r3.1 r3.2.1 r3.2.2.1 r3.2.2.2.1 r3.2.2.2.2.1).bind fun r5 =>
   some (r5 != 0)
  else
   (ixO r3.1.Funcs r3.2.1).bind fun x_x6 =>
   Pq (fun s=>Qr x_x6 r3 s) 0

noncomputable def Aqb (p1 : Ph) (i2 : Int) (align3 : Int) (l4 : Pg) (y5 : Pe) : Option (Int × Int × Bool) :=
 (ixO p1.Funcs i2).bind fun x_x6 =>
 (Rv (Pr.mk p1 i2 align3 x_x6 y5) l4).bind fun r7 =>
 bif (r7 != 0) then
  some (0,0,false)
 else
  (Ru (Pr.mk p1 i2 align3 x_x6 y5) l4).bind fun r8 =>
  some (r8.1,r8.2.1,r8.2.2)

end Go.Proofs.YtnldnldmgceooaaGreatDoor
