/-
 The programs on typed data; written by a program (dx.py).
-/
import Derived.Test.YtnldnldmgceooaaGreatDoorDxT
namespace Go.Proofs.YtnldnldmgceooaaGreatDoor
open Go Go.Dw Go.Proofs
set_option maxRecDepth 100000
set_option maxHeartbeats 4000000
noncomputable def Abe (x_x3 : OX) (p1 : Ph) (x4 : Int) (n5 : Int) : Option ((Int × Int) ⊕ (Int)) :=
 bif (decide (x4 < (x_x3.Code.length : Int))) then
  (ixO x_x3.Code x4).bind fun x_x6 =>
  bif (x_x6.Op == 18) then
   cnt (IntKind.i64.wrap (x4 + 1),RH n5 (IntKind.i64.wrap (x_x6.A + 1)))
  else
   bif (x_x6.Op == 22) then
    (ixO p1.Funcs x_x6.A).bind fun x_x7 =>
    cnt (IntKind.i64.wrap (x4 + 1),RH n5 x_x7.Params)
   else
    cnt (IntKind.i64.wrap (x4 + 1),n5)
 else
  lft (some (IntKind.i64.wrap (16 * n5)))
noncomputable def Yo (p1 : Ph) (i2 : Int) : Option (Int) :=
 (ixO p1.Funcs i2).bind fun x_x3 =>
 Pq (fun s=>Abe x_x3 p1 s.1 s.2) (0,0)

noncomputable def Tq (n1 : Int) : Option (Bool) :=
 bif (decide (n1 ≥ 0)) then
  some (decide (n1 ≤ 2147483647))
 else
  some false

noncomputable def Yi (n1 : Int) : Option (Bool) :=
 bif (decide (n1 ≥ 1)) then
  bif (decide (n1 ≤ 16777216)) then
   some ((IntKind.i64.wrap ((BitVec.ofInt IntKind.i64.bits n1 &&& BitVec.ofInt IntKind.i64.bits (IntKind.i64.wrap (n1 - 1))).toNat)) == 0)
  else
   some false
 else
  some false

noncomputable def AdK (n1 : Int) (align2 : Int) : Option (Int) :=
 some (IntKind.i64.wrap ((BitVec.ofInt IntKind.i64.bits (IntKind.i64.wrap ((IntKind.i64.wrap (n1 + align2)) - 1)) &&& ~~~ BitVec.ofInt IntKind.i64.bits (IntKind.i64.wrap (align2 - 1))).toNat))

noncomputable def Ur (n1 : Int) : Option (Int × Int) :=
 bif (decide (n1 > 2147483647)) then
  some (0,9)
 else
  some (n1,0)

noncomputable def AaU (n1 : Int) (align2 : Int) : Option (Int × Int) :=
 (AdK n1 align2).bind fun r5 =>
 (Ur r5).bind fun r6 =>
 some (r6.1,r6.2)
noncomputable def AaE (n1 : Int) (align2 : Int) : Option (Int × Int) :=
 (Tq n1).bind fun r3 =>
 bif (!r3) then
  some (0,4)
 else
  (Yi align2).bind fun r4 =>
  bif (!r4) then
   some (0,4)
  else
   AaU n1 align2

noncomputable def Aab (x1 : Int) (y2 : Int) : Option (Int × Int) :=
 (Ur (IntKind.i64.wrap (x1 + y2))).bind fun r5 =>
 some (r5.1,r5.2)
noncomputable def YB (x1 : Int) (y2 : Int) : Option (Int × Int) :=
 (Tq x1).bind fun r3 =>
 bif (!r3) then
  some (0,4)
 else
  (Tq y2).bind fun r4 =>
  bif (!r4) then
   some (0,4)
  else
   Aab x1 y2

noncomputable def Xb (y1 : Pc) (r4 : Int × Int) (e5 : Int) : Option (Pc × Int) :=
 bif (e5 != 0) then
  some ((Pc.mk 0 0 ([])),9)
 else
  some ((Pc.mk y1.Args r4.1 y1.Off),0)
noncomputable def AcQ (y1 : Pc) (end2 : Int) (align3 : Int) : Option (Pc × Int) :=
 (AaE end2 align3).bind fun r4 =>
 bif (r4.2 == 0) then
  (YB r4.1 128).bind fun r6 =>
  Xb y1 r4 r6.2
 else
  Xb y1 r4 r4.2

noncomputable def UI (x6 : List Int) (r10 : Int × Int) (x7 : Int) (e11 : Int) (end12 : Int) : Option (((List Int) × Int × Int) ⊕ (Pc × Int)) :=
 bif (e11 != 0) then
  lft (some ((Pc.mk 0 0 ([])),9))
 else
  chk (x6.length + ([r10.1] : List Int).length ≤ 16777216) <|
  cnt (x6 ++ ([r10.1] : List Int),IntKind.i64.wrap (x7 + 1),end12)
noncomputable def WE (x_x5 : OX) (r4 : Int) (align3 : Int) (x6 : List Int) (x7 : Int) (end8 : Int) : Option (((List Int) × Int × Int) ⊕ (Pc × Int)) :=
 bif (decide (x7 < (x_x5.Slots.length : Int))) then
  (ixO x_x5.Slots x7).bind fun x_x9 =>
  (AaE end8 x_x9.Align).bind fun r10 =>
  bif (r10.2 == 0) then
   (YB r10.1 x_x9.Size).bind fun r13 =>
   UI x6 r10 x7 r13.2 r13.1
  else
   UI x6 r10 x7 r10.2 end8
 else
  lft (
   (AcQ (Pc.mk r4 0 x6) end8 align3).bind fun r14 =>
   some (r14.1,r14.2))
noncomputable def Vc (p1 : Ph) (i2 : Int) (align3 : Int) : Option (Pc × Int) :=
 (Yo p1 i2).bind fun r4 =>
 (ixO p1.Funcs i2).bind fun x_x5 =>
 Pq (fun s=>WE x_x5 r4 align3 s.1 s.2.1 s.2.2) (([] : List Int),0,r4)

noncomputable def Qb (s1 : Pr) (x2 : Int) : Option (Pj) :=
 (ixO s1.y.Off x2).bind fun x_x3 =>
 (ixO s1.f.Slots x2).bind fun x_x4 =>
 some (Pj.mk x_x3 x_x4.Size)

noncomputable def UD (a1 : Pj) : Option (Bool) :=
 (Tq a1.Off).bind fun r2 =>
 bif r2 then
  (Tq a1.Size).bind fun r3 =>
  bif r3 then
   some (decide ((IntKind.i64.wrap (a1.Off + a1.Size)) ≤ 2147483647))
  else
   some false
 else
  some false

noncomputable def WZ (a1 : Pj) (size2 : Int) : Option (Bool) :=
 (UD a1).bind fun r3 =>
 bif r3 then
  some (decide ((IntKind.i64.wrap (a1.Off + a1.Size)) ≤ size2))
 else
  some false

noncomputable def RS (s1 : Pr) (x2 : Int) : Option (Bool) :=
 (ixO s1.y.Off x2).bind fun x_x3 =>
 bif (decide (x_x3 ≥ s1.y.Args)) then
  (ixO s1.f.Slots x2).bind fun x_x4 =>
  chk (x_x4.Align ≠ 0) <|
  bif ((x_x3.tmod x_x4.Align) == 0) then
   (Qb s1 x2).bind fun r5 =>
   (WZ r5 s1.y.Size).bind fun r6 =>
   some r6
  else
   some false
 else
  some false

noncomputable def SJ (s1 : Pr) (r2 : Pc × Int) (x4 : Int) : Option ((Int) ⊕ (Int)) :=
 bif (decide (x4 < (s1.f.Slots.length : Int))) then
  (RS s1 x4).bind fun r5 =>
  bif (!r5) then
   lft (some 13)
  else
   cnt (IntKind.i64.wrap (x4 + 1))
 else
  lft (
   chk (s1.align ≠ 0) <|
   bif ((s1.y.Size.tmod s1.align) != 0) then
    some 13
   else
    bif (decide (s1.y.Size < s1.y.Args)) then
     some 13
    else
     bif (decide (s1.y.Size > r2.1.Size)) then
      some 13
     else
      some 0)
noncomputable def SK (s1 : Pr) (r2 : Pc × Int) : Option (Int) :=
 Pq (fun s=>SJ s1 r2 s) 0
noncomputable def Rr (s1 : Pr) : Option (Int) :=
 (Vc s1.p s1.i s1.align).bind fun r2 =>
 bif (r2.2 != 0) then
  some r2.2
 else
  (Yo s1.p s1.i).bind fun r3 =>
  bif (s1.y.Args != r3) then
   some 13
  else
   bif ((s1.y.Off.length : Int) != (s1.f.Slots.length : Int)) then
    some 13
   else
    SK s1 r2

noncomputable def Sf (p1 : Ph) (i2 : Int) (align3 : Int) (y4 : Pc) : Option (Int) :=
 (ixO p1.Funcs i2).bind fun x_x5 =>
 (Rr (Pr.mk p1 i2 align3 x_x5 y4)).bind fun r6 =>
 some r6

noncomputable def ZJ  : Option (Bool) :=
 (Sf (Ph.mk ([(OX.mk 0 ([]) ([(Pa.mk 23 0 0 0 0)] : List Pa))] : List OX)) 0 16 (Pc.mk 0 0 ([]))).bind fun r1 =>
 bif (r1 == 0) then
  (Sf (Ph.mk ([(OX.mk 0 ([]) ([(Pa.mk 23 0 0 0 0)] : List Pa))] : List OX)) 0 16 (Pc.mk 0 16 ([]))).bind fun r2 =>
  some (r2 == 13)
 else
  some false

noncomputable def Adf (list1 : (List Int)) (limit2 : Int) : Option (Mk) :=
 chk (0 ≤ (Sm (list1.length : Int) limit2) ∧ (Sm (list1.length : Int) limit2) ≤ list1.length) <|
 some (Mk.mk (list1.take (Sm (list1.length : Int) limit2).toNat) 0)

noncomputable def XA (c1 : Mk) : Option (Bool × Mk) :=
 some ((decide (c1.at_ < (c1.list.length : Int))),c1)

noncomputable def Vp (n2 : Int) (c3 : List Int) (c4 : Int) : Option (Int × Mk) :=
 (ixO c3 c4).bind fun x_x6 =>
 some (IntKind.i64.wrap ((IntKind.i64.wrap ((IntKind.i64.wrap (x_x6)) * n2)).tdiv 256),(Mk.mk c3 (IntKind.i64.wrap (c4 + 1))))
noncomputable def Pe (c1 : Mk) (n2 : Int) : Option (Int × Mk) :=
 (XA c1).bind fun r5 =>
 bif (!r5.1) then
  some (0,r5.2)
 else
  bif (decide (n2 < 1)) then
   some (0,r5.2)
  else
   Vp n2 r5.2.list r5.2.at_

noncomputable def Vq (c1 : Mk) : Option (Po × Mk) :=
 (Pe c1 7).bind fun r2 =>
 chk (0 ≤ r2.1 ∧ r2.1 < ([8,4,8,1,2,16,8] : List Int).length) <|
 ((([8,4,8,1,2,16,8] : List Int))[r2.1.toNat]?).bind fun x_e3 =>
 (Pe r2.2 8).bind fun r4 =>
 chk (0 ≤ r4.1 ∧ r4.1 < ([8,4,1,8,16,2,32,64] : List Int).length) <|
 ((([8,4,1,8,16,2,32,64] : List Int))[r4.1.toNat]?).bind fun x_e5 =>
 some ((Po.mk x_e3 x_e5),r4.2)

noncomputable def UO (c4 : List Int) (c5 : Int) (l6 : List Po) (n7 : Int) : Option (((List Int) × Int × (List Po) × Int) ⊕ ((List Po) × Mk)) :=
 bif (decide (n7 > 0)) then
  (Vq (Mk.mk c4 c5)).bind fun r8 =>
  chk (l6.length + ([r8.1] : List Po).length ≤ 16777216) <|
  cnt (r8.2.list,r8.2.at_,l6 ++ ([r8.1] : List Po),IntKind.i64.wrap (n7 - 1))
 else
  lft (some (l6,(Mk.mk c4 c5)))
noncomputable def UC (c1 : Mk) (most2 : Int) : Option ((List Po) × Mk) :=
 (Pe c1 (IntKind.i64.wrap (most2 + 1))).bind fun r3 =>
 Pq (fun s=>UO s.1 s.2.1 s.2.2.1 s.2.2.2) (r3.2.list,r3.2.at_,([] : List Po),r3.1)

noncomputable def Vu (f2 : OX) (s3 : Int) (c1 : Mk) (l4 : List Int) (k5 : Int) : Option (((List Int) × Int) ⊕ (Int × Mk)) :=
 bif (decide (k5 < (f2.Slots.length : Int))) then
  (ixO f2.Slots k5).bind fun x_x6 =>
  (ixO f2.Slots s3).bind fun x_x7 =>
  bif (x_x6.Size == x_x7.Size) then
   chk (l4.length + ([k5] : List Int).length ≤ 16777216) <|
   cnt (l4 ++ ([k5] : List Int),IntKind.i64.wrap (k5 + 1))
  else
   cnt (l4,IntKind.i64.wrap (k5 + 1))
 else
  lft (
   (Pe c1 (l4.length : Int)).bind fun r8 =>
   chk (0 ≤ r8.1 ∧ r8.1 < l4.length) <|
   ((l4)[r8.1.toNat]?).bind fun l_e9 =>
   some (l_e9,r8.2))
noncomputable def Vt (c1 : Mk) (f2 : OX) (s3 : Int) : Option (Int × Mk) :=
 Pq (fun s=>Vu f2 s3 c1 s.1 s.2) (([] : List Int),0)

noncomputable def Tz (c1 : Mk) : Option (Int × Mk) :=
 (Pe c1 6).bind fun r2 =>
 bif (r2.1 == 0) then
  (Pe r2.2 3).bind fun r3 =>
  some (IntKind.u64.wrap (18446744073709551615 - (IntKind.u64.wrap (r3.1))),r3.2)
 else
  bif (r2.1 == 1) then
   (Pe r2.2 64).bind fun r4 =>
   chk (0 ≤ r4.1) <|
   some (IntKind.u64.wrap (1 * 2 ^ (Nat.min r4.1.toNat IntKind.u64.bits)),r4.2)
  else
   bif (r2.1 == 2) then
    some (0,r2.2)
   else
    (Pe r2.2 256).bind fun r5 =>
    some (IntKind.u64.wrap (r5.1),r5.2)

noncomputable def Vs (params4 : (List Int)) (i3 : Int) (r23 : Int × Mk) (c24 : List Int) (c25 : Int) (out26 : List Pa) (a27 : Int) : Option (((List Int) × Int × (List Pa) × Int) ⊕ ((List Pa) × Mk)) :=
 (ixO params4 (IntKind.i64.wrap ((IntKind.i64.wrap (i3 + 1)) + r23.1))).bind fun x_x28 =>
 bif (decide (a27 < x_x28)) then
  (Pe (Mk.mk c24 c25) 8).bind fun r29 =>
  bif (decide (r29.1 < 7)) then
   (Pe r29.2 4).bind fun r30 =>
   chk (out26.length + ([(Pa.mk 18 a27 r30.1 0 0)] : List Pa).length ≤ 16777216) <|
   cnt (r30.2.list,r30.2.at_,out26 ++ ([(Pa.mk 18 a27 r30.1 0 0)] : List Pa),IntKind.i64.wrap (a27 + 1))
  else
   cnt (r29.2.list,r29.2.at_,out26,IntKind.i64.wrap (a27 + 1))
 else
  lft (
   chk (out26.length + ([(Pa.mk 22 (IntKind.i64.wrap ((IntKind.i64.wrap (i3 + 1)) + r23.1)) 0 0 0)] : List Pa).length ≤ 16777216) <|
   some (out26 ++ ([(Pa.mk 22 (IntKind.i64.wrap ((IntKind.i64.wrap (i3 + 1)) + r23.1)) 0 0 0)] : List Pa),(Mk.mk c24 c25)))
noncomputable def Yh (r5 : Int × Mk) (r6 : Int × Mk) : Option ((List Pa) × Mk) :=
 some (([(Pa.mk 14 r5.1 0 0 0)] : List Pa),r6.2)
noncomputable def RQ (r6 : Int × Mk) (params4 : (List Int)) (i3 : Int) (r5 : Int × Mk) (x22 : Bool) : Option ((List Pa) × Mk) :=
 bif x22 then
  (Pe r6.2 (IntKind.i64.wrap ((IntKind.i64.wrap ((params4.length : Int) - i3)) - 1))).bind fun r23 =>
  Pq (fun s=>Vs params4 i3 r23 s.1 s.2.1 s.2.2.1 s.2.2.2) (r23.2.list,r23.2.at_,([] : List Pa),0)
 else
  Yh r5 r6
noncomputable def RP (r6 : Int × Mk) (f2 : OX) (r5 : Int × Mk) (params4 : (List Int)) (i3 : Int) (x20 : Bool) : Option ((List Pa) × Mk) :=
 bif x20 then
  (Pe r6.2 f2.Params).bind fun r21 =>
  some (([(Pa.mk 19 r5.1 r21.1 0 0)] : List Pa),r21.2)
 else
  bif (decide (r6.1 ≥ 17)) then
   RQ r6 params4 i3 r5 (decide ((IntKind.i64.wrap (i3 + 1)) < (params4.length : Int)))
  else
   RQ r6 params4 i3 r5 false
noncomputable def RO (r6 : Int × Mk) (f2 : OX) (r5 : Int × Mk) (params4 : (List Int)) (i3 : Int) (x11 : Bool) : Option ((List Pa) × Mk) :=
 bif x11 then
  (Pe r6.2 (f2.Slots.length : Int)).bind fun r12 =>
  (Vt r12.2 f2 r12.1).bind fun r13 =>
  some (([(Pa.mk 17 r13.1 r12.1 0 0)] : List Pa),r13.2)
 else
  bif (decide (r6.1 < 11)) then
   (Tz r6.2).bind fun r14 =>
   some (([(Pa.mk 0 r5.1 0 0 r14.1)] : List Pa),r14.2)
  else
   bif (decide (r6.1 < 13)) then
    (Pe r6.2 10).bind fun r15 =>
    (Pe r15.2 4).bind fun r16 =>
    (Pe r16.2 8).bind fun r17 =>
    some (([(Pa.mk (IntKind.i64.wrap (2 + r15.1)) r5.1 r16.1 r17.1 0)] : List Pa),r17.2)
   else
    bif (decide (r6.1 < 15)) then
     some (([(Pa.mk 14 r5.1 0 0 0)] : List Pa),r6.2)
    else
     bif (r6.1 == 15) then
      (Pe r6.2 3).bind fun r18 =>
      chk (0 ≤ r18.1 ∧ r18.1 < ([13,12,1] : List Int).length) <|
      ((([13,12,1] : List Int))[r18.1.toNat]?).bind fun x_e19 =>
      some (([(Pa.mk x_e19 r5.1 0 0 0)] : List Pa),r18.2)
     else
      bif (r6.1 == 16) then
       RP r6 f2 r5 params4 i3 (decide (f2.Params > 0))
      else
       RP r6 f2 r5 params4 i3 false
noncomputable def RN (r6 : Int × Mk) (f2 : OX) (r5 : Int × Mk) (params4 : (List Int)) (i3 : Int) (x9 : Bool) : Option ((List Pa) × Mk) :=
 bif x9 then
  (Pe r6.2 (f2.Slots.length : Int)).bind fun r10 =>
  some (([(Pa.mk 15 r5.1 r10.1 0 0)] : List Pa),r10.2)
 else
  bif (decide (r6.1 < 9)) then
   RO r6 f2 r5 params4 i3 (decide ((f2.Slots.length : Int) > 0))
  else
   RO r6 f2 r5 params4 i3 false
noncomputable def RM (r6 : Int × Mk) (f2 : OX) (r5 : Int × Mk) (params4 : (List Int)) (i3 : Int) (x7 : Bool) : Option ((List Pa) × Mk) :=
 bif x7 then
  (Pe r6.2 (f2.Slots.length : Int)).bind fun r8 =>
  some (([(Pa.mk 16 r8.1 r5.1 0 0)] : List Pa),r8.2)
 else
  bif (decide (r6.1 < 6)) then
   RN r6 f2 r5 params4 i3 (decide ((f2.Slots.length : Int) > 0))
  else
   RN r6 f2 r5 params4 i3 false
noncomputable def Vr (c1 : Mk) (f2 : OX) (i3 : Int) (params4 : (List Int)) : Option ((List Pa) × Mk) :=
 (Pe c1 4).bind fun r5 =>
 (Pe r5.2 20).bind fun r6 =>
 bif (decide (r6.1 < 3)) then
  RM r6 f2 r5 params4 i3 (decide ((f2.Slots.length : Int) > 0))
 else
  RM r6 f2 r5 params4 i3 false

noncomputable def RC (k32 : Int) (code31 : List Pa) (r33 : Int × Mk) (to34 : Int) (x35 : Bool) : Option (((List Int) × Int × (List Pa) × Int) ⊕ (OX × Mk)) :=
 bif x35 then
  chk (0 ≤ k32 ∧ k32 < code31.length) <|
  ((code31)[k32.toNat]?).bind fun code_o38 =>
  cnt (r33.2.list,r33.2.at_,code31.set k32.toNat (Pa.mk code_o38.Op to34 code_o38.B code_o38.C code_o38.Imm),IntKind.i64.wrap (k32 + 1))
 else
  chk (0 ≤ k32 ∧ k32 < code31.length) <|
  ((code31)[k32.toNat]?).bind fun code_e39 =>
  bif (code_e39.Op == 21) then
   chk (0 ≤ k32 ∧ k32 < code31.length) <|
   ((code31)[k32.toNat]?).bind fun code_e40 =>
   bif (decide (code_e40.B < 0)) then
    chk (0 ≤ k32 ∧ k32 < code31.length) <|
    ((code31)[k32.toNat]?).bind fun code_o41 =>
    cnt (r33.2.list,r33.2.at_,code31.set k32.toNat (Pa.mk code_o41.Op code_o41.A to34 code_o41.C code_o41.Imm),IntKind.i64.wrap (k32 + 1))
   else
    cnt (r33.2.list,r33.2.at_,code31,IntKind.i64.wrap (k32 + 1))
  else
   cnt (r33.2.list,r33.2.at_,code31,IntKind.i64.wrap (k32 + 1))
noncomputable def Qc (k32 : Int) (code31 : List Pa) (r33 : Int × Mk) (to34 : Int) : Option (((List Int) × Int × (List Pa) × Int) ⊕ (OX × Mk)) :=
 chk (0 ≤ k32 ∧ k32 < code31.length) <|
 ((code31)[k32.toNat]?).bind fun code_e36 =>
 bif (code_e36.Op == 20) then
  chk (0 ≤ k32 ∧ k32 < code31.length) <|
  ((code31)[k32.toNat]?).bind fun code_e37 =>
  RC k32 code31 r33 to34 (decide (code_e37.A < 0))
 else
  RC k32 code31 r33 to34 false
noncomputable def RB (x_x5 : Int) (f17 : List Po) (c29 : List Int) (c30 : Int) (code31 : List Pa) (k32 : Int) : Option (((List Int) × Int × (List Pa) × Int) ⊕ (OX × Mk)) :=
 bif (decide (k32 < (code31.length : Int))) then
  (Pe (Mk.mk c29 c30) 8).bind fun r33 =>
  bif (decide ((IntKind.i64.wrap ((IntKind.i64.wrap (k32 + r33.1)) - 2)) < 0)) then
   Qc k32 code31 r33 (IntKind.i64.wrap ((code31.length : Int) - 1))
  else
   bif (decide ((IntKind.i64.wrap ((IntKind.i64.wrap (k32 + r33.1)) - 2)) ≥ (code31.length : Int))) then
    Qc k32 code31 r33 (IntKind.i64.wrap ((code31.length : Int) - 1))
   else
    Qc k32 code31 r33 (IntKind.i64.wrap ((IntKind.i64.wrap (k32 + r33.1)) - 2))
 else
  lft (some ((OX.mk x_x5 f17 code31),(Mk.mk c29 c30)))
noncomputable def QL (code16 : List Pa) (x_x5 : Int) (f17 : List Po) (c23 : List Int) (c24 : Int) (end25 : Int) (end26 : Int) : Option (OX × Mk) :=
 chk (code16.length + ([(Pa.mk end25 0 0 0 end26)] : List Pa).length ≤ 16777216) <|
 Pq (fun s=>RB x_x5 f17 s.1 s.2.1 s.2.2.1 s.2.2.2) (c23,c24,code16 ++ ([(Pa.mk end25 0 0 0 end26)] : List Pa),0)
noncomputable def Tj (x_x5 : Int) (i2 : Int) (params3 : (List Int)) (c14 : List Int) (c15 : Int) (code16 : List Pa) (f17 : List Po) (n18 : Int) : Option (((List Int) × Int × (List Pa) × (List Po) × Int) ⊕ (OX × Mk)) :=
 bif (decide (n18 > 0)) then
  (Vr (Mk.mk c14 c15) (OX.mk x_x5 f17 ([])) i2 params3).bind fun r19 =>
  chk (code16.length + r19.1.length ≤ 16777216) <|
  (Pe r19.2 9).bind fun r20 =>
  bif (r20.1 == 7) then
   (Pe r20.2 4).bind fun r21 =>
   chk ((code16 ++ r19.1).length + ([(Pa.mk 21 r21.1 (-1) 0 0)] : List Pa).length ≤ 16777216) <|
   cnt (r21.2.list,r21.2.at_,(code16 ++ r19.1) ++ ([(Pa.mk 21 r21.1 (-1) 0 0)] : List Pa),f17,IntKind.i64.wrap (n18 - 1))
  else
   bif (r20.1 == 8) then
    (Pe r20.2 3).bind fun r22 =>
    bif (r22.1 == 2) then
     chk ((code16 ++ r19.1).length + ([(Pa.mk 20 (-1) 0 0 0)] : List Pa).length ≤ 16777216) <|
     cnt (r22.2.list,r22.2.at_,(code16 ++ r19.1) ++ ([(Pa.mk 20 (-1) 0 0 0)] : List Pa),f17,IntKind.i64.wrap (n18 - 1))
    else
     cnt (r22.2.list,r22.2.at_,code16 ++ r19.1,f17,IntKind.i64.wrap (n18 - 1))
   else
    cnt (r20.2.list,r20.2.at_,code16 ++ r19.1,f17,IntKind.i64.wrap (n18 - 1))
 else
  lft (
   (Pe (Mk.mk c14 c15) 12).bind fun r27 =>
   bif (r27.1 == 11) then
    (Tz r27.2).bind fun r28 =>
    QL code16 x_x5 f17 r28.2.list r28.2.at_ 24 r28.1
   else
    QL code16 x_x5 f17 r27.2.list r27.2.at_ 23 0)
noncomputable def Ti (r6 : (List Po) × Mk) (most4 : Int) (x_x5 : Int) (i2 : Int) (params3 : (List Int)) (c7 : List Int) (c8 : Int) (code9 : List Pa) (s10 : Int) : Option (((List Int) × Int × (List Pa) × Int) ⊕ (OX × Mk)) :=
 bif (decide (s10 < (r6.1.length : Int))) then
  (Pe (Mk.mk c7 c8) 4).bind fun r11 =>
  bif (decide (r11.1 < 3)) then
   (Pe r11.2 4).bind fun r12 =>
   chk (code9.length + ([(Pa.mk 16 s10 r12.1 0 0)] : List Pa).length ≤ 16777216) <|
   cnt (r12.2.list,r12.2.at_,code9 ++ ([(Pa.mk 16 s10 r12.1 0 0)] : List Pa),IntKind.i64.wrap (s10 + 1))
  else
   cnt (r11.2.list,r11.2.at_,code9,IntKind.i64.wrap (s10 + 1))
 else
  lft (
   (Pe (Mk.mk c7 c8) (IntKind.i64.wrap (most4 + 1))).bind fun r13 =>
   Pq (fun s=>Tj x_x5 i2 params3 s.1 s.2.1 s.2.2.1 s.2.2.2.1 s.2.2.2.2) (r13.2.list,r13.2.at_,code9,r6.1,r13.1))
noncomputable def SQ (c1 : Mk) (i2 : Int) (params3 : (List Int)) (most4 : Int) : Option (OX × Mk) :=
 (ixO params3 i2).bind fun x_x5 =>
 (UC c1 6).bind fun r6 =>
 Pq (fun s=>Ti r6 most4 x_x5 i2 params3 s.1 s.2.1 s.2.2.1 s.2.2.2) (r6.2.list,r6.2.at_,([] : List Pa),0)

noncomputable def Ty (most3 : Int) (c10 : List Int) (c11 : Int) (p12 : List OX) (i13 : Int) (params14 : List Int) : Option (((List Int) × Int × (List OX) × Int × (List Int)) ⊕ (Ph × Mk)) :=
 bif (decide (i13 < (params14.length : Int))) then
  chk (([] : List OX).length + p12.length ≤ 16777216) <|
  (SQ (Mk.mk c10 c11) i13 params14 most3).bind fun r15 =>
  chk ((([] : List OX) ++ p12).length + ([r15.1] : List OX).length ≤ 16777216) <|
  cnt (r15.2.list,r15.2.at_,(([] : List OX) ++ p12) ++ ([r15.1] : List OX),IntKind.i64.wrap (i13 + 1),params14)
 else
  lft (some ((Ph.mk p12),(Mk.mk c10 c11)))
noncomputable def Tx (most3 : Int) (c5 : List Int) (c6 : Int) (params7 : List Int) (n8 : Int) : Option (((List Int) × Int × (List Int) × Int) ⊕ (Ph × Mk)) :=
 bif (decide (n8 > 0)) then
  (Pe (Mk.mk c5 c6) 4).bind fun r9 =>
  chk (params7.length + ([r9.1] : List Int).length ≤ 16777216) <|
  cnt (r9.2.list,r9.2.at_,params7 ++ ([r9.1] : List Int),IntKind.i64.wrap (n8 - 1))
 else
  lft (Pq (fun s=>Ty most3 s.1 s.2.1 s.2.2.1 s.2.2.2.1 s.2.2.2.2) (c5,c6,[],0,params7))
noncomputable def Tp (c1 : Mk) (funcs2 : Int) (most3 : Int) : Option (Ph × Mk) :=
 (Pe c1 funcs2).bind fun r4 =>
 Pq (fun s=>Tx most3 s.1 s.2.1 s.2.2.1 s.2.2.2) (r4.2.list,r4.2.at_,([0] : List Int),r4.1)

noncomputable def Abf (n1 : Int) : Option (Bool) :=
 bif (n1 == 1) then
  some true
 else
  bif (n1 == 2) then
   some true
  else
   bif (n1 == 4) then
    some true
   else
    bif (n1 == 8) then
     some true
    else
     some (n1 == 16)

noncomputable def Wj (n1 : Int) (k2 : Int) : Option ((Int) ⊕ (Bool)) :=
 bif (decide (k2 ≤ 16777216)) then
  bif (n1 == k2) then
   lft (some true)
  else
   cnt (IntKind.i64.wrap (k2 * 2))
 else
  lft (some false)
noncomputable def Sb (n1 : Int) : Option (Bool) :=
 Pq (fun s=>Wj n1 s) 1

noncomputable def YL (s1 : (List Po)) (i2 : Int) : Option ((Int) ⊕ (Int)) :=
 bif (decide (i2 < (s1.length : Int))) then
  (ixO s1 i2).bind fun x_x3 =>
  (Abf x_x3.Size).bind fun r4 =>
  bif (!r4) then
   lft (some 5)
  else
   (ixO s1 i2).bind fun x_x5 =>
   (Sb x_x5.Align).bind fun r6 =>
   bif (!r6) then
    lft (some 5)
   else
    cnt (IntKind.i64.wrap (i2 + 1))
 else
  lft (some 0)
noncomputable def Xn (s1 : (List Po)) : Option (Int) :=
 bif (decide ((s1.length : Int) > 512)) then
  some 3
 else
  Pq (fun s=>YL s1 s) 0

noncomputable def Wg (s1 : (List Po)) (a3 : Int) (i4 : Int) : Option ((Int × Int) ⊕ (Int)) :=
 bif (decide (i4 < (s1.length : Int))) then
  (ixO s1 i4).bind fun x_x5 =>
  cnt (RH a3 x_x5.Align,IntKind.i64.wrap (i4 + 1))
 else
  lft (some a3)
noncomputable def VK (s1 : (List Po)) : Option (Int) :=
 (Xn s1).bind fun r2 =>
 bif (r2 != 0) then
  some 16
 else
  Pq (fun s=>Wg s1 s.1 s.2) (16,0)

noncomputable def Wn (p1 : Ph) (a2 : Int) (i3 : Int) : Option ((Int × Int) ⊕ (Int)) :=
 bif (decide (i3 < (p1.Funcs.length : Int))) then
  (ixO p1.Funcs i3).bind fun x_x4 =>
  (VK x_x4.Slots).bind fun r5 =>
  cnt (RH a2 r5,IntKind.i64.wrap (i3 + 1))
 else
  lft (some a2)
noncomputable def Un (p1 : Ph) : Option (Int) :=
 Pq (fun s=>Wn p1 s.1 s.2) (16,0)

noncomputable def Rj (x_x3 : Pa) (k2 : Int) (x4 : Bool) : Option ((List Int)) :=
 bif x4 then
  some ([] : List Int)
 else
  bif (x_x3.Op == 21) then
   bif (decide (x_x3.B < (IntKind.i64.wrap (k2 + 1)))) then
    some ([x_x3.B,IntKind.i64.wrap (k2 + 1)] : List Int)
   else
    bif (decide (x_x3.B > (IntKind.i64.wrap (k2 + 1)))) then
     some ([IntKind.i64.wrap (k2 + 1),x_x3.B] : List Int)
    else
     some ([IntKind.i64.wrap (k2 + 1)] : List Int)
  else
   some ([IntKind.i64.wrap (k2 + 1)] : List Int)
noncomputable def Aaj (f1 : OX) (k2 : Int) : Option ((List Int)) :=
 (ixO f1.Code k2).bind fun x_x3 =>
 bif (x_x3.Op == 20) then
  some ([x_x3.A] : List Int)
 else
  bif (x_x3.Op == 23) then
   Rj x_x3 k2 (x_x3.Op == 23)
  else
   Rj x_x3 k2 (x_x3.Op == 24)
noncomputable def YP (f1 : OX) (k2 : Int) : Option ((List Int)) :=
 bif (decide (k2 < 0)) then
  some ([] : List Int)
 else
  bif (decide (k2 ≥ (f1.Code.length : Int))) then
   some ([] : List Int)
  else
   Aaj f1 k2

noncomputable def RA (x1 : Pa) : Option (Bool) :=
 bif (x1.Op == 16) then
  some true
 else
  some (x1.Op == 17)

noncomputable def Rk (x1 : Pa) : Option (Int × Bool) :=
 (RA x1).bind fun r2 =>
 bif r2 then
  some (x1.A,true)
 else
  some (0,false)

noncomputable def Sp (s1 : (List Int)) (n2 : Int) (out3 : List Int) (i4 : Int) : Option (((List Int) × Int) ⊕ ((List Int))) :=
 bif (decide (i4 < (s1.length : Int))) then
  (ixO s1 i4).bind fun x_x5 =>
  bif (x_x5 != n2) then
   (ixO s1 i4).bind fun x_x6 =>
   chk (out3.length + ([x_x6] : List Int).length ≤ 16777216) <|
   cnt (out3 ++ ([x_x6] : List Int),IntKind.i64.wrap (i4 + 1))
  else
   cnt (out3,IntKind.i64.wrap (i4 + 1))
 else
  lft (some out3)
noncomputable def Wm (s1 : (List Int)) (n2 : Int) : Option ((List Int)) :=
 Pq (fun s=>Sp s1 n2 s.1 s.2) (([] : List Int),0)

noncomputable def Uk (x1 : Pa) : Option ((List Int)) :=
 bif (x1.Op == 15) then
  some ([x1.B] : List Int)
 else
  bif (x1.Op == 17) then
   some ([x1.B] : List Int)
  else
   some ([] : List Int)

noncomputable def VA (n1 : Int) : Option (Bool) :=
 bif (decide (n1 ≥ 0)) then
  some (decide (n1 < 512))
 else
  some false

noncomputable def Sl (s1 : (List Int)) (i6 : Int) (out7 : List Int) (done8 : Bool) : Option (((List Int) × Bool × Int) ⊕ ((List Int))) :=
 (ixO s1 i6).bind fun x_x12 =>
 chk (out7.length + ([x_x12] : List Int).length ≤ 16777216) <|
 cnt (out7 ++ ([x_x12] : List Int),done8,IntKind.i64.wrap (i6 + 1))
noncomputable def Tt (s1 : (List Int)) (i6 : Int) (n2 : Int) (out4 : List Int) (done5 : Bool) (x9 : Bool) : Option (((List Int) × Bool × Int) ⊕ ((List Int))) :=
 bif x9 then
  (ixO s1 i6).bind fun x_x11 =>
  bif (decide (x_x11 > n2)) then
   chk (out4.length + ([n2] : List Int).length ≤ 16777216) <|
   Sl s1 i6 (out4 ++ ([n2] : List Int)) true
  else
   Sl s1 i6 out4 true
 else
  Sl s1 i6 out4 done5
noncomputable def Rb (s1 : (List Int)) (n2 : Int) (out4 : List Int) (done5 : Bool) (i6 : Int) : Option (((List Int) × Bool × Int) ⊕ ((List Int))) :=
 bif (decide (i6 < (s1.length : Int))) then
  bif (!done5) then
   (ixO s1 i6).bind fun x_x10 =>
   Tt s1 i6 n2 out4 done5 (decide (x_x10 ≥ n2))
  else
   Tt s1 i6 n2 out4 done5 false
 else
  lft (
   bif (!done5) then
    chk (out4.length + ([n2] : List Int).length ≤ 16777216) <|
    some (out4 ++ ([n2] : List Int))
   else
    some out4)
noncomputable def Sy (s1 : (List Int)) (n2 : Int) : Option ((List Int)) :=
 (VA n2).bind fun r3 =>
 Pq (fun s=>Rb s1 n2 s.1 s.2.1 s.2.2) (([] : List Int),(!r3),0)

noncomputable def Ut (b2 : (List Int)) (out3 : List Int) (i4 : Int) : Option (((List Int) × Int) ⊕ ((List Int))) :=
 bif (decide (i4 < (b2.length : Int))) then
  (ixO b2 i4).bind fun x_x5 =>
  (Sy out3 x_x5).bind fun r6 =>
  cnt (r6,IntKind.i64.wrap (i4 + 1))
 else
  lft (some out3)
noncomputable def Tk (a1 : (List Int)) (b2 : (List Int)) : Option ((List Int)) :=
 chk (([] : List Int).length + a1.length ≤ 16777216) <|
 Pq (fun s=>Ut b2 s.1 s.2) (([] : List Int) ++ a1,0)

noncomputable def AbV (x1 : Pa) (out2 : (List Int)) : Option ((List Int)) :=
 (Rk x1).bind fun r3 =>
 bif r3.2 then
  (Wm out2 r3.1).bind fun r4 =>
  (Uk x1).bind fun r5 =>
  (Tk r4 r5).bind fun r6 =>
  some r6
 else
  (Uk x1).bind fun r7 =>
  (Tk out2 r7).bind fun r8 =>
  some r8

noncomputable def Aal (k4 : Int) (x5 : List (List Int)) : Option (((List (List Int)) × Int) ⊕ (Pg)) :=
 cnt (x5,IntKind.i64.wrap (k4 + 1))
noncomputable def Vf (r6 : (List Int)) (k4 : Int) (f1 : OX) (l2 : Pg) (x7 : List (List Int)) (i8 : Int) : Option (((List (List Int)) × Int) ⊕ (((List (List Int)) × Int) ⊕ (Pg))) :=
 bif (decide (i8 < (r6.length : Int))) then
  chk (0 ≤ i8 ∧ i8 < r6.length) <|
  ((r6)[i8.toNat]?).bind fun next_e9 =>
  chk (0 ≤ k4 ∧ k4 < x7.length) <|
  ((x7)[k4.toNat]?).bind fun x_e10 =>
  (ixO f1.Code next_e9).bind fun x_x11 =>
  (ixO l2.Out next_e9).bind fun x_x12 =>
  (AbV x_x11 x_x12).bind fun r13 =>
  (Tk x_e10 r13).bind fun r14 =>
  chk (0 ≤ k4 ∧ k4 < x7.length) <|
  ((x7)[k4.toNat]?).bind fun _ =>
  cnt (x7.set k4.toNat r14,IntKind.i64.wrap (i8 + 1))
 else
  lft (Aal k4 x7)
noncomputable def Ve (f1 : OX) (l2 : Pg) (x3 : List (List Int)) (k4 : Int) : Option (((List (List Int)) × Int) ⊕ (Pg)) :=
 bif (decide (k4 < (f1.Code.length : Int))) then
  (YP f1 k4).bind fun r6 =>
  Pq (fun s=>Vf r6 k4 f1 l2 s.1 s.2) (x3,0)
 else
  lft (some (Pg.mk x3))
noncomputable def Abr (f1 : OX) (l2 : Pg) : Option (Pg) :=
 chk (0 ≤ (f1.Code.length : Int) ∧ (f1.Code.length : Int) ≤ 16777216) <|
 Pq (fun s=>Ve f1 l2 s.1 s.2) (List.replicate (f1.Code.length : Int).toNat ([] : (List Int)),0)

noncomputable def TP (a1 : (List Int)) (b2 : (List Int)) (i3 : Int) : Option ((Int) ⊕ (Bool)) :=
 bif (decide (i3 < (a1.length : Int))) then
  (ixO a1 i3).bind fun x_x4 =>
  (ixO b2 i3).bind fun x_x5 =>
  bif (x_x4 != x_x5) then
   lft (some false)
  else
   cnt (IntKind.i64.wrap (i3 + 1))
 else
  lft (some true)
noncomputable def Abn (a1 : (List Int)) (b2 : (List Int)) : Option (Bool) :=
 bif ((a1.length : Int) != (b2.length : Int)) then
  some false
 else
  Pq (fun s=>TP a1 b2 s) 0

noncomputable def RI (a1 : (List (List Int))) (b2 : (List (List Int))) (i3 : Int) : Option ((Int) ⊕ (Bool)) :=
 bif (decide (i3 < (a1.length : Int))) then
  (ixO a1 i3).bind fun x_x4 =>
  (ixO b2 i3).bind fun x_x5 =>
  (Abn x_x4 x_x5).bind fun r6 =>
  bif (!r6) then
   lft (some false)
  else
   cnt (IntKind.i64.wrap (i3 + 1))
 else
  lft (some true)
noncomputable def Xe (a1 : (List (List Int))) (b2 : (List (List Int))) : Option (Bool) :=
 bif ((a1.length : Int) != (b2.length : Int)) then
  some false
 else
  Pq (fun s=>RI a1 b2 s) 0

noncomputable def Abp (a1 : Pg) (b2 : Pg) : Option (Bool) :=
 (Xe a1.Out b2.Out).bind fun r3 =>
 some r3

noncomputable def YS (f1 : OX) (l2 : List (List Int)) : Option (((List (List Int))) ⊕ (Pg)) :=
 (Abr f1 (Pg.mk l2)).bind fun r3 =>
 (Abp r3 (Pg.mk l2)).bind fun r4 =>
 bif r4 then
  lft (some (Pg.mk l2))
 else
  cnt r3.Out
noncomputable def Up (f1 : OX) : Option (Pg) :=
 chk (0 ≤ (f1.Code.length : Int) ∧ (f1.Code.length : Int) ≤ 16777216) <|
 Pq (fun s=>YS f1 s) (List.replicate (f1.Code.length : Int).toNat ([] : (List Int)))

noncomputable def UN (n8 : Int) (c9 : List Int) (c10 : Int) (x11 : List (List Int)) : Option (((List Int) × Int × (List (List Int)) × Int) ⊕ (Pg × Mk)) :=
 cnt (c9,c10,x11,IntKind.i64.wrap (n8 - 1))
noncomputable def UL (r12 : Int × Mk) (n8 : Int) (x13 : List (List Int)) (k14 : Int) : Option (((List (List Int)) × Int) ⊕ (((List Int) × Int × (List (List Int)) × Int) ⊕ (Pg × Mk))) :=
 bif (decide (k14 < (x13.length : Int))) then
  chk (0 ≤ k14 ∧ k14 < x13.length) <|
  ((x13)[k14.toNat]?).bind fun x_e15 =>
  (Sy x_e15 r12.1).bind fun r16 =>
  chk (0 ≤ k14 ∧ k14 < x13.length) <|
  ((x13)[k14.toNat]?).bind fun _ =>
  cnt (x13.set k14.toNat r16,IntKind.i64.wrap (k14 + 1))
 else
  lft (UN n8 r12.2.list r12.2.at_ x13)
noncomputable def UM (c5 : List Int) (c6 : Int) (f2 : OX) (n8 : Int) (x7 : List (List Int)) : Option (((List Int) × Int × (List (List Int)) × Int) ⊕ (Pg × Mk)) :=
 (Pe (Mk.mk c5 c6) (f2.Slots.length : Int)).bind fun r12 =>
 Pq (fun s=>UL r12 n8 s.1 s.2) (x7,0)
noncomputable def UK (f2 : OX) (c5 : List Int) (c6 : Int) (x7 : List (List Int)) (n8 : Int) : Option (((List Int) × Int × (List (List Int)) × Int) ⊕ (Pg × Mk)) :=
 bif (decide (n8 > 0)) then
  bif (decide ((f2.Slots.length : Int) > 0)) then
   UM c5 c6 f2 n8 x7
  else
   lft (some ((Pg.mk x7),(Mk.mk c5 c6)))
 else
  lft (some ((Pg.mk x7),(Mk.mk c5 c6)))
noncomputable def UB (c1 : Mk) (f2 : OX) : Option (Pg × Mk) :=
 (Up f2).bind fun r3 =>
 chk (([] : List (List Int)).length + r3.Out.length ≤ 16777216) <|
 (Pe c1 3).bind fun r4 =>
 Pq (fun s=>UK f2 s.1 s.2.1 s.2.2.1 s.2.2.2) (r4.2.list,r4.2.at_,([] : List (List Int)) ++ r3.Out,r4.1)

noncomputable def Rm (c1 : Mk) : Option (Int × Mk) :=
 (Pe c1 12).bind fun r2 =>
 bif (r2.1 == 11) then
  (Pe r2.2 (([9223372036854775807,(-9223372036854775808),2147483648,2147483647,(-1),16777216,33554432,1048577,512,80] : List Int).length : Int)).bind fun r3 =>
  chk (0 ≤ r3.1 ∧ r3.1 < ([9223372036854775807,(-9223372036854775808),2147483648,2147483647,(-1),16777216,33554432,1048577,512,80] : List Int).length) <|
  ((([9223372036854775807,(-9223372036854775808),2147483648,2147483647,(-1),16777216,33554432,1048577,512,80] : List Int))[r3.1.toNat]?).bind fun l_e4 =>
  some (l_e4,r3.2)
 else
  (Pe r2.2 256).bind fun r5 =>
  (Pe r5.2 7).bind fun r6 =>
  chk (0 ≤ r6.1) <|
  some (IntKind.i64.wrap ((r5.1.fdiv (2 ^ (Nat.min r6.1.toNat IntKind.i64.bits))) - (IntKind.i64.wrap (r2.1.tdiv 9))),r6.2)

noncomputable def QX (n12 : Int) (c13 : List Int) (c14 : Int) (x15 : List (List Int)) : Option (((List Int) × Int × (List (List Int)) × Int) ⊕ (Pg × Mk)) :=
 cnt (c13,c14,x15,IntKind.i64.wrap (n12 - 1))
noncomputable def Vn (r16 : Int × Mk) (n12 : Int) (r17 : Int × Mk) (x18 : List (List Int)) (k19 : Int) : Option (((List (List Int)) × Int) ⊕ (((List Int) × Int × (List (List Int)) × Int) ⊕ (Pg × Mk))) :=
 bif (decide (k19 < (x18.length : Int))) then
  chk (0 ≤ k19 ∧ k19 < x18.length) <|
  ((x18)[k19.toNat]?).bind fun x_e20 =>
  (Sy x_e20 r16.1).bind fun r21 =>
  chk (0 ≤ k19 ∧ k19 < x18.length) <|
  ((x18)[k19.toNat]?).bind fun _ =>
  cnt (x18.set k19.toNat r21,IntKind.i64.wrap (k19 + 1))
 else
  lft (QX n12 r17.2.list r17.2.at_ x18)
noncomputable def Vo (c9 : List Int) (c10 : Int) (f2 : OX) (n12 : Int) (x11 : List (List Int)) : Option (((List Int) × Int × (List (List Int)) × Int) ⊕ (Pg × Mk)) :=
 (Pe (Mk.mk c9 c10) (f2.Slots.length : Int)).bind fun r16 =>
 (Pe r16.2 2).bind fun r17 =>
 bif (r17.1 == 0) then
  Pq (fun s=>Vn r16 n12 r17 s.1 s.2) (x11,0)
 else
  (Pe r17.2 (x11.length : Int)).bind fun r23 =>
  (Pe r23.2 2).bind fun r24 =>
  bif (r24.1 == 0) then
   chk (0 ≤ r23.1 ∧ r23.1 < x11.length) <|
   ((x11)[r23.1.toNat]?).bind fun x_e25 =>
   (Sy x_e25 r16.1).bind fun r26 =>
   chk (0 ≤ r23.1 ∧ r23.1 < x11.length) <|
   ((x11)[r23.1.toNat]?).bind fun _ =>
   QX n12 r24.2.list r24.2.at_ (x11.set r23.1.toNat r26)
  else
   chk (0 ≤ r23.1 ∧ r23.1 < x11.length) <|
   ((x11)[r23.1.toNat]?).bind fun x_e28 =>
   (Wm x_e28 r16.1).bind fun r29 =>
   chk (0 ≤ r23.1 ∧ r23.1 < x11.length) <|
   ((x11)[r23.1.toNat]?).bind fun _ =>
   QX n12 r24.2.list r24.2.at_ (x11.set r23.1.toNat r29)
noncomputable def RL (c5 : List Int) (c6 : Int) (x7 : List (List Int)) : Option (Pg × Mk) :=
 (Pe (Mk.mk c5 c6) 12).bind fun r31 =>
 bif (r31.1 == 10) then
  chk (0 ≤ (1 : Int) ∧ (1 : Int) ≤ x7.length) <|
  some ((Pg.mk (x7.drop ((1 : Int).toNat))),r31.2)
 else
  bif (r31.1 == 11) then
   (Rm r31.2).bind fun r32 =>
   (Rm r32.2).bind fun r33 =>
   chk (0 ≤ (0 : Int) ∧ (0 : Int) < x7.length) <|
   ((x7)[(0 : Int).toNat]?).bind fun _ =>
   some ((Pg.mk (x7.set ((0 : Int).toNat) ([r32.1,r33.1] : List Int))),r33.2)
  else
   some ((Pg.mk x7),r31.2)
noncomputable def Vm (f2 : OX) (c9 : List Int) (c10 : Int) (x11 : List (List Int)) (n12 : Int) : Option (((List Int) × Int × (List (List Int)) × Int) ⊕ (Pg × Mk)) :=
 bif (decide (n12 > 0)) then
  bif (decide ((f2.Slots.length : Int) > 0)) then
   Vo c9 c10 f2 n12 x11
  else
   lft (RL c9 c10 x11)
 else
  lft (RL c9 c10 x11)
noncomputable def Vl (c1 : Mk) (f2 : OX) : Option (Pg × Mk) :=
 (Up f2).bind fun r3 =>
 (Pe c1 3).bind fun r4 =>
 bif (r4.1 == 0) then
  some (r3,r4.2)
 else
  chk (([] : List (List Int)).length + r3.Out.length ≤ 16777216) <|
  (Pe r4.2 4).bind fun r8 =>
  Pq (fun s=>Vm f2 s.1 s.2.1 s.2.2.1 s.2.2.2) (r8.2.list,r8.2.at_,([] : List (List Int)) ++ r3.Out,r8.1)

noncomputable def Xi (x_x3 : OX) (p1 : Ph) (n4 : Int) (k5 : Int) : Option ((Int × Int) ⊕ (Int)) :=
 bif (decide (k5 < (x_x3.Code.length : Int))) then
  (ixO x_x3.Code k5).bind fun x_x6 =>
  bif (x_x6.Op == 18) then
   (ixO x_x3.Code k5).bind fun x_x7 =>
   cnt (RH n4 (IntKind.i64.wrap (x_x7.A + 1)),IntKind.i64.wrap (k5 + 1))
  else
   bif (x_x6.Op == 22) then
    (ixO x_x3.Code k5).bind fun x_x8 =>
    (ixO p1.Funcs x_x8.A).bind fun x_x9 =>
    cnt (RH n4 x_x9.Params,IntKind.i64.wrap (k5 + 1))
   else
    cnt (n4,IntKind.i64.wrap (k5 + 1))
 else
  lft (some (IntKind.i64.wrap (n4 * 16)))
noncomputable def Sq (p1 : Ph) (i2 : Int) : Option (Int) :=
 (ixO p1.Funcs i2).bind fun x_x3 =>
 Pq (fun s=>Xi x_x3 p1 s.1 s.2) (0,0)

noncomputable def Sa (n1 : Int) : Option (Bool) :=
 bif (decide (n1 ≥ 0)) then
  some (decide (n1 ≤ 2147483647))
 else
  some false

noncomputable def VM (m5 : Int) : Option (Int × Int) :=
 bif (decide (m5 > 2147483647)) then
  some (0,9)
 else
  some (m5,0)
noncomputable def ZM (align2 : Int) (n1 : Int) : Option (Int × Int) :=
 chk (align2 ≠ 0) <|
 bif ((n1.tmod align2) != 0) then
  chk (align2 ≠ 0) <|
  VM (IntKind.i64.wrap ((IntKind.i64.wrap (n1 - (n1.tmod align2))) + align2))
 else
  VM n1
noncomputable def VL (n1 : Int) (align2 : Int) : Option (Int × Int) :=
 (Sa n1).bind fun r3 =>
 bif (!r3) then
  some (0,4)
 else
  (Sb align2).bind fun r4 =>
  bif (!r4) then
   some (0,4)
  else
   ZM align2 n1

noncomputable def Wb (x6 : List Int) (r10 : Int × Int) (x_x5 : OX) (k7 : Int) (_x11 : Po) (_x12 : Po) (_x13 : Int) (_x14 : Int) (_x15 : Bool) : Option (((List Int) × Int × Int) ⊕ (Pc × Int)) :=
 chk (([] : List Int).length + x6.length ≤ 16777216) <|
 chk ((([] : List Int) ++ x6).length + ([r10.1] : List Int).length ≤ 16777216) <|
 (ixO x_x5.Slots k7).bind fun x_x17 =>
 cnt ((([] : List Int) ++ x6) ++ ([r10.1] : List Int),IntKind.i64.wrap (k7 + 1),IntKind.i64.wrap (r10.1 + x_x17.Size))
noncomputable def Wa (x_x5 : OX) (align3 : Int) (r4 : Int) (x6 : List Int) (k7 : Int) (end8 : Int) : Option (((List Int) × Int × Int) ⊕ (Pc × Int)) :=
 bif (decide (k7 < (x_x5.Slots.length : Int))) then
  (ixO x_x5.Slots k7).bind fun x_x9 =>
  (VL end8 x_x9.Align).bind fun r10 =>
  bif (r10.2 != 0) then
   lft (some ((Pc.mk 0 0 ([])),9))
  else
   (ixO x_x5.Slots k7).bind fun x_x16 =>
   bif (decide (r10.1 > (IntKind.i64.wrap (2147483519 - x_x16.Size)))) then
    lft (some ((Pc.mk 0 0 ([])),9))
   else
    Wb x6 r10 x_x5 k7 x_x16 x_x16 x_x16.Size (IntKind.i64.wrap (2147483519 - x_x16.Size)) (decide (r10.1 > (IntKind.i64.wrap (2147483519 - x_x16.Size))))
 else
  lft (
   (VL end8 align3).bind fun r18 =>
   bif (r18.2 != 0) then
    some ((Pc.mk 0 0 ([])),9)
   else
    bif (decide (r18.1 > 2147483519)) then
     some ((Pc.mk 0 0 ([])),9)
    else
     some ((Pc.mk r4 r18.1 x6),0))
noncomputable def SY (p1 : Ph) (i2 : Int) (align3 : Int) : Option (Pc × Int) :=
 (Sq p1 i2).bind fun r4 =>
 (ixO p1.Funcs i2).bind fun x_x5 =>
 Pq (fun s=>Wa x_x5 align3 r4 s.1 s.2.1 s.2.2) (([] : List Int),0,r4)

noncomputable def RU (s1 : (List Int)) (i2 : Int) : Option ((Int) ⊕ (Bool)) :=
 bif (decide (i2 < (s1.length : Int))) then
  (ixO s1 i2).bind fun x_x3 =>
  (VA x_x3).bind fun r4 =>
  bif (!r4) then
   lft (some false)
  else
   bif (decide (i2 > 0)) then
    (ixO s1 i2).bind fun x_x5 =>
    (ixO s1 (IntKind.i64.wrap (i2 - 1))).bind fun x_x6 =>
    bif (decide (x_x5 ≤ x_x6)) then
     lft (some false)
    else
     cnt (IntKind.i64.wrap (i2 + 1))
   else
    cnt (IntKind.i64.wrap (i2 + 1))
 else
  lft (some true)
noncomputable def Xp (s1 : (List Int)) : Option (Bool) :=
 Pq (fun s=>RU s1 s) 0

noncomputable def YU (l2 : Pg) (f1 : OX) (k3 : Int) : Option ((Int) ⊕ (Bool)) :=
 bif (decide (k3 < (l2.Out.length : Int))) then
  (ixO l2.Out k3).bind fun x_x4 =>
  (Xp x_x4).bind fun r5 =>
  bif (!r5) then
   lft (some false)
  else
   (ixO l2.Out k3).bind fun x_x6 =>
   bif (decide ((x_x6.length : Int) > 0)) then
    (ixO l2.Out k3).bind fun x_x7 =>
    (ixO x_x7 (IntKind.i64.wrap ((x_x6.length : Int) - 1))).bind fun x_x8 =>
    bif (decide (x_x8 ≥ (f1.Slots.length : Int))) then
     lft (some false)
    else
     cnt (IntKind.i64.wrap (k3 + 1))
   else
    cnt (IntKind.i64.wrap (k3 + 1))
 else
  lft (some true)
noncomputable def Xs (f1 : OX) (l2 : Pg) : Option (Bool) :=
 bif ((l2.Out.length : Int) != (f1.Code.length : Int)) then
  some false
 else
  Pq (fun s=>YU l2 f1 s) 0

noncomputable def Wl (s1 : (List Int)) (n2 : Int) (i3 : Int) : Option ((Int) ⊕ (Bool)) :=
 bif (decide (i3 < (s1.length : Int))) then
  (ixO s1 i3).bind fun x_x4 =>
  bif (x_x4 == n2) then
   lft (some true)
  else
   cnt (IntKind.i64.wrap (i3 + 1))
 else
  lft (some false)
noncomputable def Um (s1 : (List Int)) (n2 : Int) : Option (Bool) :=
 Pq (fun s=>Wl s1 n2 s) 0

noncomputable def SS (a1 : (List Int)) (b2 : (List Int)) (out3 : List Int) (i4 : Int) : Option (((List Int) × Int) ⊕ ((List Int))) :=
 bif (decide (i4 < (a1.length : Int))) then
  (ixO a1 i4).bind fun x_x5 =>
  (Um b2 x_x5).bind fun r6 =>
  bif (!r6) then
   (ixO a1 i4).bind fun x_x7 =>
   chk (out3.length + ([x_x7] : List Int).length ≤ 16777216) <|
   cnt (out3 ++ ([x_x7] : List Int),IntKind.i64.wrap (i4 + 1))
  else
   cnt (out3,IntKind.i64.wrap (i4 + 1))
 else
  lft (some out3)
noncomputable def ZN (a1 : (List Int)) (b2 : (List Int)) : Option ((List Int)) :=
 Pq (fun s=>SS a1 b2 s.1 s.2) (([] : List Int),0)

noncomputable def SU (r4 : (List Int)) (f1 : OX) (l2 : Pg) (k3 : Int) (out5 : List Int) (i6 : Int) : Option (((List Int) × Int) ⊕ ((List Int))) :=
 bif (decide (i6 < (r4.length : Int))) then
  chk (0 ≤ i6 ∧ i6 < r4.length) <|
  ((r4)[i6.toNat]?).bind fun next_e7 =>
  (ixO f1.Code next_e7).bind fun x_x8 =>
  (ixO l2.Out next_e7).bind fun x_x9 =>
  (AbV x_x8 x_x9).bind fun r10 =>
  (ixO l2.Out k3).bind fun x_x11 =>
  (ZN r10 x_x11).bind fun r12 =>
  (Tk out5 r12).bind fun r13 =>
  cnt (r13,IntKind.i64.wrap (i6 + 1))
 else
  lft (some out5)
noncomputable def Xg (f1 : OX) (l2 : Pg) (k3 : Int) : Option ((List Int)) :=
 (YP f1 k3).bind fun r4 =>
 Pq (fun s=>SU r4 f1 l2 k3 s.1 s.2) (([] : List Int),0)

noncomputable def YT (f1 : OX) (l2 : Pg) (k4 : Int) : Option ((Int) ⊕ (Int × Int × Bool)) :=
 bif (decide (k4 < (f1.Code.length : Int))) then
  (Xg f1 l2 k4).bind fun r5 =>
  bif (decide ((r5.length : Int) > 0)) then
   chk (0 ≤ (0 : Int) ∧ (0 : Int) < r5.length) <|
   ((r5)[(0 : Int).toNat]?).bind fun m_e6 =>
   lft (some (k4,m_e6,true))
  else
   cnt (IntKind.i64.wrap (k4 + 1))
 else
  lft (some (0,0,false))
noncomputable def ZO (f1 : OX) (l2 : Pg) : Option (Int × Int × Bool) :=
 (Xs f1 l2).bind fun r3 =>
 bif (!r3) then
  some (0,0,false)
 else
  Pq (fun s=>YT f1 l2 s) 0

noncomputable def VN (f1 : OX) (l2 : Pg) : Option (Int) :=
 (ZO f1 l2).bind fun r3 =>
 bif r3.2.2 then
  some 11
 else
  (Xs f1 l2).bind fun r4 =>
  bif (!r4) then
   some 11
  else
   some 0

noncomputable def RV (r14 : Int × Bool) (out15 : List (List Int)) (x_x19 : Int) (i16 : Int) (_x20 : Bool) (_x21 : Bool) (_x22 : Bool) (_x23 : Bool) : Option (((List (List Int)) × Int) ⊕ (((List (List Int)) × Int) ⊕ ((List (List Int)) × Int))) :=
 chk (0 ≤ r14.1 ∧ r14.1 < out15.length) <|
 ((out15)[r14.1.toNat]?).bind fun out_e24 =>
 (Sy out_e24 x_x19).bind fun r25 =>
 chk (0 ≤ x_x19 ∧ x_x19 < out15.length) <|
 ((out15)[x_x19.toNat]?).bind fun out_e26 =>
 (Sy out_e26 r14.1).bind fun r27 =>
 chk (0 ≤ r14.1 ∧ r14.1 < out15.length) <|
 ((out15)[r14.1.toNat]?).bind fun _ =>
 chk (0 ≤ x_x19 ∧ x_x19 < (out15.set r14.1.toNat r25).length) <|
 ((out15.set r14.1.toNat r25)[x_x19.toNat]?).bind fun _ =>
 cnt ((out15.set r14.1.toNat r25).set x_x19.toNat r27,IntKind.i64.wrap (i16 + 1))
noncomputable def Zc (l2 : Pg) (k6 : Int) (i16 : Int) (r14 : Int × Bool) (out15 : List (List Int)) (strict3 : Bool) (x_x13 : Pa) : Option (((List (List Int)) × Int) ⊕ (((List (List Int)) × Int) ⊕ ((List (List Int)) × Int))) :=
 (ixO l2.Out k6).bind fun x_x18 =>
 (ixO x_x18 i16).bind fun x_x19 =>
 bif (x_x19 == r14.1) then
  cnt (out15,IntKind.i64.wrap (i16 + 1))
 else
  bif (!strict3) then
   bif (x_x13.Op == 17) then
    bif (x_x13.B == x_x19) then
     cnt (out15,IntKind.i64.wrap (i16 + 1))
    else
     RV r14 out15 x_x19 i16 true (x_x13.Op == 17) true (x_x13.B == x_x19)
   else
    RV r14 out15 x_x19 i16 true (x_x13.Op == 17) false false
  else
   RV r14 out15 x_x19 i16 false false false false
noncomputable def SV (k6 : Int) (_x7 : Int) (_x8 : Int) (_x9 : Int) (_x10 : Int) (_x11 : Int) (out12 : List (List Int)) : Option (((List (List Int)) × Int) ⊕ ((List (List Int)) × Int)) :=
 cnt (out12,IntKind.i64.wrap (k6 + 1))
noncomputable def Wu (l2 : Pg) (k6 : Int) (r14 : Int × Bool) (strict3 : Bool) (x_x13 : Pa) (out15 : List (List Int)) (i16 : Int) : Option (((List (List Int)) × Int) ⊕ (((List (List Int)) × Int) ⊕ ((List (List Int)) × Int))) :=
 (ixO l2.Out k6).bind fun x_x17 =>
 bif (decide (i16 < (x_x17.length : Int))) then
  bif r14.2 then
   Zc l2 k6 i16 r14 out15 strict3 x_x13
  else
   lft (SV k6 x_x13.Op x_x13.A x_x13.B x_x13.C x_x13.Imm out15)
 else
  lft (SV k6 x_x13.Op x_x13.A x_x13.B x_x13.C x_x13.Imm out15)
noncomputable def Uv (l2 : Pg) (k6 : Int) (r14 : Int × Bool) (strict3 : Bool) (x_x13 : Pa) (out5 : List (List Int)) : Option (((List (List Int)) × Int) ⊕ ((List (List Int)) × Int)) :=
 Pq (fun s=>Wu l2 k6 r14 strict3 x_x13 s.1 s.2) (out5,0)
noncomputable def Zb (f1 : OX) (l2 : Pg) (strict3 : Bool) (out5 : List (List Int)) (k6 : Int) : Option (((List (List Int)) × Int) ⊕ ((List (List Int)) × Int)) :=
 bif (decide (k6 < (f1.Code.length : Int))) then
  (ixO f1.Code k6).bind fun x_x13 =>
  (Rk x_x13).bind fun r14 =>
  bif (x_x13.Op == 17) then
   bif (x_x13.A == x_x13.B) then
    SV k6 x_x13.Op x_x13.A x_x13.B x_x13.C x_x13.Imm out5
   else
    Uv l2 k6 r14 strict3 x_x13 out5
  else
   Uv l2 k6 r14 strict3 x_x13 out5
 else
  lft (some (out5,0))
noncomputable def Xt (f1 : OX) (l2 : Pg) (strict3 : Bool) : Option ((List (List Int)) × Int) :=
 (VN f1 l2).bind fun r4 =>
 bif (r4 != 0) then
  some (([] : List (List Int)),r4)
 else
  chk (0 ≤ (f1.Slots.length : Int) ∧ (f1.Slots.length : Int) ≤ 16777216) <|
  Pq (fun s=>Zb f1 l2 strict3 s.1 s.2) (List.replicate (f1.Slots.length : Int).toNat ([] : (List Int)),0)

noncomputable def ZQ (f1 : OX) (l2 : Pg) : Option ((List (List Int)) × Int) :=
 (Xt f1 l2 false).bind fun r3 =>
 some (r3.1,r3.2)

noncomputable def Wt (k3 : Int) (out4 : List PS) : Option (((List PS) × Int) ⊕ ((List PS))) :=
 cnt (out4,IntKind.i64.wrap (k3 + 1))
noncomputable def Za (out2 : List PS) (x_x5 : Pa) (k3 : Int) (old7 : Bool) (i8 : Int) : Option ((Bool × Int) ⊕ (((List PS) × Int) ⊕ ((List PS)))) :=
 bif (decide (i8 < (out2.length : Int))) then
  bif old7 then
   cnt (true,IntKind.i64.wrap (i8 + 1))
  else
   chk (0 ≤ i8 ∧ i8 < out2.length) <|
   ((out2)[i8.toNat]?).bind fun out_e9 =>
   cnt (((out_e9.a0 == x_x5.A) && ((out_e9.a1 == x_x5.B) && true)),IntKind.i64.wrap (i8 + 1))
 else
  lft (
   bif (!old7) then
    chk (out2.length + ([(PS.mk x_x5.A x_x5.B)] : List PS).length ≤ 16777216) <|
    Wt k3 (out2 ++ ([(PS.mk x_x5.A x_x5.B)] : List PS))
   else
    Wt k3 out2)
noncomputable def Uu (out2 : List PS) (x_x5 : Pa) (k3 : Int) (old6 : Bool) : Option (((List PS) × Int) ⊕ ((List PS))) :=
 Pq (fun s=>Za out2 x_x5 k3 s.1 s.2) (old6,0)
noncomputable def YZ (f1 : OX) (out2 : List PS) (k3 : Int) : Option (((List PS) × Int) ⊕ ((List PS))) :=
 bif (decide (k3 < (f1.Code.length : Int))) then
  (ixO f1.Code k3).bind fun x_x5 =>
  bif (x_x5.Op != 17) then
   Uu out2 x_x5 k3 true
  else
   Uu out2 x_x5 k3 (x_x5.A == x_x5.B)
 else
  lft (some out2)
noncomputable def ZR (f1 : OX) : Option ((List PS)) :=
 Pq (fun s=>YZ f1 s.1 s.2) (([] : List PS),0)

noncomputable def WK (to1 : (List Int)) (s2 : Int) (out3 : List Int) (t4 : Int) : Option (((List Int) × Int) ⊕ ((List Int))) :=
 bif (decide (t4 < (to1.length : Int))) then
  (ixO to1 t4).bind fun x_x5 =>
  bif (x_x5 == s2) then
   chk (out3.length + ([t4] : List Int).length ≤ 16777216) <|
   cnt (out3 ++ ([t4] : List Int),IntKind.i64.wrap (t4 + 1))
  else
   cnt (out3,IntKind.i64.wrap (t4 + 1))
 else
  lft (some out3)
noncomputable def TQ (to1 : (List Int)) (s2 : Int) : Option ((List Int)) :=
 Pq (fun s=>WK to1 s2 s.1 s.2) (([] : List Int),0)

noncomputable def Zj (i7 : Int) : Option ((Int) ⊕ (Bool)) :=
 cnt (IntKind.i64.wrap (i7 + 1))
noncomputable def Zi (r6 : (List Int)) (i7 : Int) (r5 : (List Int)) (g1 : (List (List Int))) (k8 : Int) : Option ((Int) ⊕ ((Int) ⊕ (Bool))) :=
 bif (decide (k8 < (r6.length : Int))) then
  chk (0 ≤ i7 ∧ i7 < r5.length) <|
  ((r5)[i7.toNat]?).bind fun x_e9 =>
  (ixO g1 x_e9).bind fun x_x10 =>
  chk (0 ≤ k8 ∧ k8 < r6.length) <|
  ((r6)[k8.toNat]?).bind fun y_e11 =>
  (Um x_x10 y_e11).bind fun r12 =>
  bif r12 then
   lft (lft (some false))
  else
   cnt (IntKind.i64.wrap (k8 + 1))
 else
  lft (Zj i7)
noncomputable def Zh (r5 : (List Int)) (r6 : (List Int)) (g1 : (List (List Int))) (i7 : Int) : Option ((Int) ⊕ (Bool)) :=
 bif (decide (i7 < (r5.length : Int))) then
  Pq (fun s=>Zi r6 i7 r5 g1 s) 0
 else
  lft (some true)
noncomputable def ZU (g1 : (List (List Int))) (to2 : (List Int)) (a3 : Int) (b4 : Int) : Option (Bool) :=
 (TQ to2 a3).bind fun r5 =>
 (TQ to2 b4).bind fun r6 =>
 Pq (fun s=>Zh r5 r6 g1 s) 0

noncomputable def SW (s17 : Int) (to16 : List Int) (to_e10 : Int) (to_e12 : Int) (x18 : Bool) : Option (((List Int) × Int) ⊕ (((List Int) × Int) ⊕ ((List Int)))) :=
 bif x18 then
  chk (0 ≤ s17 ∧ s17 < to16.length) <|
  ((to16)[s17.toNat]?).bind fun _ =>
  cnt (to16.set s17.toNat (Sm to_e10 to_e12),IntKind.i64.wrap (s17 + 1))
 else
  cnt (to16,IntKind.i64.wrap (s17 + 1))
noncomputable def Rf (i7 : Int) (to8 : List Int) : Option (((List Int) × Int) ⊕ ((List Int))) :=
 cnt (to8,IntKind.i64.wrap (i7 + 1))
noncomputable def WI (to_e10 : Int) (to_e12 : Int) (i7 : Int) (to16 : List Int) (s17 : Int) : Option (((List Int) × Int) ⊕ (((List Int) × Int) ⊕ ((List Int)))) :=
 bif (decide (s17 < (to16.length : Int))) then
  chk (0 ≤ s17 ∧ s17 < to16.length) <|
  ((to16)[s17.toNat]?).bind fun to_e19 =>
  bif (to_e19 == to_e10) then
   SW s17 to16 to_e10 to_e12 true
  else
   chk (0 ≤ s17 ∧ s17 < to16.length) <|
   ((to16)[s17.toNat]?).bind fun to_e20 =>
   SW s17 to16 to_e10 to_e12 (to_e20 == to_e12)
 else
  lft (Rf i7 to16)
noncomputable def WJ (to_e10 : Int) (to_e12 : Int) (i7 : Int) (to6 : List Int) (_x13 : Bool) (_x14 : Bool) : Option (((List Int) × Int) ⊕ ((List Int))) :=
 Pq (fun s=>WI to_e10 to_e12 i7 s.1 s.2) (to6,0)
noncomputable def WH (r5 : (List PS)) (g2 : (List (List Int))) (to6 : List Int) (i7 : Int) : Option (((List Int) × Int) ⊕ ((List Int))) :=
 bif (decide (i7 < (r5.length : Int))) then
  chk (0 ≤ i7 ∧ i7 < r5.length) <|
  ((r5)[i7.toNat]?).bind fun moves_e9 =>
  chk (0 ≤ moves_e9.a0 ∧ moves_e9.a0 < to6.length) <|
  ((to6)[moves_e9.a0.toNat]?).bind fun to_e10 =>
  chk (0 ≤ i7 ∧ i7 < r5.length) <|
  ((r5)[i7.toNat]?).bind fun moves_e11 =>
  chk (0 ≤ moves_e11.a1 ∧ moves_e11.a1 < to6.length) <|
  ((to6)[moves_e11.a1.toNat]?).bind fun to_e12 =>
  bif (to_e10 == to_e12) then
   Rf i7 to6
  else
   (ZU g2 to6 to_e10 to_e12).bind fun r15 =>
   bif (!r15) then
    Rf i7 to6
   else
    WJ to_e10 to_e12 i7 to6 r15 (!r15)
 else
  lft (some to6)
noncomputable def WG (f1 : OX) (g2 : (List (List Int))) (to3 : List Int) (s4 : Int) : Option (((List Int) × Int) ⊕ ((List Int))) :=
 bif (decide (s4 < (f1.Slots.length : Int))) then
  chk (to3.length + ([s4] : List Int).length ≤ 16777216) <|
  cnt (to3 ++ ([s4] : List Int),IntKind.i64.wrap (s4 + 1))
 else
  lft (
   (ZR f1).bind fun r5 =>
   Pq (fun s=>WH r5 g2 s.1 s.2) (to3,0))
noncomputable def Vg (f1 : OX) (g2 : (List (List Int))) : Option ((List Int)) :=
 Pq (fun s=>WG f1 g2 s.1 s.2) (([] : List Int),0)

noncomputable def Abu (f1 : OX) (l2 : Pg) (k3 : Int) : Option (Bool) :=
 (ixO f1.Code k3).bind fun x_x4 =>
 (Rk x_x4).bind fun r5 =>
 bif r5.2 then
  (ixO l2.Out k3).bind fun x_x6 =>
  (Um x_x6 r5.1).bind fun r7 =>
  some (!r7)
 else
  some false

noncomputable def Aao (f1 : OX) (l2 : Pg) (to3 : (List Int)) (out4 : List Bool) (k5 : Int) : Option (((List Bool) × Int) ⊕ ((List Bool))) :=
 bif (decide (k5 < (f1.Code.length : Int))) then
  (ixO f1.Code k5).bind fun x_x6 =>
  (Abu f1 l2 k5).bind fun r7 =>
  bif (!r7) then
   bif (x_x6.Op == 17) then
    (ixO to3 x_x6.A).bind fun x_x8 =>
    (ixO to3 x_x6.B).bind fun x_x9 =>
    chk (out4.length + ([(!(x_x8 == x_x9))] : List Bool).length ≤ 16777216) <|
    cnt (out4 ++ ([(!(x_x8 == x_x9))] : List Bool),IntKind.i64.wrap (k5 + 1))
   else
    chk (out4.length + ([true] : List Bool).length ≤ 16777216) <|
    cnt (out4 ++ ([true] : List Bool),IntKind.i64.wrap (k5 + 1))
  else
   chk (out4.length + ([false] : List Bool).length ≤ 16777216) <|
   cnt (out4 ++ ([false] : List Bool),IntKind.i64.wrap (k5 + 1))
 else
  lft (some out4)
noncomputable def Zk (f1 : OX) (l2 : Pg) (to3 : (List Int)) : Option ((List Bool)) :=
 Pq (fun s=>Aao f1 l2 to3 s.1 s.2) (([] : List Bool),0)

noncomputable def Ze (to2 : (List Int)) (f1 : OX) (s6 : Int) : Option ((Int) ⊕ (Bool)) :=
 bif (decide (s6 < (to2.length : Int))) then
  (ixO to2 s6).bind fun x_x7 =>
  (ixO f1.Slots x_x7).bind fun x_x8 =>
  (ixO f1.Slots s6).bind fun x_x9 =>
  bif (x_x8.Size != x_x9.Size) then
   lft (some false)
  else
   (ixO to2 s6).bind fun x_x10 =>
   (ixO to2 x_x10).bind fun x_x11 =>
   (ixO to2 s6).bind fun x_x12 =>
   bif (x_x11 != x_x12) then
    lft (some false)
   else
    cnt (IntKind.i64.wrap (s6 + 1))
 else
  lft (some true)
noncomputable def Zd (to2 : (List Int)) (f1 : OX) (s3 : Int) : Option ((Int) ⊕ (Bool)) :=
 bif (decide (s3 < (to2.length : Int))) then
  (ixO to2 s3).bind fun x_x4 =>
  bif (decide (x_x4 < 0)) then
   lft (some false)
  else
   (ixO to2 s3).bind fun x_x5 =>
   bif (decide (x_x5 ≥ (to2.length : Int))) then
    lft (some false)
   else
    cnt (IntKind.i64.wrap (s3 + 1))
 else
  lft (Pq (fun s=>Ze to2 f1 s) 0)
noncomputable def ZS (f1 : OX) (to2 : (List Int)) : Option (Bool) :=
 bif ((to2.length : Int) != (f1.Slots.length : Int)) then
  some false
 else
  Pq (fun s=>Zd to2 f1 s) 0

noncomputable def Zp (f1 : OX) (r2 : Pw) (k4 : Int) : Option ((Int) ⊕ (Int)) :=
 bif (decide (k4 < (f1.Code.length : Int))) then
  (ixO r2.Keep k4).bind fun x_x5 =>
  bif (!x_x5) then
   (ixO f1.Code k4).bind fun x_x6 =>
   (RA x_x6).bind fun r7 =>
   bif (!r7) then
    lft (some 12)
   else
    cnt (IntKind.i64.wrap (k4 + 1))
  else
   cnt (IntKind.i64.wrap (k4 + 1))
 else
  lft (some 0)
noncomputable def Zq (f1 : OX) (r2 : Pw) : Option (Int) :=
 Pq (fun s=>Zp f1 r2 s) 0
noncomputable def ZV (f1 : OX) (r2 : Pw) : Option (Int) :=
 (ZS f1 r2.To).bind fun r3 =>
 bif (!r3) then
  some 12
 else
  bif ((r2.Keep.length : Int) != (f1.Code.length : Int)) then
   some 12
  else
   Zq f1 r2

noncomputable def SA (s1 : Int) (to2 : (List Int)) : Option (Int) :=
 bif (decide (s1 < 0)) then
  some s1
 else
  bif (decide (s1 ≥ (to2.length : Int))) then
   some s1
  else
   (ixO to2 s1).bind fun x_x3 =>
   some x_x3

noncomputable def Vd (x1 : Pa) (to2 : (List Int)) : Option (Pa) :=
 bif (x1.Op == 15) then
  (SA x1.B to2).bind fun r3 =>
  some (Pa.mk x1.Op x1.A r3 x1.C x1.Imm)
 else
  bif (x1.Op == 16) then
   (SA x1.A to2).bind fun r4 =>
   some (Pa.mk x1.Op r4 x1.B x1.C x1.Imm)
  else
   bif (x1.Op == 17) then
    (SA x1.A to2).bind fun r5 =>
    (SA x1.B to2).bind fun r6 =>
    some (Pa.mk x1.Op r5 r6 x1.C x1.Imm)
   else
    some x1

noncomputable def Aar (r2 : Pw) (k4 : Int) (out3 : List Int) (f1 : OX) : Option (((List Int) × Int) ⊕ ((List Int))) :=
 (ixO r2.Keep k4).bind fun x_x5 =>
 bif (!x_x5) then
  cnt (out3,IntKind.i64.wrap (k4 + 1))
 else
  (ixO f1.Code k4).bind fun x_x6 =>
  (Vd x_x6 r2.To).bind fun r7 =>
  (Uk r7).bind fun r8 =>
  (Tk out3 r8).bind fun r9 =>
  (Rk r7).bind fun r10 =>
  bif r10.2 then
   (Sy r9 r10.1).bind fun r11 =>
   cnt (r11,IntKind.i64.wrap (k4 + 1))
  else
   cnt (r9,IntKind.i64.wrap (k4 + 1))
noncomputable def Aaq (f1 : OX) (r2 : Pw) (out3 : List Int) (k4 : Int) : Option (((List Int) × Int) ⊕ ((List Int))) :=
 bif (decide (k4 < (f1.Code.length : Int))) then
  bif (decide (k4 < (r2.Keep.length : Int))) then
   Aar r2 k4 out3 f1
  else
   lft (some out3)
 else
  lft (some out3)
noncomputable def Abv (f1 : OX) (r2 : Pw) : Option ((List Int)) :=
 Pq (fun s=>Aaq f1 r2 s.1 s.2) (([] : List Int),0)

noncomputable def WR (s4 : Int) (out5 : List Int) : Option (((List Int) × Int) ⊕ ((List Int))) :=
 cnt (out5,IntKind.i64.wrap (s4 + 1))
noncomputable def WO (used2 : (List Int)) (r1 : Pw) (s4 : Int) (out3 : List Int) (n6 : Int) (i7 : Int) : Option ((Int × Int) ⊕ (((List Int) × Int) ⊕ ((List Int)))) :=
 bif (decide (i7 < (used2.length : Int))) then
  (ixO used2 i7).bind fun x_x8 =>
  (ixO r1.To s4).bind fun x_x9 =>
  bif (x_x8 == x_x9) then
   cnt (i7,IntKind.i64.wrap (i7 + 1))
  else
   cnt (n6,IntKind.i64.wrap (i7 + 1))
 else
  lft (
   chk (out3.length + ([n6] : List Int).length ≤ 16777216) <|
   WR s4 (out3 ++ ([n6] : List Int)))
noncomputable def WN (r1 : Pw) (used2 : (List Int)) (out3 : List Int) (s4 : Int) : Option (((List Int) × Int) ⊕ ((List Int))) :=
 bif (decide (s4 < (r1.To.length : Int))) then
  Pq (fun s=>WO used2 r1 s4 out3 s.1 s.2) (0,0)
 else
  lft (some out3)
noncomputable def Xh (r1 : Pw) (used2 : (List Int)) : Option ((List Int)) :=
 Pq (fun s=>WN r1 used2 s.1 s.2) (([] : List Int),0)

noncomputable def XO (r1 : Pw) (out2 : List Int) (n3 : Int) (k4 : Int) : Option (((List Int) × Int × Int) ⊕ ((List Int))) :=
 bif (decide (k4 < (r1.Keep.length : Int))) then
  chk (out2.length + ([n3] : List Int).length ≤ 16777216) <|
  (ixO r1.Keep k4).bind fun x_x5 =>
  bif x_x5 then
   cnt (out2 ++ ([n3] : List Int),IntKind.i64.wrap (n3 + 1),IntKind.i64.wrap (k4 + 1))
  else
   cnt (out2 ++ ([n3] : List Int),n3,IntKind.i64.wrap (k4 + 1))
 else
  lft (some out2)
noncomputable def Yr (r1 : Pw) : Option ((List Int)) :=
 Pq (fun s=>XO r1 s.1 s.2.1 s.2.2) (([] : List Int),0,0)

noncomputable def Zo (i6 : Int) (slots7 : List Po) : Option (((List Po) × Int) ⊕ (OX × Int)) :=
 cnt (slots7,IntKind.i64.wrap (i6 + 1))
noncomputable def Wv (r11 : (List Int)) (f1 : OX) (out5 : List Po) (x_x9 : Po) (i6 : Int) (s12 : Int) (k13 : Int) : Option ((Int × Int) ⊕ (((List Po) × Int) ⊕ (OX × Int))) :=
 bif (decide (k13 < (r11.length : Int))) then
  chk (0 ≤ k13 ∧ k13 < r11.length) <|
  ((r11)[k13.toNat]?).bind fun l_e14 =>
  (ixO f1.Slots l_e14).bind fun x_x15 =>
  cnt (RH s12 x_x15.Align,IntKind.i64.wrap (k13 + 1))
 else
  lft (
   chk (([] : List Po).length + out5.length ≤ 16777216) <|
   chk ((([] : List Po) ++ out5).length + ([(Po.mk x_x9.Size s12)] : List Po).length ≤ 16777216) <|
   Zo i6 ((([] : List Po) ++ out5) ++ ([(Po.mk x_x9.Size s12)] : List Po)))
noncomputable def SX (out18 : List Pa) (r22 : Pa) (k19 : Int) (x23 : Int) (x24 : Int) : Option (((List Pa) × Int) ⊕ (OX × Int)) :=
 chk (([] : List Pa).length + out18.length ≤ 16777216) <|
 chk ((([] : List Pa) ++ out18).length + ([(Pa.mk r22.Op x23 x24 r22.C r22.Imm)] : List Pa).length ≤ 16777216) <|
 cnt ((([] : List Pa) ++ out18) ++ ([(Pa.mk r22.Op x23 x24 r22.C r22.Imm)] : List Pa),IntKind.i64.wrap (k19 + 1))
noncomputable def Ww (f1 : OX) (r2 : Pw) (r16 : (List Int)) (r17 : (List Int)) (out5 : List Po) (out18 : List Pa) (k19 : Int) : Option (((List Pa) × Int) ⊕ (OX × Int)) :=
 bif (decide (k19 < (f1.Code.length : Int))) then
  (ixO r2.Keep k19).bind fun x_x20 =>
  bif (!x_x20) then
   cnt (out18,IntKind.i64.wrap (k19 + 1))
  else
   (ixO f1.Code k19).bind fun x_x21 =>
   (Vd x_x21 r16).bind fun r22 =>
   bif (r22.Op == 20) then
    chk (0 ≤ r22.A ∧ r22.A < r17.length) <|
    ((r17)[r22.A.toNat]?).bind fun places_e25 =>
    SX out18 r22 k19 places_e25 r22.B
   else
    bif (r22.Op == 21) then
     chk (0 ≤ r22.B ∧ r22.B < r17.length) <|
     ((r17)[r22.B.toNat]?).bind fun places_e26 =>
     SX out18 r22 k19 r22.A places_e26
    else
     SX out18 r22 k19 r22.A r22.B
 else
  lft (some ((OX.mk f1.Params out5 out18),0))
noncomputable def Zn (r4 : (List Int)) (f1 : OX) (r2 : Pw) (out5 : List Po) (i6 : Int) : Option (((List Po) × Int) ⊕ (OX × Int)) :=
 bif (decide (i6 < (r4.length : Int))) then
  chk (0 ≤ i6 ∧ i6 < r4.length) <|
  ((r4)[i6.toNat]?).bind fun used_e8 =>
  (ixO f1.Slots used_e8).bind fun x_x9 =>
  chk (0 ≤ i6 ∧ i6 < r4.length) <|
  ((r4)[i6.toNat]?).bind fun used_e10 =>
  (TQ r2.To used_e10).bind fun r11 =>
  Pq (fun s=>Wv r11 f1 out5 x_x9 i6 s.1 s.2) (x_x9.Align,0)
 else
  lft (
   (Xh r2 r4).bind fun r16 =>
   (Yr r2).bind fun r17 =>
   Pq (fun s=>Ww f1 r2 r16 r17 out5 s.1 s.2) ([],0))
noncomputable def VO (f1 : OX) (r2 : Pw) : Option (OX × Int) :=
 (ZV f1 r2).bind fun r3 =>
 bif (r3 != 0) then
  some ((OX.mk 0 ([]) ([])),r3)
 else
  (Abv f1 r2).bind fun r4 =>
  Pq (fun s=>Zn r4 f1 r2 s.1 s.2) ([],0)

noncomputable def Abs (f1 : OX) (l2 : Pg) : Option ((List (List Int)) × Int) :=
 (Xt f1 l2 true).bind fun r3 =>
 some (r3.1,r3.2)

noncomputable def YX (x3 : Int) (_x4 : (List Int)) (_x5 : List Int) (_x6 : Bool) : Option ((Int) ⊕ (Bool)) :=
 cnt (IntKind.i64.wrap (x3 + 1))
noncomputable def YW (g1 : (List (List Int))) (x3 : Int) (n2 : Int) (x7 : (List Int)) (x8 : List Int) (x9 : Bool) (i14 : Int) : Option ((Int) ⊕ ((Int) ⊕ (Bool))) :=
 (ixO g1 x3).bind fun x_x15 =>
 bif (decide (i14 < (x_x15.length : Int))) then
  (ixO g1 x3).bind fun x_x16 =>
  (ixO x_x16 i14).bind fun x_x17 =>
  bif (decide (x_x17 ≥ n2)) then
   lft (lft (some false))
  else
   (ixO g1 x_x17).bind fun x_x18 =>
   (Um x_x18 x3).bind fun r19 =>
   bif (!r19) then
    lft (lft (some false))
   else
    cnt (IntKind.i64.wrap (i14 + 1))
 else
  lft (YX x3 x7 x8 x9)
noncomputable def YY (g1 : (List (List Int))) (x3 : Int) (n2 : Int) (x7 : (List Int)) (x8 : List Int) (x9 : Bool) : Option ((Int) ⊕ (Bool)) :=
 Pq (fun s=>YW g1 x3 n2 x7 x8 x9 s) 0
noncomputable def YV (n2 : Int) (g1 : (List (List Int))) (x3 : Int) : Option ((Int) ⊕ (Bool)) :=
 bif (decide (x3 < n2)) then
  (ixO g1 x3).bind fun x_x10 =>
  (Xp x_x10).bind fun r11 =>
  bif (!r11) then
   lft (some false)
  else
   (ixO g1 x3).bind fun x_x12 =>
   (Um x_x12 x3).bind fun r13 =>
   bif r13 then
    lft (some false)
   else
    YY g1 x3 n2 x_x12 x_x12 r13
 else
  lft (some true)
noncomputable def ZP (g1 : (List (List Int))) (n2 : Int) : Option (Bool) :=
 bif ((g1.length : Int) != n2) then
  some false
 else
  Pq (fun s=>YV n2 g1 s) 0

noncomputable def Yt (a1 : Po) (b2 : Po) : Option (Bool) :=
 bif (decide (a1.Align > b2.Align)) then
  some true
 else
  bif (a1.Align == b2.Align) then
   some (decide (a1.Size > b2.Size))
  else
   some false

noncomputable def Zt (i3 : Int) (out4 : List Int) : Option (((List Int) × Int) ⊕ ((List Int))) :=
 cnt (out4,IntKind.i64.wrap (i3 + 1))
noncomputable def Uw (out2 : List Int) (i3 : Int) (k5 : Int) : Option (((List Int) × Int) ⊕ ((List Int))) :=
 chk (0 ≤ k5 ∧ k5 ≤ out2.length) <|
 chk (([] : List Int).length + (out2.take k5.toNat).length ≤ 16777216) <|
 chk ((([] : List Int) ++ (out2.take k5.toNat)).length + ([i3] : List Int).length ≤ 16777216) <|
 chk (0 ≤ k5 ∧ k5 ≤ out2.length) <|
 chk (((([] : List Int) ++ (out2.take k5.toNat)) ++ ([i3] : List Int)).length + (out2.drop k5.toNat).length ≤ 16777216) <|
 Zt i3 (((([] : List Int) ++ (out2.take k5.toNat)) ++ ([i3] : List Int)) ++ (out2.drop k5.toNat))
noncomputable def Zs (s1 : (List Po)) (i3 : Int) (out2 : List Int) (k6 : Int) : Option ((Int) ⊕ (((List Int) × Int) ⊕ ((List Int)))) :=
 bif (decide (k6 > 0)) then
  (ixO s1 i3).bind fun x_x7 =>
  chk (0 ≤ (IntKind.i64.wrap (k6 - 1)) ∧ (IntKind.i64.wrap (k6 - 1)) < out2.length) <|
  ((out2)[(IntKind.i64.wrap (k6 - 1)).toNat]?).bind fun out_e8 =>
  (ixO s1 out_e8).bind fun x_x9 =>
  (Yt x_x7 x_x9).bind fun r10 =>
  bif r10 then
   cnt (IntKind.i64.wrap (k6 - 1))
  else
   lft (Uw out2 i3 k6)
 else
  lft (Uw out2 i3 k6)
noncomputable def Zr (s1 : (List Po)) (out2 : List Int) (i3 : Int) : Option (((List Int) × Int) ⊕ ((List Int))) :=
 bif (decide (i3 < (s1.length : Int))) then
  Pq (fun s=>Zs s1 i3 out2 s) (out2.length : Int)
 else
  lft (some out2)
noncomputable def ZW (s1 : (List Po)) : Option ((List Int)) :=
 Pq (fun s=>Zr s1 s.1 s.2) (([] : List Int),0)

noncomputable def QM (a1 : Pj) : Option (Bool) :=
 (Sa a1.Off).bind fun r2 =>
 bif r2 then
  (Sa a1.Size).bind fun r3 =>
  bif r3 then
   some (decide ((IntKind.i64.wrap (a1.Off + a1.Size)) ≤ 2147483647))
  else
   some false
 else
  some false

noncomputable def Sx (a1 : Pj) (b2 : Pj) : Option (Bool) :=
 (QM a1).bind fun r3 =>
 bif r3 then
  (QM b2).bind fun r4 =>
  bif r4 then
   bif (decide (a1.Size > 0)) then
    bif (decide (b2.Size > 0)) then
     bif (decide (a1.Off < (IntKind.i64.wrap (b2.Off + b2.Size)))) then
      some (decide (b2.Off < (IntKind.i64.wrap (a1.Off + a1.Size))))
     else
      some false
    else
     some false
   else
    some false
  else
   some false
 else
  some false

noncomputable def Aai (used1 : (List Pj)) (x2 : Pj) (i3 : Int) : Option ((Int) ⊕ (Bool)) :=
 bif (decide (i3 < (used1.length : Int))) then
  (ixO used1 i3).bind fun x_x4 =>
  (Sx x_x4 x2).bind fun r5 =>
  bif r5 then
   lft (some false)
  else
   cnt (IntKind.i64.wrap (i3 + 1))
 else
  lft (some true)
noncomputable def Abm (used1 : (List Pj)) (x2 : Pj) : Option (Bool) :=
 Pq (fun s=>Aai used1 x2 s) 0

noncomputable def Wh (align4 : Int) (size3 : Int) (used1 : (List Pj)) (found12 : Bool) (i13 : Int) (best11 : Int) (at14 : Int) : Option ((Int × Bool × Int) ⊕ (Int × Int)) :=
 (VL at14 align4).bind fun r17 =>
 bif (r17.2 == 0) then
  (QM (Pj.mk r17.1 size3)).bind fun r18 =>
  bif r18 then
   (Abm used1 (Pj.mk r17.1 size3)).bind fun r19 =>
   bif r19 then
    bif (!found12) then
     cnt (r17.1,true,IntKind.i64.wrap (i13 + 1))
    else
     bif (decide (r17.1 < best11)) then
      cnt (r17.1,true,IntKind.i64.wrap (i13 + 1))
     else
      cnt (best11,found12,IntKind.i64.wrap (i13 + 1))
   else
    cnt (best11,found12,IntKind.i64.wrap (i13 + 1))
  else
   cnt (best11,found12,IntKind.i64.wrap (i13 + 1))
 else
  cnt (best11,found12,IntKind.i64.wrap (i13 + 1))
noncomputable def Abh (used1 : (List Pj)) (align4 : Int) (size3 : Int) (from2 : Int) (best11 : Int) (found12 : Bool) (i13 : Int) : Option ((Int × Bool × Int) ⊕ (Int × Int)) :=
 bif (decide (i13 < (used1.length : Int))) then
  bif (decide (i13 ≥ 0)) then
   (ixO used1 i13).bind fun x_x15 =>
   (ixO used1 i13).bind fun x_x16 =>
   Wh align4 size3 used1 found12 i13 best11 (RH from2 (IntKind.i64.wrap (x_x15.Off + x_x16.Size)))
  else
   Wh align4 size3 used1 found12 i13 best11 from2
 else
  lft (
   bif (!found12) then
    some (0,9)
   else
    some (best11,0))
noncomputable def Abg (used1 : (List Pj)) (align4 : Int) (size3 : Int) (from2 : Int) (i8 : Int) : Option ((Int) ⊕ (Int × Int)) :=
 bif (decide (i8 < (used1.length : Int))) then
  (ixO used1 i8).bind fun x_x9 =>
  (QM x_x9).bind fun r10 =>
  bif (!r10) then
   lft (some (0,4))
  else
   cnt (IntKind.i64.wrap (i8 + 1))
 else
  lft (Pq (fun s=>Abh used1 align4 size3 from2 s.1 s.2.1 s.2.2) (0,false,(-1)))
noncomputable def Abi (used1 : (List Pj)) (align4 : Int) (size3 : Int) (from2 : Int) : Option (Int × Int) :=
 Pq (fun s=>Abg used1 align4 size3 from2 s) 0
noncomputable def Acl (used1 : (List Pj)) (from2 : Int) (size3 : Int) (align4 : Int) : Option (Int × Int) :=
 (Sa from2).bind fun r5 =>
 bif (!r5) then
  some (0,4)
 else
  (Sa size3).bind fun r6 =>
  bif (!r6) then
   some (0,4)
  else
   (Sb align4).bind fun r7 =>
   bif (!r7) then
    some (0,4)
   else
    Abi used1 align4 size3 from2

noncomputable def TK (y15 : Int) (off9 : List Int) (s1 : (List Po)) (used14 : List Pj) (x16 : Bool) : Option (((List Pj) × Int) ⊕ (((List Bool) × (List Int) × Int) ⊕ ((List Int) × Int))) :=
 bif x16 then
  chk (0 ≤ y15 ∧ y15 < off9.length) <|
  ((off9)[y15.toNat]?).bind fun off_e20 =>
  (ixO s1 y15).bind fun x_x21 =>
  chk (used14.length + ([(Pj.mk off_e20 x_x21.Size)] : List Pj).length ≤ 16777216) <|
  cnt (used14 ++ ([(Pj.mk off_e20 x_x21.Size)] : List Pj),IntKind.i64.wrap (y15 + 1))
 else
  cnt (used14,IntKind.i64.wrap (y15 + 1))
noncomputable def XU (i10 : Int) (done11 : List Bool) (off12 : List Int) : Option (((List Bool) × (List Int) × Int) ⊕ ((List Int) × Int)) :=
 cnt (done11,off12,IntKind.i64.wrap (i10 + 1))
noncomputable def XQ (s1 : (List Po)) (done8 : List Bool) (g2 : (List (List Int))) (order_e13 : Int) (off9 : List Int) (from3 : Int) (i10 : Int) (used14 : List Pj) (y15 : Int) : Option (((List Pj) × Int) ⊕ (((List Bool) × (List Int) × Int) ⊕ ((List Int) × Int))) :=
 bif (decide (y15 < (s1.length : Int))) then
  chk (0 ≤ y15 ∧ y15 < done8.length) <|
  ((done8)[y15.toNat]?).bind fun done_e17 =>
  bif done_e17 then
   (ixO g2 order_e13).bind fun x_x18 =>
   (Um x_x18 y15).bind fun r19 =>
   TK y15 off9 s1 used14 r19
  else
   TK y15 off9 s1 used14 false
 else
  lft (
   (ixO s1 order_e13).bind fun x_x22 =>
   (ixO s1 order_e13).bind fun x_x23 =>
   (Acl used14 from3 x_x22.Size x_x23.Align).bind fun r24 =>
   bif (r24.2 != 0) then
    lft (some (([] : List Int),r24.2))
   else
    chk (0 ≤ order_e13 ∧ order_e13 < off9.length) <|
    ((off9)[order_e13.toNat]?).bind fun _ =>
    chk (0 ≤ order_e13 ∧ order_e13 < done8.length) <|
    ((done8)[order_e13.toNat]?).bind fun _ =>
    XU i10 (done8.set order_e13.toNat true) (off9.set order_e13.toNat r24.1))
noncomputable def XP (r7 : (List Int)) (s1 : (List Po)) (g2 : (List (List Int))) (from3 : Int) (done8 : List Bool) (off9 : List Int) (i10 : Int) : Option (((List Bool) × (List Int) × Int) ⊕ ((List Int) × Int)) :=
 bif (decide (i10 < (r7.length : Int))) then
  chk (0 ≤ i10 ∧ i10 < r7.length) <|
  ((r7)[i10.toNat]?).bind fun order_e13 =>
  Pq (fun s=>XQ s1 done8 g2 order_e13 off9 from3 i10 s.1 s.2) (([] : List Pj),0)
 else
  lft (some (off9,0))
noncomputable def XR (s1 : (List Po)) (g2 : (List (List Int))) (from3 : Int) : Option ((List Int) × Int) :=
 chk (0 ≤ (s1.length : Int) ∧ (s1.length : Int) ≤ 16777216) <|
 chk (0 ≤ (s1.length : Int) ∧ (s1.length : Int) ≤ 16777216) <|
 (ZW s1).bind fun r7 =>
 Pq (fun s=>XP r7 s1 g2 from3 s.1 s.2.1 s.2.2) (List.replicate (s1.length : Int).toNat false,List.replicate (s1.length : Int).toNat (0 : Int),0)
noncomputable def Ys (s1 : (List Po)) (g2 : (List (List Int))) (from3 : Int) : Option ((List Int) × Int) :=
 (Xn s1).bind fun r4 =>
 bif (r4 != 0) then
  some (([] : List Int),r4)
 else
  (ZP g2 (s1.length : Int)).bind fun r5 =>
  bif (!r5) then
   some (([] : List Int),4)
  else
   (Sa from3).bind fun r6 =>
   bif (!r6) then
    some (([] : List Int),4)
   else
    XR s1 g2 from3

noncomputable def Aap (p1 : Ph) (i2 : Int) (f3 : OX) : Option (Ph) :=
 chk (([] : List OX).length + p1.Funcs.length ≤ 16777216) <|
 chk (0 ≤ i2 ∧ i2 < (([] : List OX) ++ p1.Funcs).length) <|
 ((([] : List OX) ++ p1.Funcs)[i2.toNat]?).bind fun _ =>
 some (Ph.mk ((([] : List OX) ++ p1.Funcs).set i2.toNat f3))

noncomputable def AcS (p1 : Ph) (i2 : Int) (f3 : OX) : Option (Ph) :=
 (Aap p1 i2 f3).bind fun r4 =>
 some r4

noncomputable def Abx (off2 : (List Int)) (i4 : Int) (s1 : (List Po)) (n3 : Int) : Option ((Int × Int) ⊕ (Int)) :=
 (ixO off2 i4).bind fun x_x5 =>
 (ixO s1 i4).bind fun x_x6 =>
 cnt (RH n3 (IntKind.i64.wrap (x_x5 + x_x6.Size)),IntKind.i64.wrap (i4 + 1))
noncomputable def Abw (s1 : (List Po)) (off2 : (List Int)) (n3 : Int) (i4 : Int) : Option ((Int × Int) ⊕ (Int)) :=
 bif (decide (i4 < (s1.length : Int))) then
  bif (decide (i4 < (off2.length : Int))) then
   Abx off2 i4 s1 n3
  else
   lft (some n3)
 else
  lft (some n3)
noncomputable def Acn (s1 : (List Po)) (off2 : (List Int)) : Option (Int) :=
 Pq (fun s=>Abw s1 off2 s.1 s.2) (0,0)

noncomputable def XV (x_x5 : OX) (off4 : (List Int)) (p1 : Ph) (i2 : Int) (align3 : Int) (k6 : Int) : Option ((Int) ⊕ (Pc × Int)) :=
 bif (decide (k6 < (x_x5.Slots.length : Int))) then
  (ixO off4 k6).bind fun x_x7 =>
  (ixO x_x5.Slots k6).bind fun x_x8 =>
  (QM (Pj.mk x_x7 x_x8.Size)).bind fun r9 =>
  bif (!r9) then
   lft (some ((Pc.mk 0 0 ([])),13))
  else
   cnt (IntKind.i64.wrap (k6 + 1))
 else
  lft (
   (Sq p1 i2).bind fun r10 =>
   (Acn x_x5.Slots off4).bind fun r11 =>
   (VL (RH r10 r11) align3).bind fun r12 =>
   bif (r12.2 != 0) then
    some ((Pc.mk 0 0 ([])),9)
   else
    bif (decide (r12.1 > 2147483519)) then
     some ((Pc.mk 0 0 ([])),9)
    else
     chk (([] : List Int).length + off4.length ≤ 16777216) <|
     some ((Pc.mk r10 r12.1 (([] : List Int) ++ off4)),0))
noncomputable def Yv (p1 : Ph) (i2 : Int) (align3 : Int) (off4 : (List Int)) : Option (Pc × Int) :=
 (ixO p1.Funcs i2).bind fun x_x5 =>
 bif ((off4.length : Int) != (x_x5.Slots.length : Int)) then
  some ((Pc.mk 0 0 ([])),13)
 else
  Pq (fun s=>XV x_x5 off4 p1 i2 align3 s) 0

noncomputable def Xj (p1 : Ph) (i2 : Int) : Option (Ul) :=
 (ixO p1.Funcs i2).bind fun x_x3 =>
 (Up x_x3).bind fun r4 =>
 (ZQ x_x3 r4).bind fun r5 =>
 (Vg x_x3 r5.1).bind fun r6 =>
 (Zk x_x3 r4 r6).bind fun r7 =>
 (VO x_x3 (Pw.mk r6 r7)).bind fun r8 =>
 (Up r8.1).bind fun r9 =>
 (Abs r8.1 r9).bind fun r10 =>
 (Sq p1 i2).bind fun r11 =>
 (Ys r8.1.Slots r10.1 r11).bind fun r12 =>
 bif (r12.2 != 0) then
  some (Ul.mk r4 (Pw.mk r6 r7) r9 (Pc.mk 0 0 ([])))
 else
  (AcS p1 i2 r8.1).bind fun r13 =>
  (Un p1).bind fun r14 =>
  (Yv r13 i2 r14 r12.1).bind fun r15 =>
  some (Ul.mk r4 (Pw.mk r6 r7) r9 r15.1)

noncomputable def Ro (r20 : Int × Mk) (x16 : List Int) (y17 : Int) (y18 : Int) (n19 : Int) (c30 : List Int) (c31 : Int) (x32 : Bool) : Option (((List Int) × Int × (List Int) × Int × Int × Int) ⊕ (Pc × Mk)) :=
 bif x32 then
  (Rm (Mk.mk c30 c31)).bind fun r34 =>
  chk (0 ≤ r20.1 ∧ r20.1 < x16.length) <|
  ((x16)[r20.1.toNat]?).bind fun _ =>
  cnt (r34.2.list,r34.2.at_,x16.set r20.1.toNat r34.1,y17,y18,IntKind.i64.wrap (n19 - 1))
 else
  cnt (c30,c31,x16,y17,y18,IntKind.i64.wrap (n19 - 1))
noncomputable def Rn (r20 : Int × Mk) (x16 : List Int) (r21 : Int × Mk) (y17 : Int) (y18 : Int) (n19 : Int) (x25 : Bool) : Option (((List Int) × Int × (List Int) × Int × Int × Int) ⊕ (Pc × Mk)) :=
 bif x25 then
  bif (decide (r20.1 < (x16.length : Int))) then
   (Pe r21.2 (x16.length : Int)).bind fun r26 =>
   chk (0 ≤ r26.1 ∧ r26.1 < x16.length) <|
   ((x16)[r26.1.toNat]?).bind fun x_e27 =>
   chk (0 ≤ r20.1 ∧ r20.1 < x16.length) <|
   ((x16)[r20.1.toNat]?).bind fun _ =>
   cnt (r26.2.list,r26.2.at_,x16.set r20.1.toNat x_e27,y17,y18,IntKind.i64.wrap (n19 - 1))
  else
   cnt (r21.2.list,r21.2.at_,x16,y17,y18,IntKind.i64.wrap (n19 - 1))
 else
  bif (r21.1 == 5) then
   (Pe r21.2 4).bind fun r29 =>
   cnt (r29.2.list,r29.2.at_,x16,y17,IntKind.i64.wrap (y18 + (IntKind.i64.wrap (16 * (IntKind.i64.wrap (r29.1 - 2))))),IntKind.i64.wrap (n19 - 1))
  else
   bif (r21.1 == 6) then
    bif (decide (r20.1 < (x16.length : Int))) then
     (Pe r21.2 3).bind fun r33 =>
     Ro r20 x16 y17 y18 n19 r33.2.list r33.2.at_ (r33.1 == 2)
    else
     Ro r20 x16 y17 y18 n19 r21.2.list r21.2.at_ false
   else
    bif (r21.1 == 7) then
     (Pe r21.2 8).bind fun r36 =>
     bif (r36.1 == 5) then
      (Rm r36.2).bind fun r37 =>
      cnt (r37.2.list,r37.2.at_,x16,r37.1,y18,IntKind.i64.wrap (n19 - 1))
     else
      bif (r36.1 == 6) then
       (Rm r36.2).bind fun r38 =>
       cnt (r38.2.list,r38.2.at_,x16,y17,r38.1,IntKind.i64.wrap (n19 - 1))
      else
       bif (r36.1 == 7) then
        (Pe r36.2 40).bind fun r39 =>
        chk (x16.length + ([r39.1] : List Int).length ≤ 16777216) <|
        cnt (r39.2.list,r39.2.at_,x16 ++ ([r39.1] : List Int),y17,y18,IntKind.i64.wrap (n19 - 1))
       else
        cnt (r36.2.list,r36.2.at_,x16,y17,y18,IntKind.i64.wrap (n19 - 1))
    else
     cnt (r21.2.list,r21.2.at_,x16,y17,y18,IntKind.i64.wrap (n19 - 1))
noncomputable def QD (r20 : Int × Mk) (x16 : List Int) (r21 : Int × Mk) (y17 : Int) (y18 : Int) (n19 : Int) (x22 : Bool) : Option (((List Int) × Int × (List Int) × Int × Int × Int) ⊕ (Pc × Mk)) :=
 bif x22 then
  bif (decide (r20.1 < (x16.length : Int))) then
   (Pe r21.2 6).bind fun r23 =>
   chk (0 ≤ r20.1 ∧ r20.1 < x16.length) <|
   ((x16)[r20.1.toNat]?).bind fun _ =>
   cnt (r23.2.list,r23.2.at_,x16.set r20.1.toNat (IntKind.i64.wrap (y17 + (IntKind.i64.wrap (8 * r23.1)))),y17,y18,IntKind.i64.wrap (n19 - 1))
  else
   cnt (r21.2.list,r21.2.at_,x16,y17,y18,IntKind.i64.wrap (n19 - 1))
 else
  bif (r21.1 == 3) then
   Rn r20 x16 r21 y17 y18 n19 (r21.1 == 3)
  else
   Rn r20 x16 r21 y17 y18 n19 (r21.1 == 4)
noncomputable def Ud (c14 : List Int) (c15 : Int) (x16 : List Int) (y17 : Int) (y18 : Int) (n19 : Int) : Option (((List Int) × Int × (List Int) × Int × Int × Int) ⊕ (Pc × Mk)) :=
 bif (decide (n19 > 0)) then
  (Pe (Mk.mk c14 c15) (RH 1 (x16.length : Int))).bind fun r20 =>
  (Pe r20.2 8).bind fun r21 =>
  bif (r21.1 == 0) then
   QD r20 x16 r21 y17 y18 n19 (r21.1 == 0)
  else
   bif (r21.1 == 1) then
    QD r20 x16 r21 y17 y18 n19 (r21.1 == 1)
   else
    QD r20 x16 r21 y17 y18 n19 (r21.1 == 2)
 else
  lft (some ((Pc.mk y17 y18 x16),(Mk.mk c14 c15)))
noncomputable def QC (c6 : List Int) (c7 : Int) (y8 : Int) (y9 : Int) (y10 : List Int) : Option (Pc × Mk) :=
 chk (([] : List Int).length + y10.length ≤ 16777216) <|
 (Pe (Mk.mk c6 c7) 4).bind fun r13 =>
 Pq (fun s=>Ud s.1 s.2.1 s.2.2.1 s.2.2.2.1 s.2.2.2.2.1 s.2.2.2.2.2) (r13.2.list,r13.2.at_,([] : List Int) ++ y10,y8,y9,r13.1)
noncomputable def TS (c1 : Mk) (p2 : Ph) (i3 : Int) (align4 : Int) : Option (Pc × Mk) :=
 (SY p2 i3 align4).bind fun r5 =>
 (Pe c1 3).bind fun r11 =>
 bif (r11.1 == 0) then
  (Xj p2 i3).bind fun r12 =>
  bif ((r12.Layout.Off.length : Int) == (r5.1.Off.length : Int)) then
   QC r11.2.list r11.2.at_ r12.Layout.Args r12.Layout.Size r12.Layout.Off
  else
   QC r11.2.list r11.2.at_ r5.1.Args r5.1.Size r5.1.Off
 else
  QC r11.2.list r11.2.at_ r5.1.Args r5.1.Size r5.1.Off

noncomputable def Us (r3 : Ph × Mk) (r4 : Int × Mk) (r5 : Int) (l8 : List (List Int)) (x9 : List Int) (x10 : Int) : Option (Ph × Int × Int × Pg × Pc × Mk) :=
 (TS (Mk.mk x9 x10) r3.1 r4.1 r5).bind fun r14 =>
 some (r3.1,r4.1,r5,(Pg.mk l8),r14.1,r14.2)
noncomputable def ZK (codes1 : (List Int)) : Option (Ph × Int × Int × Pg × Pc × Mk) :=
 (Adf codes1 300).bind fun r2 =>
 (Tp r2 3 14).bind fun r3 =>
 (Pe r3.2 (r3.1.Funcs.length : Int)).bind fun r4 =>
 (Un r3.1).bind fun r5 =>
 (ixO r3.1.Funcs r4.1).bind fun x_x6 =>
 (UB r4.2 x_x6).bind fun r7 =>
 (Pe r7.2 4).bind fun r11 =>
 bif (r11.1 == 3) then
  (ixO r3.1.Funcs r4.1).bind fun x_x12 =>
  (Vl r11.2 x_x12).bind fun r13 =>
  Us r3 r4 r5 r13.1.Out r13.2.list r13.2.at_
 else
  Us r3 r4 r5 r7.1.Out r11.2.list r11.2.at_

noncomputable def QN (n1 : Int) : Option (Bool) :=
 bif (decide (n1 ≥ 0)) then
  some (decide (n1 < 512))
 else
  some false

noncomputable def Rx (s1 : (List Int)) (x2 : Int) : Option ((Int) ⊕ (Bool)) :=
 bif (decide (x2 < (s1.length : Int))) then
  (ixO s1 x2).bind fun x_x3 =>
  (QN x_x3).bind fun r4 =>
  bif (!r4) then
   lft (some false)
  else
   bif (decide (x2 > 0)) then
    (ixO s1 (IntKind.i64.wrap (x2 - 1))).bind fun x_x5 =>
    bif (decide (x_x3 ≤ x_x5)) then
     lft (some false)
    else
     cnt (IntKind.i64.wrap (x2 + 1))
   else
    cnt (IntKind.i64.wrap (x2 + 1))
 else
  lft (some true)
noncomputable def Yd (s1 : (List Int)) : Option (Bool) :=
 Pq (fun s=>Rx s1 s) 0

noncomputable def RT (s1 : (List Int)) (cap2 : OX) : Option (Bool) :=
 (Yd s1).bind fun r3 =>
 bif (!r3) then
  some true
 else
  bif (decide ((s1.length : Int) > 0)) then
   (ixO s1 (IntKind.i64.wrap ((s1.length : Int) - 1))).bind fun x_x4 =>
   some (decide (x_x4 ≥ (cap2.Slots.length : Int)))
  else
   some false

noncomputable def Qp (s1 : (List (List Int))) (f2 : OX) (x3 : Int) : Option ((Int) ⊕ (Int)) :=
 bif (decide (x3 < (s1.length : Int))) then
  (ixO s1 x3).bind fun x_x4 =>
  (RT x_x4 f2).bind fun r5 =>
  bif r5 then
   lft (some x3)
  else
   cnt (IntKind.i64.wrap (x3 + 1))
 else
  lft (some (-1))
noncomputable def Qf (s1 : (List (List Int))) (f2 : OX) : Option (Int) :=
 Pq (fun s=>Qp s1 f2 s) 0

noncomputable def Qo (s1 : (List (List Int))) (f2 : OX) : Option (Bool) :=
 (Qf s1 f2).bind fun r3 =>
 some (decide (r3 ≥ 0))

noncomputable def SR (f1 : OX) (l2 : Pg) : Option (Bool) :=
 bif ((l2.Out.length : Int) == (f1.Code.length : Int)) then
  (Qo l2.Out f1).bind fun r3 =>
  some (!r3)
 else
  some false

noncomputable def YG (l1 : Pg) : Option (Pg) :=
 some l1

noncomputable def Zy (op1 : Int) : Option (Bool) :=
 bif (op1 == 20) then
  some true
 else
  bif (op1 == 23) then
   some true
  else
   some (op1 == 24)

noncomputable def Yj (x_x3 : Pa) (l4 : List Int) : Option ((List Int)) :=
 bif (x_x3.Op == 20) then
  chk (l4.length + ([x_x3.A] : List Int).length ≤ 16777216) <|
  chk ((l4 ++ ([x_x3.A] : List Int)).length < 4611686018427387904) <|
  chk ((XK (l4 ++ ([x_x3.A] : List Int))).length < 4611686018427387904) <|
  some (Lib.compact (XK (l4 ++ ([x_x3.A] : List Int))))
 else
  bif (x_x3.Op == 21) then
   chk (l4.length + ([x_x3.B] : List Int).length ≤ 16777216) <|
   chk ((l4 ++ ([x_x3.B] : List Int)).length < 4611686018427387904) <|
   chk ((XK (l4 ++ ([x_x3.B] : List Int))).length < 4611686018427387904) <|
   some (Lib.compact (XK (l4 ++ ([x_x3.B] : List Int))))
  else
   chk (l4.length < 4611686018427387904) <|
   chk ((XK l4).length < 4611686018427387904) <|
   some (Lib.compact (XK l4))
noncomputable def AaW (f1 : OX) (k2 : Int) : Option ((List Int)) :=
 (ixO f1.Code k2).bind fun x_x3 =>
 (Zy x_x3.Op).bind fun r5 =>
 bif (!r5) then
  chk (([] : List Int).length + ([IntKind.i64.wrap (k2 + 1)] : List Int).length ≤ 16777216) <|
  Yj x_x3 (([] : List Int) ++ ([IntKind.i64.wrap (k2 + 1)] : List Int))
 else
  Yj x_x3 ([] : List Int)
noncomputable def Aci (f1 : OX) (k2 : Int) : Option ((List Int)) :=
 bif (decide (k2 < 0)) then
  some ([] : List Int)
 else
  bif (decide (k2 ≥ (f1.Code.length : Int))) then
   some ([] : List Int)
  else
   AaW f1 k2

noncomputable def UU (j1 : Int) (cap2 : Pg) : Option ((List Int)) :=
 (ixO cap2.Out j1).bind fun x_x3 =>
 some x_x3

noncomputable def Uq (x1 : Pa) : Option (Int × Bool) :=
 bif (x1.Op == 16) then
  bif (x1.Op == 16) then
   some (x1.A,true)
  else
   some (0,false)
 else
  bif (x1.Op == 17) then
   some (x1.A,true)
  else
   some (0,false)

noncomputable def RK (s1 : OY) (n2 : Int) (in3 : Bool) : Option (OY) :=
 chk (0 ≤ ((IntKind.u64.wrap (n2)).tmod 64)) <|
 (QN n2).bind fun r4 =>
 bif (!r4) then
  some s1
 else
  bif in3 then
   chk (0 ≤ (IntKind.i64.wrap (n2.tdiv 64)) ∧ (IntKind.i64.wrap (n2.tdiv 64)) < 8) <|
   ((s1.toList)[(IntKind.i64.wrap (n2.tdiv 64)).toNat]?).bind fun s_e5 =>
   chk (0 ≤ (IntKind.i64.wrap (n2.tdiv 64)) ∧ (IntKind.i64.wrap (n2.tdiv 64)) < 8) <|
   ((s1.toList)[(IntKind.i64.wrap (n2.tdiv 64)).toNat]?).bind fun _ =>
   some (s1.set ((IntKind.i64.wrap (n2.tdiv 64)).toNat) (IntKind.u64.wrap ((BitVec.ofInt IntKind.u64.bits s_e5 ||| BitVec.ofInt IntKind.u64.bits (IntKind.u64.wrap (1 * 2 ^ (Nat.min ((IntKind.u64.wrap (n2)).tmod 64).toNat IntKind.u64.bits)))).toNat)))
  else
   chk (0 ≤ (IntKind.i64.wrap (n2.tdiv 64)) ∧ (IntKind.i64.wrap (n2.tdiv 64)) < 8) <|
   ((s1.toList)[(IntKind.i64.wrap (n2.tdiv 64)).toNat]?).bind fun s_e7 =>
   chk (0 ≤ (IntKind.i64.wrap (n2.tdiv 64)) ∧ (IntKind.i64.wrap (n2.tdiv 64)) < 8) <|
   ((s1.toList)[(IntKind.i64.wrap (n2.tdiv 64)).toNat]?).bind fun _ =>
   some (s1.set ((IntKind.i64.wrap (n2.tdiv 64)).toNat) (IntKind.u64.wrap ((BitVec.ofInt IntKind.u64.bits s_e7 &&& ~~~ BitVec.ofInt IntKind.u64.bits (IntKind.u64.wrap (1 * 2 ^ (Nat.min ((IntKind.u64.wrap (n2)).tmod 64).toNat IntKind.u64.bits)))).toNat)))

noncomputable def WA (l1 : (List Int)) (x2 : OY) (x3 : Int) : Option ((OY × Int) ⊕ (OY)) :=
 bif (decide (x3 < (l1.length : Int))) then
  (ixO l1 x3).bind fun x_x4 =>
  (RK x2 x_x4 true).bind fun r5 =>
  cnt (r5,IntKind.i64.wrap (x3 + 1))
 else
  lft (some x2)
noncomputable def Ri (l1 : (List Int)) : Option (OY) :=
 Pq (fun s=>WA l1 s.1 s.2) ((OY.mk 0 0 0 0 0 0 0 0),0)

noncomputable def Tc (x3 : Int) (l5 : List Int) (x6 : Int) : Option (((List Int) × Int) ⊕ (((List Int) × Int) ⊕ ((List Int) × OY))) :=
 bif (x6 != 0) then
  (AeT x6).bind fun r7 =>
  chk (l5.length + ([IntKind.i64.wrap ((IntKind.i64.wrap (64 * x3)) + r7)] : List Int).length ≤ 16777216) <|
  cnt (l5 ++ ([IntKind.i64.wrap ((IntKind.i64.wrap (64 * x3)) + r7)] : List Int),IntKind.u64.wrap ((BitVec.ofInt IntKind.u64.bits x6 &&& BitVec.ofInt IntKind.u64.bits (IntKind.u64.wrap (x6 - 1))).toNat))
 else
  lft (cnt (l5,IntKind.i64.wrap (x3 + 1)))
noncomputable def Tb (s1 : OY) (l2 : List Int) (x3 : Int) : Option (((List Int) × Int) ⊕ ((List Int) × OY)) :=
 bif (decide (x3 < 8)) then
  chk (0 ≤ x3 ∧ x3 < 8) <|
  ((s1.toList)[x3.toNat]?).bind fun s_e4 =>
  Pq (fun s=>Tc x3 s.1 s.2) (l2,s_e4)
 else
  lft (some (l2,s1))
noncomputable def Qq (s1 : OY) : Option ((List Int) × OY) :=
 Pq (fun s=>Tb s1 s.1 s.2) (([] : List Int),0)

noncomputable def UZ (s1 : (List Int)) (n2 : Int) : Option ((List Int)) :=
 (Ri s1).bind fun r3 =>
 (RK r3 n2 false).bind fun r4 =>
 (Qq r4).bind fun r5 =>
 some r5.1

noncomputable def Xm (x1 : Pa) : Option ((List Int)) :=
 bif (x1.Op == 15) then
  bif (x1.Op == 15) then
   some ([x1.B] : List Int)
  else
   some ([] : List Int)
 else
  bif (x1.Op == 17) then
   some ([x1.B] : List Int)
  else
   some ([] : List Int)

noncomputable def Ye (l1 : (List Int)) : Option ((List Int)) :=
 (Ri l1).bind fun r2 =>
 (Qq r2).bind fun r3 =>
 some r3.1

noncomputable def We (x1 : Int) (y2 : Int) : Option (Int) :=
 some (IntKind.u64.wrap ((BitVec.ofInt IntKind.u64.bits x1 ||| BitVec.ofInt IntKind.u64.bits y2).toNat))

noncomputable def Qn (s1 : OY) (t2 : OY) (x3 : OY) (x4 : Int) : Option ((OY × Int) ⊕ (OY × OY × OY)) :=
 bif (decide (x4 < 8)) then
  chk (0 ≤ x4 ∧ x4 < 8) <|
  ((s1.toList)[x4.toNat]?).bind fun s_e5 =>
  chk (0 ≤ x4 ∧ x4 < 8) <|
  ((t2.toList)[x4.toNat]?).bind fun t_e6 =>
  (We s_e5 t_e6).bind fun r7 =>
  chk (0 ≤ x4 ∧ x4 < 8) <|
  ((x3.toList)[x4.toNat]?).bind fun _ =>
  cnt ((x3.set x4.toNat r7),IntKind.i64.wrap (x4 + 1))
 else
  lft (some (x3,s1,t2))
noncomputable def Qx (s1 : OY) (t2 : OY) : Option (OY × OY × OY) :=
 Pq (fun s=>Qn s1 t2 s.1 s.2) ((OY.mk 0 0 0 0 0 0 0 0),0)

noncomputable def Tl (a1 : (List Int)) (b2 : (List Int)) : Option ((List Int)) :=
 (Ri a1).bind fun r3 =>
 (Ri b2).bind fun r4 =>
 (Qx r3 r4).bind fun r5 =>
 (Qq r5.1).bind fun r6 =>
 some r6.1

noncomputable def Ach (x1 : Pa) (out2 : (List Int)) : Option ((List Int)) :=
 (Uq x1).bind fun r3 =>
 bif r3.2 then
  (UZ out2 r3.1).bind fun r4 =>
  (Xm x1).bind fun r5 =>
  (Ye r5).bind fun r6 =>
  (Tl r4 r6).bind fun r7 =>
  some r7
 else
  (Xm x1).bind fun r8 =>
  (Ye r8).bind fun r9 =>
  (Tl out2 r9).bind fun r10 =>
  some r10

noncomputable def Wd (x1 : Int) (y2 : Int) : Option (Int) :=
 some (IntKind.u64.wrap ((BitVec.ofInt IntKind.u64.bits x1 &&& ~~~ BitVec.ofInt IntKind.u64.bits y2).toNat))

noncomputable def Qm (s1 : OY) (t2 : OY) (x3 : OY) (x4 : Int) : Option ((OY × Int) ⊕ (OY × OY × OY)) :=
 bif (decide (x4 < 8)) then
  chk (0 ≤ x4 ∧ x4 < 8) <|
  ((s1.toList)[x4.toNat]?).bind fun s_e5 =>
  chk (0 ≤ x4 ∧ x4 < 8) <|
  ((t2.toList)[x4.toNat]?).bind fun t_e6 =>
  (Wd s_e5 t_e6).bind fun r7 =>
  chk (0 ≤ x4 ∧ x4 < 8) <|
  ((x3.toList)[x4.toNat]?).bind fun _ =>
  cnt ((x3.set x4.toNat r7),IntKind.i64.wrap (x4 + 1))
 else
  lft (some (x3,s1,t2))
noncomputable def Qw (s1 : OY) (t2 : OY) : Option (OY × OY × OY) :=
 Pq (fun s=>Qm s1 t2 s.1 s.2) ((OY.mk 0 0 0 0 0 0 0 0),0)

noncomputable def Wc (a1 : (List Int)) (b2 : (List Int)) : Option ((List Int)) :=
 (Ri a1).bind fun r3 =>
 (Ri b2).bind fun r4 =>
 (Qw r3 r4).bind fun r5 =>
 (Qq r5.1).bind fun r6 =>
 some r6.1

noncomputable def RW (need1 : (List Int)) (cap2 : (List Int)) (cap3 : Pg) (cap4 : Int) : Option (Bool × (List Int)) :=
 (ixO cap3.Out cap4).bind fun x_x5 =>
 (Wc need1 x_x5).bind fun r6 =>
 (Tl cap2 r6).bind fun r7 =>
 some (true,r7)

noncomputable def PL (r7 : (List Int)) (f1 : OX) (set3 : Pg) (visit5 : Pg) (visit6 : Int) (x8 : List Int) (x9 : Int) : Option (((List Int) × Int) ⊕ (Bool × (List Int))) :=
 bif (decide (x9 < (r7.length : Int))) then
  chk (0 ≤ x9 ∧ x9 < r7.length) <|
  ((r7)[x9.toNat]?).bind fun x_e10 =>
  (ixO f1.Code x_e10).bind fun x_x11 =>
  (UU x_e10 set3).bind fun r12 =>
  (Ach x_x11 r12).bind fun r13 =>
  (RW r13 x8 visit5 visit6).bind fun r14 =>
  bif (!r14.1) then
   lft (some (false,r14.2))
  else
   cnt (r14.2,IntKind.i64.wrap (x9 + 1))
 else
  lft (some (true,x8))
noncomputable def Qe (f1 : OX) (k2 : Int) (set3 : Pg) (visit4 : (List Int)) (visit5 : Pg) (visit6 : Int) : Option (Bool × (List Int)) :=
 (Aci f1 k2).bind fun r7 =>
 Pq (fun s=>PL r7 f1 set3 visit5 visit6 s.1 s.2) (visit4,0)

noncomputable def Vx (f1 : OX) (l2 : Pg) (x4 : Int) : Option ((Int) ⊕ (Int × Int × Bool)) :=
 bif (decide (x4 < (f1.Code.length : Int))) then
  (YG l2).bind fun r5 =>
  (Qe f1 x4 r5 ([]) l2 x4).bind fun r6 =>
  bif (decide ((r6.2.length : Int) > 0)) then
   (ixO r6.2 0).bind fun x_x7 =>
   lft (some (x4,x_x7,true))
  else
   cnt (IntKind.i64.wrap (x4 + 1))
 else
  lft (some (0,0,false))
noncomputable def Vw (f1 : OX) (l2 : Pg) : Option (Int × Int × Bool) :=
 (SR f1 l2).bind fun r3 =>
 bif (!r3) then
  some (0,0,false)
 else
  Pq (fun s=>Vx f1 l2 s) 0

noncomputable def Vv (f1 : OX) (l2 : Pg) : Option (Int) :=
 (SR f1 l2).bind fun r3 =>
 bif (!r3) then
  some 11
 else
  (Vw f1 l2).bind fun r4 =>
  bif r4.2.2 then
   some 11
  else
   some 0

noncomputable def Rq (s1 : Pr) (l2 : Pg) : Option (Int) :=
 (Rr s1).bind fun r3 =>
 bif (r3 != 0) then
  some r3
 else
  (Vv s1.f l2).bind fun r4 =>
  bif (r4 != 0) then
   some 11
  else
   some 0

noncomputable def Aca (a1 : Pj) (b2 : Pj) : Option (Bool) :=
 some (decide ((RH a1.Off b2.Off) < (Sm (IntKind.i64.wrap (a1.Off + a1.Size)) (IntKind.i64.wrap (b2.Off + b2.Size)))))

noncomputable def Wf (a1 : Pj) (b2 : Pj) : Option (Bool) :=
 (UD a1).bind fun r3 =>
 bif r3 then
  (UD b2).bind fun r4 =>
  bif r4 then
   (Aca a1 b2).bind fun r5 =>
   some r5
  else
   some false
 else
  some false

noncomputable def SH (x_x8 : (List Int)) (r5 : Int × Bool) (s1 : Pr) (x9 : Int) : Option ((Int) ⊕ (Int × Bool)) :=
 bif (decide (x9 < (x_x8.length : Int))) then
  (ixO x_x8 x9).bind fun x_x10 =>
  bif (x_x10 != r5.1) then
   (Qb s1 x_x10).bind fun r11 =>
   (Qb s1 r5.1).bind fun r12 =>
   (Wf r11 r12).bind fun r13 =>
   bif r13 then
    lft (some (x_x10,true))
   else
    cnt (IntKind.i64.wrap (x9 + 1))
  else
   cnt (IntKind.i64.wrap (x9 + 1))
 else
  lft (some (0,false))
noncomputable def QB (l2 : Pg) (k3 : Int) (r5 : Int × Bool) (s1 : Pr) : Option (Int × Bool) :=
 (ixO l2.Out k3).bind fun x_x8 =>
 Pq (fun s=>SH x_x8 r5 s1 s) 0
noncomputable def Sg (s1 : Pr) (l2 : Pg) (k3 : Int) : Option (Int × Bool) :=
 (ixO s1.f.Code k3).bind fun x_x4 =>
 (Uq x_x4).bind fun r5 =>
 bif (!r5.2) then
  some (0,false)
 else
  bif (x_x4.Op == 17) then
   (ixO s1.y.Off x_x4.A).bind fun x_x6 =>
   (ixO s1.y.Off x_x4.B).bind fun x_x7 =>
   bif (x_x6 == x_x7) then
    some (0,false)
   else
    QB l2 k3 r5 s1
  else
   QB l2 k3 r5 s1

noncomputable def SI (s1 : Pr) (l2 : Pg) (x3 : Int) : Option ((Int) ⊕ (Int × Int × Bool)) :=
 bif (decide (x3 < (s1.f.Code.length : Int))) then
  (Sg s1 l2 x3).bind fun r4 =>
  bif r4.2 then
   lft (some (x3,r4.1,true))
  else
   cnt (IntKind.i64.wrap (x3 + 1))
 else
  lft (some (0,0,false))
noncomputable def Rp (s1 : Pr) (l2 : Pg) : Option (Int × Int × Bool) :=
 Pq (fun s=>SI s1 l2 s) 0

noncomputable def Yl (p1 : Ph) (i2 : Int) (align3 : Int) (l4 : Pg) (y5 : Pc) : Option (Int × Int × Bool) :=
 (ixO p1.Funcs i2).bind fun x_x6 =>
 (Rq (Pr.mk p1 i2 align3 x_x6 y5) l4).bind fun r7 =>
 bif (r7 != 0) then
  some (0,0,false)
 else
  (Rp (Pr.mk p1 i2 align3 x_x6 y5) l4).bind fun r8 =>
  some (r8.1,r8.2.1,r8.2.2)

noncomputable def Wi (a1 : Pj) (size2 : Int) : Option (Bool) :=
 (QM a1).bind fun r3 =>
 bif r3 then
  some (decide ((IntKind.i64.wrap (a1.Off + a1.Size)) ≤ size2))
 else
  some false

noncomputable def Zv (x_x6 : OX) (y4 : Pc) (align3 : Int) (r5 : Pc × Int) (k8 : Int) : Option ((Int) ⊕ (Int)) :=
 bif (decide (k8 < (x_x6.Slots.length : Int))) then
  (ixO y4.Off k8).bind fun x_x9 =>
  bif (decide (x_x9 < y4.Args)) then
   lft (some 13)
  else
   (ixO y4.Off k8).bind fun x_x10 =>
   (ixO x_x6.Slots k8).bind fun x_x11 =>
   chk (x_x11.Align ≠ 0) <|
   bif ((x_x10.tmod x_x11.Align) != 0) then
    lft (some 13)
   else
    (ixO y4.Off k8).bind fun x_x12 =>
    (ixO x_x6.Slots k8).bind fun x_x13 =>
    (Wi (Pj.mk x_x12 x_x13.Size) y4.Size).bind fun r14 =>
    bif (!r14) then
     lft (some 13)
    else
     cnt (IntKind.i64.wrap (k8 + 1))
 else
  lft (
   chk (align3 ≠ 0) <|
   bif ((y4.Size.tmod align3) != 0) then
    some 13
   else
    bif (decide (y4.Size < y4.Args)) then
     some 13
    else
     bif (decide (y4.Size > r5.1.Size)) then
      some 13
     else
      some 0)
noncomputable def Zw (x_x6 : OX) (y4 : Pc) (align3 : Int) (r5 : Pc × Int) : Option (Int) :=
 Pq (fun s=>Zv x_x6 y4 align3 r5 s) 0
noncomputable def VP (p1 : Ph) (i2 : Int) (align3 : Int) (y4 : Pc) : Option (Int) :=
 (SY p1 i2 align3).bind fun r5 =>
 bif (r5.2 != 0) then
  some r5.2
 else
  (ixO p1.Funcs i2).bind fun x_x6 =>
  (Sq p1 i2).bind fun r7 =>
  bif (y4.Args != r7) then
   some 13
  else
   bif ((y4.Off.length : Int) != (x_x6.Slots.length : Int)) then
    some 13
   else
    Zw x_x6 y4 align3 r5

noncomputable def Zx (l2 : Pg) (k4 : Int) (r6 : Int × Bool) (y3 : Pc) (f1 : OX) (i9 : Int) : Option ((Int) ⊕ (Int × Bool)) :=
 (ixO l2.Out k4).bind fun x_x10 =>
 bif (decide (i9 < (x_x10.length : Int))) then
  (ixO l2.Out k4).bind fun x_x11 =>
  (ixO x_x11 i9).bind fun x_x12 =>
  bif (x_x12 != r6.1) then
   (ixO y3.Off x_x12).bind fun x_x13 =>
   (ixO f1.Slots x_x12).bind fun x_x14 =>
   (ixO y3.Off r6.1).bind fun x_x15 =>
   (ixO f1.Slots r6.1).bind fun x_x16 =>
   (Sx (Pj.mk x_x13 x_x14.Size) (Pj.mk x_x15 x_x16.Size)).bind fun r17 =>
   bif r17 then
    lft (some (x_x12,true))
   else
    cnt (IntKind.i64.wrap (i9 + 1))
  else
   cnt (IntKind.i64.wrap (i9 + 1))
 else
  lft (some (0,false))
noncomputable def Uy (l2 : Pg) (k4 : Int) (r6 : Int × Bool) (y3 : Pc) (f1 : OX) : Option (Int × Bool) :=
 Pq (fun s=>Zx l2 k4 r6 y3 f1 s) 0
noncomputable def ZY (f1 : OX) (l2 : Pg) (y3 : Pc) (k4 : Int) : Option (Int × Bool) :=
 (ixO f1.Code k4).bind fun x_x5 =>
 (Rk x_x5).bind fun r6 =>
 bif (!r6.2) then
  some (0,false)
 else
  bif (x_x5.Op == 17) then
   (ixO y3.Off x_x5.A).bind fun x_x7 =>
   (ixO y3.Off x_x5.B).bind fun x_x8 =>
   bif (x_x7 == x_x8) then
    some (0,false)
   else
    Uy l2 k4 r6 y3 f1
  else
   Uy l2 k4 r6 y3 f1

noncomputable def Zu (p1 : Ph) (i2 : Int) (l4 : Pg) (y5 : Pc) (k9 : Int) : Option ((Int) ⊕ (Int × Int × Bool)) :=
 (ixO p1.Funcs i2).bind fun x_x10 =>
 bif (decide (k9 < (x_x10.Code.length : Int))) then
  (ixO p1.Funcs i2).bind fun x_x11 =>
  (ZY x_x11 l4 y5 k9).bind fun r12 =>
  bif r12.2 then
   lft (some (k9,r12.1,true))
  else
   cnt (IntKind.i64.wrap (k9 + 1))
 else
  lft (some (0,0,false))
noncomputable def Wx (p1 : Ph) (i2 : Int) (l4 : Pg) (y5 : Pc) : Option (Int × Int × Bool) :=
 Pq (fun s=>Zu p1 i2 l4 y5 s) 0
noncomputable def Xu (p1 : Ph) (i2 : Int) (align3 : Int) (l4 : Pg) (y5 : Pc) : Option (Int × Int × Bool) :=
 (VP p1 i2 align3 y5).bind fun r6 =>
 bif (r6 != 0) then
  some (0,0,false)
 else
  (ixO p1.Funcs i2).bind fun x_x7 =>
  (VN x_x7 l4).bind fun r8 =>
  bif (r8 != 0) then
   some (0,0,false)
  else
   Wx p1 i2 l4 y5

noncomputable def Yk (p1 : Ph) (i2 : Int) (align3 : Int) (l4 : Pg) (y5 : Pc) : Option (Int) :=
 (ixO p1.Funcs i2).bind fun x_x6 =>
 (Rq (Pr.mk p1 i2 align3 x_x6 y5) l4).bind fun r7 =>
 bif (r7 != 0) then
  some r7
 else
  (Rp (Pr.mk p1 i2 align3 x_x6 y5) l4).bind fun r8 =>
  bif r8.2.2 then
   some 13
  else
   some 0

noncomputable def ZX (p1 : Ph) (i2 : Int) (align3 : Int) (l4 : Pg) (y5 : Pc) : Option (Int) :=
 (VP p1 i2 align3 y5).bind fun r6 =>
 bif (r6 != 0) then
  some r6
 else
  (ixO p1.Funcs i2).bind fun x_x7 =>
  (VN x_x7 l4).bind fun r8 =>
  bif (r8 != 0) then
   some r8
  else
   (Xu p1 i2 align3 l4 y5).bind fun r9 =>
   bif r9.2.2 then
    some 13
   else
    some 0

noncomputable def Ug (r6 : Ph × Int × Int × Pg × Pc × Mk) (live3 : Pg) (x_e8 : Pc) (x7 : Int) (x9 : Int) : Option ((Int) ⊕ ((Int) ⊕ (Bool))) :=
 bif (decide (x9 < (([r6.2.2.2.1,live3] : List Pg).length : Int))) then
  chk (0 ≤ x9 ∧ x9 < ([r6.2.2.2.1,live3] : List Pg).length) <|
  ((([r6.2.2.2.1,live3] : List Pg))[x9.toNat]?).bind fun x_e10 =>
  (Yl r6.1 r6.2.1 r6.2.2.1 x_e10 x_e8).bind fun r11 =>
  (Xu r6.1 r6.2.1 r6.2.2.1 x_e10 x_e8).bind fun r12 =>
  (Yk r6.1 r6.2.1 r6.2.2.1 x_e10 x_e8).bind fun r13 =>
  (ZX r6.1 r6.2.1 r6.2.2.1 x_e10 x_e8).bind fun r14 =>
  bif (r13 != r14) then
   lft (lft (some false))
  else
   (Sf r6.1 r6.2.1 r6.2.2.1 x_e8).bind fun r15 =>
   (VP r6.1 r6.2.1 r6.2.2.1 x_e8).bind fun r16 =>
   bif (r15 != r16) then
    lft (lft (some false))
   else
    bif (r11.1 != r12.1) then
     lft (lft (some false))
    else
     bif (r11.2.1 != r12.2.1) then
      lft (lft (some false))
     else
      bif (!(r11.2.2 == r12.2.2)) then
       lft (lft (some false))
      else
       cnt (IntKind.i64.wrap (x9 + 1))
 else
  lft (cnt (IntKind.i64.wrap (x7 + 1)))
noncomputable def Uf (r6 : Ph × Int × Int × Pg × Pc × Mk) (raw2 : Pc) (live3 : Pg) (x7 : Int) : Option ((Int) ⊕ (Bool)) :=
 bif (decide (x7 < (([r6.2.2.2.2.1,raw2] : List Pc).length : Int))) then
  chk (0 ≤ x7 ∧ x7 < ([r6.2.2.2.2.1,raw2] : List Pc).length) <|
  ((([r6.2.2.2.2.1,raw2] : List Pc))[x7.toNat]?).bind fun x_e8 =>
  Pq (fun s=>Ug r6 live3 x_e8 x7 s) 0
 else
  lft (some true)
noncomputable def Uh (codes1 : (List Int)) (raw2 : Pc) (live3 : Pg) : Option (Bool) :=
 (ZK codes1).bind fun r6 =>
 Pq (fun s=>Uf r6 raw2 live3 s) 0
noncomputable def QE (raw2 : Pc) (live3 : Pg) (codes1 : (List Int)) (x4 : Bool) : Option (Bool) :=
 bif x4 then
  bif (decide ((raw2.Off.length : Int) > 600)) then
   some true
  else
   some (decide ((live3.Out.length : Int) > 100))
 else
  Uh codes1 raw2 live3
noncomputable def TV (codes1 : (List Int)) (raw2 : Pc) (live3 : Pg) : Option (Bool) :=
 (ZJ).bind fun r5 =>
 bif (!r5) then
  QE raw2 live3 codes1 true
 else
  bif (decide ((raw2.Off.length : Int) > 600)) then
   QE raw2 live3 codes1 true
  else
   QE raw2 live3 codes1 (decide ((live3.Out.length : Int) > 100))

end Go.Proofs.YtnldnldmgceooaaGreatDoor
