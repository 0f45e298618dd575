/-
 The programs on typed data; written by a program (dx.py).
-/
import Derived.Test.YtcelninhkmhjkaaDoorDxT
namespace Go.Proofs.YtcelninhkmhjkaaDoor
open Go Go.Dw Go.Proofs
set_option maxRecDepth 100000
noncomputable def Ql (op1 : Int) : Option (Bool) :=
 bif (op1 == 20) then
  some true
 else
  bif (op1 == 23) then
   some true
  else
   some (op1 == 24)

noncomputable def Rr (x_x3 : LS) (l4 : List Int) : Option ((List Int)) :=
 bif (x_x3.Op == 20) then
  chk (l4.length + ([x_x3.A] : List Int).length ≤ 16777216) <|
  chk ((l4 ++ ([x_x3.A] : List Int)).length < 4611686018427387904) <|
  chk ((Nm (l4 ++ ([x_x3.A] : List Int))).length < 4611686018427387904) <|
  some (Lib.compact (Nm (l4 ++ ([x_x3.A] : List Int))))
 else
  bif (x_x3.Op == 21) then
   chk (l4.length + ([x_x3.B] : List Int).length ≤ 16777216) <|
   chk ((l4 ++ ([x_x3.B] : List Int)).length < 4611686018427387904) <|
   chk ((Nm (l4 ++ ([x_x3.B] : List Int))).length < 4611686018427387904) <|
   some (Lib.compact (Nm (l4 ++ ([x_x3.B] : List Int))))
  else
   chk (l4.length < 4611686018427387904) <|
   chk ((Nm l4).length < 4611686018427387904) <|
   some (Lib.compact (Nm l4))
noncomputable def Te (f1 : LY) (k2 : Int) : Option ((List Int)) :=
 (ixO f1.Code k2).bind fun x_x3 =>
 (Ql x_x3.Op).bind fun r5 =>
 bif (!r5) then
  chk (([] : List Int).length + ([IntKind.i64.wrap (k2 + 1)] : List Int).length ≤ 16777216) <|
  Rr x_x3 (([] : List Int) ++ ([IntKind.i64.wrap (k2 + 1)] : List Int))
 else
  Rr x_x3 ([] : List Int)
noncomputable def Rq (f1 : LY) (k2 : Int) : Option ((List Int)) :=
 bif (decide (k2 < 0)) then
  some ([] : List Int)
 else
  bif (decide (k2 ≥ (f1.Code.length : Int))) then
   some ([] : List Int)
  else
   Te f1 k2

noncomputable def RH (r4 : (List Int)) (x3 : Int) (l5 : List (List Int)) (x6 : Int) : Option (((List (List Int)) × Int) ⊕ (((List (List Int)) × Int) ⊕ ((List (List Int))))) :=
 bif (decide (x6 < (r4.length : Int))) then
  chk (0 ≤ x6 ∧ x6 < r4.length) <|
  ((r4)[x6.toNat]?).bind fun x_e7 =>
  chk (0 ≤ x_e7 ∧ x_e7 < l5.length) <|
  ((l5)[x_e7.toNat]?).bind fun l_e8 =>
  chk (l_e8.length + ([x3] : List Int).length ≤ 16777216) <|
  chk (0 ≤ x_e7 ∧ x_e7 < l5.length) <|
  cnt (l5.set x_e7.toNat (l_e8 ++ ([x3] : List Int)),IntKind.i64.wrap (x6 + 1))
 else
  lft (cnt (l5,IntKind.i64.wrap (x3 + 1)))
noncomputable def RG (f1 : LY) (l2 : List (List Int)) (x3 : Int) : Option (((List (List Int)) × Int) ⊕ ((List (List Int)))) :=
 bif (decide (x3 < (f1.Code.length : Int))) then
  (Rq f1 x3).bind fun r4 =>
  MF (fun s=>RH r4 x3 s.1 s.2) (l2,0)
 else
  lft (some l2)
noncomputable def PS (f1 : LY) : Option ((List (List Int))) :=
 chk (0 ≤ (f1.Code.length : Int) ∧ (f1.Code.length : Int) ≤ 16777216) <|
 MF (fun s=>RG f1 s.1 s.2) (List.replicate (f1.Code.length : Int).toNat ([] : (List Int)),0)

noncomputable def OT (x1 : LS) : Option (Int × Bool) :=
 bif (x1.Op == 16) then
  bif (x1.Op == 16) then
   some (x1.A,true)
  else
   some (0,false)
 else
  bif (x1.Op == 17) then
   some (x1.A,true)
  else
   some (0,false)

noncomputable def Og (n1 : Int) : Option (Bool) :=
 bif (decide (n1 ≥ 0)) then
  some (decide (n1 < 512))
 else
  some false

noncomputable def Ns (s1 : LV) (n2 : Int) (in3 : Bool) : Option (LV) :=
 chk (0 ≤ ((IntKind.u64.wrap (n2)).tmod 64)) <|
 (Og n2).bind fun r4 =>
 bif (!r4) then
  some s1
 else
  bif in3 then
   chk (0 ≤ (IntKind.i64.wrap (n2.tdiv 64)) ∧ (IntKind.i64.wrap (n2.tdiv 64)) < 8) <|
   ((s1.toList)[(IntKind.i64.wrap (n2.tdiv 64)).toNat]?).bind fun s_e5 =>
   chk (0 ≤ (IntKind.i64.wrap (n2.tdiv 64)) ∧ (IntKind.i64.wrap (n2.tdiv 64)) < 8) <|
   ((s1.toList)[(IntKind.i64.wrap (n2.tdiv 64)).toNat]?).bind fun _ =>
   some (s1.set ((IntKind.i64.wrap (n2.tdiv 64)).toNat) (IntKind.u64.wrap ((BitVec.ofInt IntKind.u64.bits s_e5 ||| BitVec.ofInt IntKind.u64.bits (IntKind.u64.wrap (1 * 2 ^ (Nat.min ((IntKind.u64.wrap (n2)).tmod 64).toNat IntKind.u64.bits)))).toNat)))
  else
   chk (0 ≤ (IntKind.i64.wrap (n2.tdiv 64)) ∧ (IntKind.i64.wrap (n2.tdiv 64)) < 8) <|
   ((s1.toList)[(IntKind.i64.wrap (n2.tdiv 64)).toNat]?).bind fun s_e7 =>
   chk (0 ≤ (IntKind.i64.wrap (n2.tdiv 64)) ∧ (IntKind.i64.wrap (n2.tdiv 64)) < 8) <|
   ((s1.toList)[(IntKind.i64.wrap (n2.tdiv 64)).toNat]?).bind fun _ =>
   some (s1.set ((IntKind.i64.wrap (n2.tdiv 64)).toNat) (IntKind.u64.wrap ((BitVec.ofInt IntKind.u64.bits s_e7 &&& ~~~ BitVec.ofInt IntKind.u64.bits (IntKind.u64.wrap (1 * 2 ^ (Nat.min ((IntKind.u64.wrap (n2)).tmod 64).toNat IntKind.u64.bits)))).toNat)))

noncomputable def Qq (l1 : (List Int)) (x2 : LV) (x3 : Int) : Option ((LV × Int) ⊕ (LV)) :=
 bif (decide (x3 < (l1.length : Int))) then
  (ixO l1 x3).bind fun x_x4 =>
  (Ns x2 x_x4 true).bind fun r5 =>
  cnt (r5,IntKind.i64.wrap (x3 + 1))
 else
  lft (some x2)
noncomputable def NI (l1 : (List Int)) : Option (LV) :=
 MF (fun s=>Qq l1 s.1 s.2) ((LV.mk 0 0 0 0 0 0 0 0),0)

noncomputable def Oo (x3 : Int) (l5 : List Int) (x6 : Int) : Option (((List Int) × Int) ⊕ (((List Int) × Int) ⊕ ((List Int) × LV))) :=
 bif (x6 != 0) then
  (Xt x6).bind fun r7 =>
  chk (l5.length + ([IntKind.i64.wrap ((IntKind.i64.wrap (64 * x3)) + r7)] : List Int).length ≤ 16777216) <|
  cnt (l5 ++ ([IntKind.i64.wrap ((IntKind.i64.wrap (64 * x3)) + r7)] : List Int),IntKind.u64.wrap ((BitVec.ofInt IntKind.u64.bits x6 &&& BitVec.ofInt IntKind.u64.bits (IntKind.u64.wrap (x6 - 1))).toNat))
 else
  lft (cnt (l5,IntKind.i64.wrap (x3 + 1)))
noncomputable def On (s1 : LV) (l2 : List Int) (x3 : Int) : Option (((List Int) × Int) ⊕ ((List Int) × LV)) :=
 bif (decide (x3 < 8)) then
  chk (0 ≤ x3 ∧ x3 < 8) <|
  ((s1.toList)[x3.toNat]?).bind fun s_e4 =>
  MF (fun s=>Oo x3 s.1 s.2) (l2,s_e4)
 else
  lft (some (l2,s1))
noncomputable def MZ (s1 : LV) : Option ((List Int) × LV) :=
 MF (fun s=>On s1 s.1 s.2) (([] : List Int),0)

noncomputable def OI (s1 : (List Int)) (n2 : Int) : Option ((List Int)) :=
 (NI s1).bind fun r3 =>
 (Ns r3 n2 false).bind fun r4 =>
 (MZ r4).bind fun r5 =>
 some r5.1

noncomputable def PR (x1 : LS) : Option ((List Int)) :=
 bif (x1.Op == 15) then
  bif (x1.Op == 15) then
   some ([x1.B] : List Int)
  else
   some ([] : List Int)
 else
  bif (x1.Op == 17) then
   some ([x1.B] : List Int)
  else
   some ([] : List Int)

noncomputable def Qp (l1 : (List Int)) : Option ((List Int)) :=
 (NI l1).bind fun r2 =>
 (MZ r2).bind fun r3 =>
 some r3.1

noncomputable def OR (x1 : Int) (y2 : Int) : Option (Int) :=
 some (IntKind.u64.wrap ((BitVec.ofInt IntKind.u64.bits x1 ||| BitVec.ofInt IntKind.u64.bits y2).toNat))

noncomputable def MX (s1 : LV) (t2 : LV) (x3 : LV) (x4 : Int) : Option ((LV × Int) ⊕ (LV × LV × LV)) :=
 bif (decide (x4 < 8)) then
  chk (0 ≤ x4 ∧ x4 < 8) <|
  ((s1.toList)[x4.toNat]?).bind fun s_e5 =>
  chk (0 ≤ x4 ∧ x4 < 8) <|
  ((t2.toList)[x4.toNat]?).bind fun t_e6 =>
  (OR s_e5 t_e6).bind fun r7 =>
  chk (0 ≤ x4 ∧ x4 < 8) <|
  ((x3.toList)[x4.toNat]?).bind fun _ =>
  cnt ((x3.set x4.toNat r7),IntKind.i64.wrap (x4 + 1))
 else
  lft (some (x3,s1,t2))
noncomputable def MV (s1 : LV) (t2 : LV) : Option (LV × LV × LV) :=
 MF (fun s=>MX s1 t2 s.1 s.2) ((LV.mk 0 0 0 0 0 0 0 0),0)

noncomputable def NZ (a1 : (List Int)) (b2 : (List Int)) : Option ((List Int)) :=
 (NI a1).bind fun r3 =>
 (NI b2).bind fun r4 =>
 (MV r3 r4).bind fun r5 =>
 (MZ r5.1).bind fun r6 =>
 some r6.1

noncomputable def SM (x1 : LS) (out2 : (List Int)) : Option ((List Int)) :=
 (OT x1).bind fun r3 =>
 bif r3.2 then
  (OI out2 r3.1).bind fun r4 =>
  (PR x1).bind fun r5 =>
  (Qp r5).bind fun r6 =>
  (NZ r4 r6).bind fun r7 =>
  some r7
 else
  (PR x1).bind fun r8 =>
  (Qp r8).bind fun r9 =>
  (NZ out2 r9).bind fun r10 =>
  some r10

noncomputable def Nz (s11 : (List Int)) (s22 : (List Int)) (x3 : Int) : Option ((Int) ⊕ (Bool)) :=
 bif (decide (x3 < (s11.length : Int))) then
  (ixO s11 x3).bind fun x_x4 =>
  (ixO s22 x3).bind fun x_x5 =>
  bif (x_x4 != x_x5) then
   lft (some false)
  else
   cnt (IntKind.i64.wrap (x3 + 1))
 else
  lft (some true)
noncomputable def Nh (s11 : (List Int)) (s22 : (List Int)) : Option (Bool) :=
 bif ((s11.length : Int) != (s22.length : Int)) then
  some false
 else
  MF (fun s=>Nz s11 s22 s) 0

noncomputable def OO (x5 : Int) (x6 : List (Int × Bool)) (x7 : List Int) : Option (((List (Int × Bool)) × (List Int) × Int) ⊕ (Me)) :=
 cnt (x6,x7,IntKind.i64.wrap (x5 + 1))
noncomputable def Oh (x27 : Int) (x29 : List (Int × Bool)) (x30 : List Int) : Option (((List (Int × Bool)) × (List Int) × Int) ⊕ (((List (List Int)) × (List (Int × Bool)) × (List Int)) ⊕ (Me))) :=
 cnt (x29,x30,IntKind.i64.wrap (x27 + 1))
noncomputable def Qc (x_x24 : (List Int)) (x8 : List (List Int)) (x_e11 : Int) (x12 : List Int) (x25 : List (Int × Bool)) (x26 : List Int) (x27 : Int) : Option (((List (Int × Bool)) × (List Int) × Int) ⊕ (((List (List Int)) × (List (Int × Bool)) × (List Int)) ⊕ (Me))) :=
 bif (decide (x27 < (x_x24.length : Int))) then
  (ixO x_x24 x27).bind fun x_x28 =>
  bif (!(MY false x_x28 x25)) then
   chk (x26.length + ([x_x28] : List Int).length ≤ 16777216) <|
   Oh x27 (NF x_x28 true x25) (x26 ++ ([x_x28] : List Int))
  else
   Oh x27 x25 x26
 else
  lft (cnt (x8.set x_e11.toNat x12,x25,x26))
noncomputable def Qd (x_e11 : Int) (x8 : List (List Int)) (x9 : List (Int × Bool)) (x10 : List Int) (r2 : (List (List Int))) (x12 : List Int) : Option (((List (List Int)) × (List (Int × Bool)) × (List Int)) ⊕ (Me)) :=
 chk (0 ≤ x_e11 ∧ x_e11 < x8.length) <|
 ((x8)[x_e11.toNat]?).bind fun x_e21 =>
 (Nh x12 x_e21).bind fun r22 =>
 bif r22 then
  cnt (x8,Nj x_e11 x9,x10.take ((IntKind.i64.wrap ((x10.length : Int) - 1)).toNat))
 else
  chk (0 ≤ x_e11 ∧ x_e11 < x8.length) <|
  ((x8)[x_e11.toNat]?).bind fun _ =>
  (ixO r2 x_e11).bind fun x_x24 =>
  MF (fun s=>Qc x_x24 x8 x_e11 x12 s.1 s.2.1 s.2.2) (Nj x_e11 x9,x10.take ((IntKind.i64.wrap ((x10.length : Int) - 1)).toNat),0)
noncomputable def Qb (r13 : (List Int)) (f1 : LY) (x8 : List (List Int)) (x_e11 : Int) (x9 : List (Int × Bool)) (x10 : List Int) (r2 : (List (List Int))) (x14 : Int) (s15 : List Int) : Option ((Int × (List Int)) ⊕ (((List (List Int)) × (List (Int × Bool)) × (List Int)) ⊕ (Me))) :=
 bif (decide (x14 < (r13.length : Int))) then
  chk (0 ≤ x14 ∧ x14 < r13.length) <|
  ((r13)[x14.toNat]?).bind fun x_e16 =>
  (ixO f1.Code x_e16).bind fun x_x17 =>
  chk (0 ≤ x_e16 ∧ x_e16 < x8.length) <|
  ((x8)[x_e16.toNat]?).bind fun x_e18 =>
  (SM x_x17 x_e18).bind fun r19 =>
  (NZ s15 r19).bind fun r20 =>
  cnt (IntKind.i64.wrap (x14 + 1),r20)
 else
  lft (Qd x_e11 x8 x9 x10 r2 s15)
noncomputable def Qa (f1 : LY) (r2 : (List (List Int))) (x8 : List (List Int)) (x9 : List (Int × Bool)) (x10 : List Int) : Option (((List (List Int)) × (List (Int × Bool)) × (List Int)) ⊕ (Me)) :=
 bif (decide ((x10.length : Int) > 0)) then
  chk (0 ≤ (IntKind.i64.wrap ((x10.length : Int) - 1)) ∧ (IntKind.i64.wrap ((x10.length : Int) - 1)) < x10.length) <|
  ((x10)[(IntKind.i64.wrap ((x10.length : Int) - 1)).toNat]?).bind fun x_e11 =>
  chk (0 ≤ (IntKind.i64.wrap ((x10.length : Int) - 1)) ∧ (IntKind.i64.wrap ((x10.length : Int) - 1)) ≤ x10.length) <|
  (Rq f1 x_e11).bind fun r13 =>
  MF (fun s=>Qb r13 f1 x8 x_e11 x9 x10 r2 s.1 s.2) (0,([] : List Int))
 else
  lft (some (Me.mk x8))
noncomputable def PZ (f1 : LY) (r2 : (List (List Int))) (x3 : List (Int × Bool)) (x4 : List Int) (x5 : Int) : Option (((List (Int × Bool)) × (List Int) × Int) ⊕ (Me)) :=
 bif (decide (x5 < (f1.Code.length : Int))) then
  bif (!(MY false x5 x3)) then
   chk (x4.length + ([x5] : List Int).length ≤ 16777216) <|
   OO x5 (NF x5 true x3) (x4 ++ ([x5] : List Int))
  else
   OO x5 x3 x4
 else
  lft (MF (fun s=>Qa f1 r2 s.1 s.2.1 s.2.2) (List.replicate (f1.Code.length : Int).toNat ([] : (List Int)),x3,x4))
noncomputable def OU (f1 : LY) : Option (Me) :=
 chk (0 ≤ (f1.Code.length : Int) ∧ (f1.Code.length : Int) ≤ 16777216) <|
 (PS f1).bind fun r2 =>
 MF (fun s=>PZ f1 r2 s.1 s.2.1 s.2.2) (([] : List (Int × Bool)),([] : List Int),0)

noncomputable def QE  : Option (Bool) :=
 (OU (LY.mk 0 ([(Mv.mk 8 8)] : List Mv) ([(LS.mk 16 0 0 0 0),(LS.mk 15 0 0 0 0),(LS.mk 23 0 0 0 0)] : List LS))).bind fun r1 =>
 bif ((r1.Out.length : Int) == 3) then
  (ixO r1.Out 0).bind fun x_x2 =>
  some ((x_x2.length : Int) == 1)
 else
  some false

noncomputable def TH (list1 : (List Int)) (limit2 : Int) : Option (Ed) :=
 chk (0 ≤ (Tm (list1.length : Int) limit2) ∧ (Tm (list1.length : Int) limit2) ≤ list1.length) <|
 some (Ed.mk (list1.take (Tm (list1.length : Int) limit2).toNat) 0)

noncomputable def Px (c1 : Ed) : Option (Bool × Ed) :=
 some ((decide (c1.at_ < (c1.list.length : Int))),c1)

noncomputable def PD (n2 : Int) (c3 : List Int) (c4 : Int) : Option (Int × Ed) :=
 (ixO c3 c4).bind fun x_x6 =>
 some (IntKind.i64.wrap ((IntKind.i64.wrap ((IntKind.i64.wrap (x_x6)) * n2)).tdiv 256),(Ed.mk c3 (IntKind.i64.wrap (c4 + 1))))
noncomputable def LZ (c1 : Ed) (n2 : Int) : Option (Int × Ed) :=
 (Px c1).bind fun r5 =>
 bif (!r5.1) then
  some (0,r5.2)
 else
  bif (decide (n2 < 1)) then
   some (0,r5.2)
  else
   PD n2 r5.2.list r5.2.at_

noncomputable def OB (c1 : Ed) : Option (Mv × Ed) :=
 (LZ c1 7).bind fun r2 =>
 chk (0 ≤ r2.1 ∧ r2.1 < ([8,4,8,1,2,16,8] : List Int).length) <|
 ((([8,4,8,1,2,16,8] : List Int))[r2.1.toNat]?).bind fun x_e3 =>
 (LZ r2.2 8).bind fun r4 =>
 chk (0 ≤ r4.1 ∧ r4.1 < ([8,4,1,8,16,2,32,64] : List Int).length) <|
 ((([8,4,1,8,16,2,32,64] : List Int))[r4.1.toNat]?).bind fun x_e5 =>
 some ((Mv.mk x_e3 x_e5),r4.2)

noncomputable def Pk (c4 : List Int) (c5 : Int) (l6 : List Mv) (n7 : Int) : Option (((List Int) × Int × (List Mv) × Int) ⊕ ((List Mv) × Ed)) :=
 bif (decide (n7 > 0)) then
  (OB (Ed.mk c4 c5)).bind fun r8 =>
  chk (l6.length + ([r8.1] : List Mv).length ≤ 16777216) <|
  cnt (r8.2.list,r8.2.at_,l6 ++ ([r8.1] : List Mv),IntKind.i64.wrap (n7 - 1))
 else
  lft (some (l6,(Ed.mk c4 c5)))
noncomputable def Ol (c1 : Ed) (most2 : Int) : Option ((List Mv) × Ed) :=
 (LZ c1 (IntKind.i64.wrap (most2 + 1))).bind fun r3 =>
 MF (fun s=>Pk s.1 s.2.1 s.2.2.1 s.2.2.2) (r3.2.list,r3.2.at_,([] : List Mv),r3.1)

noncomputable def PF (f2 : LY) (s3 : Int) (c1 : Ed) (l4 : List Int) (k5 : Int) : Option (((List Int) × Int) ⊕ (Int × Ed)) :=
 bif (decide (k5 < (f2.Slots.length : Int))) then
  (ixO f2.Slots k5).bind fun x_x6 =>
  (ixO f2.Slots s3).bind fun x_x7 =>
  bif (x_x6.Size == x_x7.Size) then
   chk (l4.length + ([k5] : List Int).length ≤ 16777216) <|
   cnt (l4 ++ ([k5] : List Int),IntKind.i64.wrap (k5 + 1))
  else
   cnt (l4,IntKind.i64.wrap (k5 + 1))
 else
  lft (
   (LZ c1 (l4.length : Int)).bind fun r8 =>
   chk (0 ≤ r8.1 ∧ r8.1 < l4.length) <|
   ((l4)[r8.1.toNat]?).bind fun l_e9 =>
   some (l_e9,r8.2))
noncomputable def OD (c1 : Ed) (f2 : LY) (s3 : Int) : Option (Int × Ed) :=
 MF (fun s=>PF f2 s3 c1 s.1 s.2) (([] : List Int),0)

noncomputable def Oc (c1 : Ed) : Option (Int × Ed) :=
 (LZ c1 6).bind fun r2 =>
 bif (r2.1 == 0) then
  (LZ r2.2 3).bind fun r3 =>
  some (IntKind.u64.wrap (18446744073709551615 - (IntKind.u64.wrap (r3.1))),r3.2)
 else
  bif (r2.1 == 1) then
   (LZ r2.2 64).bind fun r4 =>
   chk (0 ≤ r4.1) <|
   some (IntKind.u64.wrap (1 * 2 ^ (Nat.min r4.1.toNat IntKind.u64.bits)),r4.2)
  else
   bif (r2.1 == 2) then
    some (0,r2.2)
   else
    (LZ r2.2 256).bind fun r5 =>
    some (IntKind.u64.wrap (r5.1),r5.2)

noncomputable def PE (params4 : (List Int)) (i3 : Int) (r23 : Int × Ed) (c24 : List Int) (c25 : Int) (out26 : List LS) (a27 : Int) : Option (((List Int) × Int × (List LS) × Int) ⊕ ((List LS) × Ed)) :=
 (ixO params4 (IntKind.i64.wrap ((IntKind.i64.wrap (i3 + 1)) + r23.1))).bind fun x_x28 =>
 bif (decide (a27 < x_x28)) then
  (LZ (Ed.mk c24 c25) 8).bind fun r29 =>
  bif (decide (r29.1 < 7)) then
   (LZ r29.2 4).bind fun r30 =>
   chk (out26.length + ([(LS.mk 18 a27 r30.1 0 0)] : List LS).length ≤ 16777216) <|
   cnt (r30.2.list,r30.2.at_,out26 ++ ([(LS.mk 18 a27 r30.1 0 0)] : List LS),IntKind.i64.wrap (a27 + 1))
  else
   cnt (r29.2.list,r29.2.at_,out26,IntKind.i64.wrap (a27 + 1))
 else
  lft (
   chk (out26.length + ([(LS.mk 22 (IntKind.i64.wrap ((IntKind.i64.wrap (i3 + 1)) + r23.1)) 0 0 0)] : List LS).length ≤ 16777216) <|
   some (out26 ++ ([(LS.mk 22 (IntKind.i64.wrap ((IntKind.i64.wrap (i3 + 1)) + r23.1)) 0 0 0)] : List LS),(Ed.mk c24 c25)))
noncomputable def Rn (r5 : Int × Ed) (r6 : Int × Ed) : Option ((List LS) × Ed) :=
 some (([(LS.mk 14 r5.1 0 0 0)] : List LS),r6.2)
noncomputable def NR (r6 : Int × Ed) (params4 : (List Int)) (i3 : Int) (r5 : Int × Ed) (x22 : Bool) : Option ((List LS) × Ed) :=
 bif x22 then
  (LZ r6.2 (IntKind.i64.wrap ((IntKind.i64.wrap ((params4.length : Int) - i3)) - 1))).bind fun r23 =>
  MF (fun s=>PE params4 i3 r23 s.1 s.2.1 s.2.2.1 s.2.2.2) (r23.2.list,r23.2.at_,([] : List LS),0)
 else
  Rn r5 r6
noncomputable def NQ (r6 : Int × Ed) (f2 : LY) (r5 : Int × Ed) (params4 : (List Int)) (i3 : Int) (x20 : Bool) : Option ((List LS) × Ed) :=
 bif x20 then
  (LZ r6.2 f2.Params).bind fun r21 =>
  some (([(LS.mk 19 r5.1 r21.1 0 0)] : List LS),r21.2)
 else
  bif (decide (r6.1 ≥ 17)) then
   NR r6 params4 i3 r5 (decide ((IntKind.i64.wrap (i3 + 1)) < (params4.length : Int)))
  else
   NR r6 params4 i3 r5 false
noncomputable def NP (r6 : Int × Ed) (f2 : LY) (r5 : Int × Ed) (params4 : (List Int)) (i3 : Int) (x11 : Bool) : Option ((List LS) × Ed) :=
 bif x11 then
  (LZ r6.2 (f2.Slots.length : Int)).bind fun r12 =>
  (OD r12.2 f2 r12.1).bind fun r13 =>
  some (([(LS.mk 17 r13.1 r12.1 0 0)] : List LS),r13.2)
 else
  bif (decide (r6.1 < 11)) then
   (Oc r6.2).bind fun r14 =>
   some (([(LS.mk 0 r5.1 0 0 r14.1)] : List LS),r14.2)
  else
   bif (decide (r6.1 < 13)) then
    (LZ r6.2 10).bind fun r15 =>
    (LZ r15.2 4).bind fun r16 =>
    (LZ r16.2 8).bind fun r17 =>
    some (([(LS.mk (IntKind.i64.wrap (2 + r15.1)) r5.1 r16.1 r17.1 0)] : List LS),r17.2)
   else
    bif (decide (r6.1 < 15)) then
     some (([(LS.mk 14 r5.1 0 0 0)] : List LS),r6.2)
    else
     bif (r6.1 == 15) then
      (LZ r6.2 3).bind fun r18 =>
      chk (0 ≤ r18.1 ∧ r18.1 < ([13,12,1] : List Int).length) <|
      ((([13,12,1] : List Int))[r18.1.toNat]?).bind fun x_e19 =>
      some (([(LS.mk x_e19 r5.1 0 0 0)] : List LS),r18.2)
     else
      bif (r6.1 == 16) then
       NQ r6 f2 r5 params4 i3 (decide (f2.Params > 0))
      else
       NQ r6 f2 r5 params4 i3 false
noncomputable def NO (r6 : Int × Ed) (f2 : LY) (r5 : Int × Ed) (params4 : (List Int)) (i3 : Int) (x9 : Bool) : Option ((List LS) × Ed) :=
 bif x9 then
  (LZ r6.2 (f2.Slots.length : Int)).bind fun r10 =>
  some (([(LS.mk 15 r5.1 r10.1 0 0)] : List LS),r10.2)
 else
  bif (decide (r6.1 < 9)) then
   NP r6 f2 r5 params4 i3 (decide ((f2.Slots.length : Int) > 0))
  else
   NP r6 f2 r5 params4 i3 false
noncomputable def NN (r6 : Int × Ed) (f2 : LY) (r5 : Int × Ed) (params4 : (List Int)) (i3 : Int) (x7 : Bool) : Option ((List LS) × Ed) :=
 bif x7 then
  (LZ r6.2 (f2.Slots.length : Int)).bind fun r8 =>
  some (([(LS.mk 16 r8.1 r5.1 0 0)] : List LS),r8.2)
 else
  bif (decide (r6.1 < 6)) then
   NO r6 f2 r5 params4 i3 (decide ((f2.Slots.length : Int) > 0))
  else
   NO r6 f2 r5 params4 i3 false
noncomputable def OC (c1 : Ed) (f2 : LY) (i3 : Int) (params4 : (List Int)) : Option ((List LS) × Ed) :=
 (LZ c1 4).bind fun r5 =>
 (LZ r5.2 20).bind fun r6 =>
 bif (decide (r6.1 < 3)) then
  NN r6 f2 r5 params4 i3 (decide ((f2.Slots.length : Int) > 0))
 else
  NN r6 f2 r5 params4 i3 false

noncomputable def ND (k32 : Int) (code31 : List LS) (r33 : Int × Ed) (to34 : Int) (x35 : Bool) : Option (((List Int) × Int × (List LS) × Int) ⊕ (LY × Ed)) :=
 bif x35 then
  chk (0 ≤ k32 ∧ k32 < code31.length) <|
  ((code31)[k32.toNat]?).bind fun code_o38 =>
  cnt (r33.2.list,r33.2.at_,code31.set k32.toNat (LS.mk code_o38.Op to34 code_o38.B code_o38.C code_o38.Imm),IntKind.i64.wrap (k32 + 1))
 else
  chk (0 ≤ k32 ∧ k32 < code31.length) <|
  ((code31)[k32.toNat]?).bind fun code_e39 =>
  bif (code_e39.Op == 21) then
   chk (0 ≤ k32 ∧ k32 < code31.length) <|
   ((code31)[k32.toNat]?).bind fun code_e40 =>
   bif (decide (code_e40.B < 0)) then
    chk (0 ≤ k32 ∧ k32 < code31.length) <|
    ((code31)[k32.toNat]?).bind fun code_o41 =>
    cnt (r33.2.list,r33.2.at_,code31.set k32.toNat (LS.mk code_o41.Op code_o41.A to34 code_o41.C code_o41.Imm),IntKind.i64.wrap (k32 + 1))
   else
    cnt (r33.2.list,r33.2.at_,code31,IntKind.i64.wrap (k32 + 1))
  else
   cnt (r33.2.list,r33.2.at_,code31,IntKind.i64.wrap (k32 + 1))
noncomputable def MS (k32 : Int) (code31 : List LS) (r33 : Int × Ed) (to34 : Int) : Option (((List Int) × Int × (List LS) × Int) ⊕ (LY × Ed)) :=
 chk (0 ≤ k32 ∧ k32 < code31.length) <|
 ((code31)[k32.toNat]?).bind fun code_e36 =>
 bif (code_e36.Op == 20) then
  chk (0 ≤ k32 ∧ k32 < code31.length) <|
  ((code31)[k32.toNat]?).bind fun code_e37 =>
  ND k32 code31 r33 to34 (decide (code_e37.A < 0))
 else
  ND k32 code31 r33 to34 false
noncomputable def NC (x_x5 : Int) (f17 : List Mv) (c29 : List Int) (c30 : Int) (code31 : List LS) (k32 : Int) : Option (((List Int) × Int × (List LS) × Int) ⊕ (LY × Ed)) :=
 bif (decide (k32 < (code31.length : Int))) then
  (LZ (Ed.mk c29 c30) 8).bind fun r33 =>
  bif (decide ((IntKind.i64.wrap ((IntKind.i64.wrap (k32 + r33.1)) - 2)) < 0)) then
   MS k32 code31 r33 (IntKind.i64.wrap ((code31.length : Int) - 1))
  else
   bif (decide ((IntKind.i64.wrap ((IntKind.i64.wrap (k32 + r33.1)) - 2)) ≥ (code31.length : Int))) then
    MS k32 code31 r33 (IntKind.i64.wrap ((code31.length : Int) - 1))
   else
    MS k32 code31 r33 (IntKind.i64.wrap ((IntKind.i64.wrap (k32 + r33.1)) - 2))
 else
  lft (some ((LY.mk x_x5 f17 code31),(Ed.mk c29 c30)))
noncomputable def Nk (code16 : List LS) (x_x5 : Int) (f17 : List Mv) (c23 : List Int) (c24 : Int) (end25 : Int) (end26 : Int) : Option (LY × Ed) :=
 chk (code16.length + ([(LS.mk end25 0 0 0 end26)] : List LS).length ≤ 16777216) <|
 MF (fun s=>NC x_x5 f17 s.1 s.2.1 s.2.2.1 s.2.2.2) (c23,c24,code16 ++ ([(LS.mk end25 0 0 0 end26)] : List LS),0)
noncomputable def Ou (x_x5 : Int) (i2 : Int) (params3 : (List Int)) (c14 : List Int) (c15 : Int) (code16 : List LS) (f17 : List Mv) (n18 : Int) : Option (((List Int) × Int × (List LS) × (List Mv) × Int) ⊕ (LY × Ed)) :=
 bif (decide (n18 > 0)) then
  (OC (Ed.mk c14 c15) (LY.mk x_x5 f17 ([])) i2 params3).bind fun r19 =>
  chk (code16.length + r19.1.length ≤ 16777216) <|
  (LZ r19.2 9).bind fun r20 =>
  bif (r20.1 == 7) then
   (LZ r20.2 4).bind fun r21 =>
   chk ((code16 ++ r19.1).length + ([(LS.mk 21 r21.1 (-1) 0 0)] : List LS).length ≤ 16777216) <|
   cnt (r21.2.list,r21.2.at_,(code16 ++ r19.1) ++ ([(LS.mk 21 r21.1 (-1) 0 0)] : List LS),f17,IntKind.i64.wrap (n18 - 1))
  else
   bif (r20.1 == 8) then
    (LZ r20.2 3).bind fun r22 =>
    bif (r22.1 == 2) then
     chk ((code16 ++ r19.1).length + ([(LS.mk 20 (-1) 0 0 0)] : List LS).length ≤ 16777216) <|
     cnt (r22.2.list,r22.2.at_,(code16 ++ r19.1) ++ ([(LS.mk 20 (-1) 0 0 0)] : List LS),f17,IntKind.i64.wrap (n18 - 1))
    else
     cnt (r22.2.list,r22.2.at_,code16 ++ r19.1,f17,IntKind.i64.wrap (n18 - 1))
   else
    cnt (r20.2.list,r20.2.at_,code16 ++ r19.1,f17,IntKind.i64.wrap (n18 - 1))
 else
  lft (
   (LZ (Ed.mk c14 c15) 12).bind fun r27 =>
   bif (r27.1 == 11) then
    (Oc r27.2).bind fun r28 =>
    Nk code16 x_x5 f17 r28.2.list r28.2.at_ 24 r28.1
   else
    Nk code16 x_x5 f17 r27.2.list r27.2.at_ 23 0)
noncomputable def Ot (r6 : (List Mv) × Ed) (most4 : Int) (x_x5 : Int) (i2 : Int) (params3 : (List Int)) (c7 : List Int) (c8 : Int) (code9 : List LS) (s10 : Int) : Option (((List Int) × Int × (List LS) × Int) ⊕ (LY × Ed)) :=
 bif (decide (s10 < (r6.1.length : Int))) then
  (LZ (Ed.mk c7 c8) 4).bind fun r11 =>
  bif (decide (r11.1 < 3)) then
   (LZ r11.2 4).bind fun r12 =>
   chk (code9.length + ([(LS.mk 16 s10 r12.1 0 0)] : List LS).length ≤ 16777216) <|
   cnt (r12.2.list,r12.2.at_,code9 ++ ([(LS.mk 16 s10 r12.1 0 0)] : List LS),IntKind.i64.wrap (s10 + 1))
  else
   cnt (r11.2.list,r11.2.at_,code9,IntKind.i64.wrap (s10 + 1))
 else
  lft (
   (LZ (Ed.mk c7 c8) (IntKind.i64.wrap (most4 + 1))).bind fun r13 =>
   MF (fun s=>Ou x_x5 i2 params3 s.1 s.2.1 s.2.2.1 s.2.2.2.1 s.2.2.2.2) (r13.2.list,r13.2.at_,code9,r6.1,r13.1))
noncomputable def NB (c1 : Ed) (i2 : Int) (params3 : (List Int)) (most4 : Int) : Option (LY × Ed) :=
 (ixO params3 i2).bind fun x_x5 =>
 (Ol c1 6).bind fun r6 =>
 MF (fun s=>Ot r6 most4 x_x5 i2 params3 s.1 s.2.1 s.2.2.1 s.2.2.2) (r6.2.list,r6.2.at_,([] : List LS),0)

noncomputable def OA (most3 : Int) (c10 : List Int) (c11 : Int) (p12 : List LY) (i13 : Int) (params14 : List Int) : Option (((List Int) × Int × (List LY) × Int × (List Int)) ⊕ (OG × Ed)) :=
 bif (decide (i13 < (params14.length : Int))) then
  chk (([] : List LY).length + p12.length ≤ 16777216) <|
  (NB (Ed.mk c10 c11) i13 params14 most3).bind fun r15 =>
  chk ((([] : List LY) ++ p12).length + ([r15.1] : List LY).length ≤ 16777216) <|
  cnt (r15.2.list,r15.2.at_,(([] : List LY) ++ p12) ++ ([r15.1] : List LY),IntKind.i64.wrap (i13 + 1),params14)
 else
  lft (some ((OG.mk p12),(Ed.mk c10 c11)))
noncomputable def Oz (most3 : Int) (c5 : List Int) (c6 : Int) (params7 : List Int) (n8 : Int) : Option (((List Int) × Int × (List Int) × Int) ⊕ (OG × Ed)) :=
 bif (decide (n8 > 0)) then
  (LZ (Ed.mk c5 c6) 4).bind fun r9 =>
  chk (params7.length + ([r9.1] : List Int).length ≤ 16777216) <|
  cnt (r9.2.list,r9.2.at_,params7 ++ ([r9.1] : List Int),IntKind.i64.wrap (n8 - 1))
 else
  lft (MF (fun s=>OA most3 s.1 s.2.1 s.2.2.1 s.2.2.2.1 s.2.2.2.2) (c5,c6,[],0,params7))
noncomputable def NM (c1 : Ed) (funcs2 : Int) (most3 : Int) : Option (OG × Ed) :=
 (LZ c1 funcs2).bind fun r4 =>
 MF (fun s=>Oz most3 s.1 s.2.1 s.2.2.1 s.2.2.2) (r4.2.list,r4.2.at_,([0] : List Int),r4.1)

noncomputable def Ny (x_x3 : LS) (k2 : Int) (x4 : Bool) : Option ((List Int)) :=
 bif x4 then
  some ([] : List Int)
 else
  bif (x_x3.Op == 21) then
   bif (decide (x_x3.B < (IntKind.i64.wrap (k2 + 1)))) then
    some ([x_x3.B,IntKind.i64.wrap (k2 + 1)] : List Int)
   else
    bif (decide (x_x3.B > (IntKind.i64.wrap (k2 + 1)))) then
     some ([IntKind.i64.wrap (k2 + 1),x_x3.B] : List Int)
    else
     some ([IntKind.i64.wrap (k2 + 1)] : List Int)
  else
   some ([IntKind.i64.wrap (k2 + 1)] : List Int)
noncomputable def Ss (f1 : LY) (k2 : Int) : Option ((List Int)) :=
 (ixO f1.Code k2).bind fun x_x3 =>
 bif (x_x3.Op == 20) then
  some ([x_x3.A] : List Int)
 else
  bif (x_x3.Op == 23) then
   Ny x_x3 k2 (x_x3.Op == 23)
  else
   Ny x_x3 k2 (x_x3.Op == 24)
noncomputable def RM (f1 : LY) (k2 : Int) : Option ((List Int)) :=
 bif (decide (k2 < 0)) then
  some ([] : List Int)
 else
  bif (decide (k2 ≥ (f1.Code.length : Int))) then
   some ([] : List Int)
  else
   Ss f1 k2

noncomputable def PH (x1 : LS) : Option (Bool) :=
 bif (x1.Op == 16) then
  some true
 else
  some (x1.Op == 17)

noncomputable def QA (x1 : LS) : Option (Int × Bool) :=
 (PH x1).bind fun r2 =>
 bif r2 then
  some (x1.A,true)
 else
  some (0,false)

noncomputable def Of (s1 : (List Int)) (n2 : Int) (out3 : List Int) (i4 : Int) : Option (((List Int) × Int) ⊕ ((List Int))) :=
 bif (decide (i4 < (s1.length : Int))) then
  (ixO s1 i4).bind fun x_x5 =>
  bif (x_x5 != n2) then
   (ixO s1 i4).bind fun x_x6 =>
   chk (out3.length + ([x_x6] : List Int).length ≤ 16777216) <|
   cnt (out3 ++ ([x_x6] : List Int),IntKind.i64.wrap (i4 + 1))
  else
   cnt (out3,IntKind.i64.wrap (i4 + 1))
 else
  lft (some out3)
noncomputable def Pb (s1 : (List Int)) (n2 : Int) : Option ((List Int)) :=
 MF (fun s=>Of s1 n2 s.1 s.2) (([] : List Int),0)

noncomputable def Qw (x1 : LS) : Option ((List Int)) :=
 bif (x1.Op == 15) then
  some ([x1.B] : List Int)
 else
  bif (x1.Op == 17) then
   some ([x1.B] : List Int)
  else
   some ([] : List Int)

noncomputable def RL (n1 : Int) : Option (Bool) :=
 bif (decide (n1 ≥ 0)) then
  some (decide (n1 < 512))
 else
  some false

noncomputable def Oe (s1 : (List Int)) (i6 : Int) (out7 : List Int) (done8 : Bool) : Option (((List Int) × Bool × Int) ⊕ ((List Int))) :=
 (ixO s1 i6).bind fun x_x12 =>
 chk (out7.length + ([x_x12] : List Int).length ≤ 16777216) <|
 cnt (out7 ++ ([x_x12] : List Int),done8,IntKind.i64.wrap (i6 + 1))
noncomputable def Ow (s1 : (List Int)) (i6 : Int) (n2 : Int) (out4 : List Int) (done5 : Bool) (x9 : Bool) : Option (((List Int) × Bool × Int) ⊕ ((List Int))) :=
 bif x9 then
  (ixO s1 i6).bind fun x_x11 =>
  bif (decide (x_x11 > n2)) then
   chk (out4.length + ([n2] : List Int).length ≤ 16777216) <|
   Oe s1 i6 (out4 ++ ([n2] : List Int)) true
  else
   Oe s1 i6 out4 true
 else
  Oe s1 i6 out4 done5
noncomputable def Nu (s1 : (List Int)) (n2 : Int) (out4 : List Int) (done5 : Bool) (i6 : Int) : Option (((List Int) × Bool × Int) ⊕ ((List Int))) :=
 bif (decide (i6 < (s1.length : Int))) then
  bif (!done5) then
   (ixO s1 i6).bind fun x_x10 =>
   Ow s1 i6 n2 out4 done5 (decide (x_x10 ≥ n2))
  else
   Ow s1 i6 n2 out4 done5 false
 else
  lft (
   bif (!done5) then
    chk (out4.length + ([n2] : List Int).length ≤ 16777216) <|
    some (out4 ++ ([n2] : List Int))
   else
    some out4)
noncomputable def OP (s1 : (List Int)) (n2 : Int) : Option ((List Int)) :=
 (RL n2).bind fun r3 =>
 MF (fun s=>Nu s1 n2 s.1 s.2.1 s.2.2) (([] : List Int),(!r3),0)

noncomputable def OV (b2 : (List Int)) (out3 : List Int) (i4 : Int) : Option (((List Int) × Int) ⊕ ((List Int))) :=
 bif (decide (i4 < (b2.length : Int))) then
  (ixO b2 i4).bind fun x_x5 =>
  (OP out3 x_x5).bind fun r6 =>
  cnt (r6,IntKind.i64.wrap (i4 + 1))
 else
  lft (some out3)
noncomputable def OQ (a1 : (List Int)) (b2 : (List Int)) : Option ((List Int)) :=
 chk (([] : List Int).length + a1.length ≤ 16777216) <|
 MF (fun s=>OV b2 s.1 s.2) (([] : List Int) ++ a1,0)

noncomputable def TS (x1 : LS) (out2 : (List Int)) : Option ((List Int)) :=
 (QA x1).bind fun r3 =>
 bif r3.2 then
  (Pb out2 r3.1).bind fun r4 =>
  (Qw x1).bind fun r5 =>
  (OQ r4 r5).bind fun r6 =>
  some r6
 else
  (Qw x1).bind fun r7 =>
  (OQ out2 r7).bind fun r8 =>
  some r8

noncomputable def Sv (k4 : Int) (x5 : List (List Int)) : Option (((List (List Int)) × Int) ⊕ (Me)) :=
 cnt (x5,IntKind.i64.wrap (k4 + 1))
noncomputable def Pu (r6 : (List Int)) (k4 : Int) (f1 : LY) (l2 : Me) (x7 : List (List Int)) (i8 : Int) : Option (((List (List Int)) × Int) ⊕ (((List (List Int)) × Int) ⊕ (Me))) :=
 bif (decide (i8 < (r6.length : Int))) then
  chk (0 ≤ i8 ∧ i8 < r6.length) <|
  ((r6)[i8.toNat]?).bind fun next_e9 =>
  chk (0 ≤ k4 ∧ k4 < x7.length) <|
  ((x7)[k4.toNat]?).bind fun x_e10 =>
  (ixO f1.Code next_e9).bind fun x_x11 =>
  (ixO l2.Out next_e9).bind fun x_x12 =>
  (TS x_x11 x_x12).bind fun r13 =>
  (OQ x_e10 r13).bind fun r14 =>
  chk (0 ≤ k4 ∧ k4 < x7.length) <|
  ((x7)[k4.toNat]?).bind fun _ =>
  cnt (x7.set k4.toNat r14,IntKind.i64.wrap (i8 + 1))
 else
  lft (Sv k4 x7)
noncomputable def Pt (f1 : LY) (l2 : Me) (x3 : List (List Int)) (k4 : Int) : Option (((List (List Int)) × Int) ⊕ (Me)) :=
 bif (decide (k4 < (f1.Code.length : Int))) then
  (RM f1 k4).bind fun r6 =>
  MF (fun s=>Pu r6 k4 f1 l2 s.1 s.2) (x3,0)
 else
  lft (some (Me.mk x3))
noncomputable def RO (f1 : LY) (l2 : Me) : Option (Me) :=
 chk (0 ≤ (f1.Code.length : Int) ∧ (f1.Code.length : Int) ≤ 16777216) <|
 MF (fun s=>Pt f1 l2 s.1 s.2) (List.replicate (f1.Code.length : Int).toNat ([] : (List Int)),0)

noncomputable def OK (a1 : (List Int)) (b2 : (List Int)) (i3 : Int) : Option ((Int) ⊕ (Bool)) :=
 bif (decide (i3 < (a1.length : Int))) then
  (ixO a1 i3).bind fun x_x4 =>
  (ixO b2 i3).bind fun x_x5 =>
  bif (x_x4 != x_x5) then
   lft (some false)
  else
   cnt (IntKind.i64.wrap (i3 + 1))
 else
  lft (some true)
noncomputable def RJ (a1 : (List Int)) (b2 : (List Int)) : Option (Bool) :=
 bif ((a1.length : Int) != (b2.length : Int)) then
  some false
 else
  MF (fun s=>OK a1 b2 s) 0

noncomputable def NK (a1 : (List (List Int))) (b2 : (List (List Int))) (i3 : Int) : Option ((Int) ⊕ (Bool)) :=
 bif (decide (i3 < (a1.length : Int))) then
  (ixO a1 i3).bind fun x_x4 =>
  (ixO b2 i3).bind fun x_x5 =>
  (RJ x_x4 x_x5).bind fun r6 =>
  bif (!r6) then
   lft (some false)
  else
   cnt (IntKind.i64.wrap (i3 + 1))
 else
  lft (some true)
noncomputable def Ps (a1 : (List (List Int))) (b2 : (List (List Int))) : Option (Bool) :=
 bif ((a1.length : Int) != (b2.length : Int)) then
  some false
 else
  MF (fun s=>NK a1 b2 s) 0

noncomputable def Ov (a1 : Me) (b2 : Me) : Option (Bool) :=
 (Ps a1.Out b2.Out).bind fun r3 =>
 some r3

noncomputable def RN (f1 : LY) (l2 : List (List Int)) : Option (((List (List Int))) ⊕ (Me)) :=
 (RO f1 (Me.mk l2)).bind fun r3 =>
 (Ov r3 (Me.mk l2)).bind fun r4 =>
 bif r4 then
  lft (some (Me.mk l2))
 else
  cnt r3.Out
noncomputable def PW (f1 : LY) : Option (Me) :=
 chk (0 ≤ (f1.Code.length : Int) ∧ (f1.Code.length : Int) ≤ 16777216) <|
 MF (fun s=>RN f1 s) (List.replicate (f1.Code.length : Int).toNat ([] : (List Int)))

noncomputable def Pj (n8 : Int) (c9 : List Int) (c10 : Int) (x11 : List (List Int)) : Option (((List Int) × Int × (List (List Int)) × Int) ⊕ (Me × Ed)) :=
 cnt (c9,c10,x11,IntKind.i64.wrap (n8 - 1))
noncomputable def Pg (r12 : Int × Ed) (n8 : Int) (x13 : List (List Int)) (k14 : Int) : Option (((List (List Int)) × Int) ⊕ (((List Int) × Int × (List (List Int)) × Int) ⊕ (Me × Ed))) :=
 bif (decide (k14 < (x13.length : Int))) then
  chk (0 ≤ k14 ∧ k14 < x13.length) <|
  ((x13)[k14.toNat]?).bind fun x_e15 =>
  (OP x_e15 r12.1).bind fun r16 =>
  chk (0 ≤ k14 ∧ k14 < x13.length) <|
  ((x13)[k14.toNat]?).bind fun _ =>
  cnt (x13.set k14.toNat r16,IntKind.i64.wrap (k14 + 1))
 else
  lft (Pj n8 r12.2.list r12.2.at_ x13)
noncomputable def Ph (c5 : List Int) (c6 : Int) (f2 : LY) (n8 : Int) (x7 : List (List Int)) : Option (((List Int) × Int × (List (List Int)) × Int) ⊕ (Me × Ed)) :=
 (LZ (Ed.mk c5 c6) (f2.Slots.length : Int)).bind fun r12 =>
 MF (fun s=>Pg r12 n8 s.1 s.2) (x7,0)
noncomputable def Pf (f2 : LY) (c5 : List Int) (c6 : Int) (x7 : List (List Int)) (n8 : Int) : Option (((List Int) × Int × (List (List Int)) × Int) ⊕ (Me × Ed)) :=
 bif (decide (n8 > 0)) then
  bif (decide ((f2.Slots.length : Int) > 0)) then
   Ph c5 c6 f2 n8 x7
  else
   lft (some ((Me.mk x7),(Ed.mk c5 c6)))
 else
  lft (some ((Me.mk x7),(Ed.mk c5 c6)))
noncomputable def Ok (c1 : Ed) (f2 : LY) : Option (Me × Ed) :=
 (PW f2).bind fun r3 =>
 chk (([] : List (List Int)).length + r3.Out.length ≤ 16777216) <|
 (LZ c1 3).bind fun r4 =>
 MF (fun s=>Pf f2 s.1 s.2.1 s.2.2.1 s.2.2.2) (r4.2.list,r4.2.at_,([] : List (List Int)) ++ r3.Out,r4.1)

noncomputable def QF (codes1 : (List Int)) : Option (LY × Me × Ed) :=
 (TH codes1 250).bind fun r2 =>
 (NM r2 3 16).bind fun r3 =>
 (LZ r3.2 (r3.1.Funcs.length : Int)).bind fun r4 =>
 (ixO r3.1.Funcs r4.1).bind fun x_x5 =>
 (Ok r4.2 x_x5).bind fun r6 =>
 some (x_x5,r6.1,r6.2)

noncomputable def Oj (c1 : Ed) : Option (Int × Ed) :=
 (LZ c1 12).bind fun r2 =>
 bif (r2.1 == 11) then
  (LZ r2.2 (([9223372036854775807,(-9223372036854775808),2147483648,2147483647,(-1),16777216,33554432,1048577,512,80] : List Int).length : Int)).bind fun r3 =>
  chk (0 ≤ r3.1 ∧ r3.1 < ([9223372036854775807,(-9223372036854775808),2147483648,2147483647,(-1),16777216,33554432,1048577,512,80] : List Int).length) <|
  ((([9223372036854775807,(-9223372036854775808),2147483648,2147483647,(-1),16777216,33554432,1048577,512,80] : List Int))[r3.1.toNat]?).bind fun l_e4 =>
  some (l_e4,r3.2)
 else
  (LZ r2.2 256).bind fun r5 =>
  (LZ r5.2 7).bind fun r6 =>
  chk (0 ≤ r6.1) <|
  some (IntKind.i64.wrap ((r5.1.fdiv (2 ^ (Nat.min r6.1.toNat IntKind.i64.bits))) - (IntKind.i64.wrap (r2.1.tdiv 9))),r6.2)

noncomputable def Nt (n12 : Int) (c13 : List Int) (c14 : Int) (x15 : List (List Int)) : Option (((List Int) × Int × (List (List Int)) × Int) ⊕ (Me × Ed)) :=
 cnt (c13,c14,x15,IntKind.i64.wrap (n12 - 1))
noncomputable def Pz (r16 : Int × Ed) (n12 : Int) (r17 : Int × Ed) (x18 : List (List Int)) (k19 : Int) : Option (((List (List Int)) × Int) ⊕ (((List Int) × Int × (List (List Int)) × Int) ⊕ (Me × Ed))) :=
 bif (decide (k19 < (x18.length : Int))) then
  chk (0 ≤ k19 ∧ k19 < x18.length) <|
  ((x18)[k19.toNat]?).bind fun x_e20 =>
  (OP x_e20 r16.1).bind fun r21 =>
  chk (0 ≤ k19 ∧ k19 < x18.length) <|
  ((x18)[k19.toNat]?).bind fun _ =>
  cnt (x18.set k19.toNat r21,IntKind.i64.wrap (k19 + 1))
 else
  lft (Nt n12 r17.2.list r17.2.at_ x18)
noncomputable def PA (c9 : List Int) (c10 : Int) (f2 : LY) (n12 : Int) (x11 : List (List Int)) : Option (((List Int) × Int × (List (List Int)) × Int) ⊕ (Me × Ed)) :=
 (LZ (Ed.mk c9 c10) (f2.Slots.length : Int)).bind fun r16 =>
 (LZ r16.2 2).bind fun r17 =>
 bif (r17.1 == 0) then
  MF (fun s=>Pz r16 n12 r17 s.1 s.2) (x11,0)
 else
  (LZ r17.2 (x11.length : Int)).bind fun r23 =>
  (LZ r23.2 2).bind fun r24 =>
  bif (r24.1 == 0) then
   chk (0 ≤ r23.1 ∧ r23.1 < x11.length) <|
   ((x11)[r23.1.toNat]?).bind fun x_e25 =>
   (OP x_e25 r16.1).bind fun r26 =>
   chk (0 ≤ r23.1 ∧ r23.1 < x11.length) <|
   ((x11)[r23.1.toNat]?).bind fun _ =>
   Nt n12 r24.2.list r24.2.at_ (x11.set r23.1.toNat r26)
  else
   chk (0 ≤ r23.1 ∧ r23.1 < x11.length) <|
   ((x11)[r23.1.toNat]?).bind fun x_e28 =>
   (Pb x_e28 r16.1).bind fun r29 =>
   chk (0 ≤ r23.1 ∧ r23.1 < x11.length) <|
   ((x11)[r23.1.toNat]?).bind fun _ =>
   Nt n12 r24.2.list r24.2.at_ (x11.set r23.1.toNat r29)
noncomputable def NL (c5 : List Int) (c6 : Int) (x7 : List (List Int)) : Option (Me × Ed) :=
 (LZ (Ed.mk c5 c6) 12).bind fun r31 =>
 bif (r31.1 == 10) then
  chk (0 ≤ (1 : Int) ∧ (1 : Int) ≤ x7.length) <|
  some ((Me.mk (x7.drop ((1 : Int).toNat))),r31.2)
 else
  bif (r31.1 == 11) then
   (Oj r31.2).bind fun r32 =>
   (Oj r32.2).bind fun r33 =>
   chk (0 ≤ (0 : Int) ∧ (0 : Int) < x7.length) <|
   ((x7)[(0 : Int).toNat]?).bind fun _ =>
   some ((Me.mk (x7.set ((0 : Int).toNat) ([r32.1,r33.1] : List Int))),r33.2)
  else
   some ((Me.mk x7),r31.2)
noncomputable def Py (f2 : LY) (c9 : List Int) (c10 : Int) (x11 : List (List Int)) (n12 : Int) : Option (((List Int) × Int × (List (List Int)) × Int) ⊕ (Me × Ed)) :=
 bif (decide (n12 > 0)) then
  bif (decide ((f2.Slots.length : Int) > 0)) then
   PA c9 c10 f2 n12 x11
  else
   lft (NL c9 c10 x11)
 else
  lft (NL c9 c10 x11)
noncomputable def Oy (c1 : Ed) (f2 : LY) : Option (Me × Ed) :=
 (PW f2).bind fun r3 =>
 (LZ c1 3).bind fun r4 =>
 bif (r4.1 == 0) then
  some (r3,r4.2)
 else
  chk (([] : List (List Int)).length + r3.Out.length ≤ 16777216) <|
  (LZ r4.2 4).bind fun r8 =>
  MF (fun s=>Py f2 s.1 s.2.1 s.2.2.1 s.2.2.2) (r8.2.list,r8.2.at_,([] : List (List Int)) ++ r3.Out,r8.1)

noncomputable def Mw (s11 : (List (List Int))) (s22 : (List (List Int))) (x3 : Int) : Option ((Int) ⊕ (Bool)) :=
 bif (decide (x3 < (s11.length : Int))) then
  (ixO s11 x3).bind fun x_x4 =>
  (ixO s22 x3).bind fun x_x5 =>
  (Nh x_x4 x_x5).bind fun r6 =>
  bif (!r6) then
   lft (some false)
  else
   cnt (IntKind.i64.wrap (x3 + 1))
 else
  lft (some true)
noncomputable def My (s11 : (List (List Int))) (s22 : (List (List Int))) : Option (Bool) :=
 bif ((s11.length : Int) != (s22.length : Int)) then
  some false
 else
  MF (fun s=>Mw s11 s22 s) 0

noncomputable def NJ (a1 : Me) (b2 : Me) : Option (Bool) :=
 (My a1.Out b2.Out).bind fun r3 =>
 some r3

noncomputable def NT (codes3 : (List Int)) (a1 : Me) (b2 : Me) : Option (Bool) :=
 (QF codes3).bind fun r6 =>
 (Oy r6.2.2 r6.1).bind fun r7 =>
 (NJ a1 b2).bind fun r8 =>
 (Ov a1 b2).bind fun r9 =>
 bif (r8 == r9) then
  (NJ r6.2.1 r7.1).bind fun r10 =>
  (Ov r6.2.1 r7.1).bind fun r11 =>
  bif (r10 == r11) then
   (NJ a1 a1).bind fun r12 =>
   bif r12 then
    (NJ r6.2.1 r6.2.1).bind fun r13 =>
    some r13
   else
    some false
  else
   some false
 else
  some false
noncomputable def Nc (a1 : Me) (b2 : Me) (codes3 : (List Int)) (x4 : Bool) : Option (Bool) :=
 bif x4 then
  bif (decide ((a1.Out.length : Int) > 200)) then
   some true
  else
   some (decide ((b2.Out.length : Int) > 200))
 else
  NT codes3 a1 b2
noncomputable def NS (a1 : Me) (b2 : Me) (codes3 : (List Int)) : Option (Bool) :=
 (QE).bind fun r5 =>
 bif (!r5) then
  Nc a1 b2 codes3 true
 else
  bif (decide ((a1.Out.length : Int) > 200)) then
   Nc a1 b2 codes3 true
  else
   Nc a1 b2 codes3 (decide ((b2.Out.length : Int) > 200))

end Go.Proofs.YtcelninhkmhjkaaDoor
