/-
 The programs on typed data; written by a program (dx.py).
-/
import Derived.Test.YtjjmcedpoolghaaDoorDxT
namespace Go.Proofs.YtjjmcedpoolghaaDoor
open Go Go.Dw Go.Proofs
set_option maxRecDepth 100000
noncomputable def Ow (op1 : Int) : Option (Bool) :=
 bif (op1 == 20) then
  some true
 else
  bif (op1 == 23) then
   some true
  else
   some (op1 == 24)

noncomputable def PF (x_x3 : Kq) (l4 : List Int) : Option ((List Int)) :=
 bif (x_x3.Op == 20) then
  chk (l4.length + ([x_x3.A] : List Int).length ≤ 16777216) <|
  chk ((l4 ++ ([x_x3.A] : List Int)).length < 4611686018427387904) <|
  chk ((LL (l4 ++ ([x_x3.A] : List Int))).length < 4611686018427387904) <|
  some (Lib.compact (LL (l4 ++ ([x_x3.A] : List Int))))
 else
  bif (x_x3.Op == 21) then
   chk (l4.length + ([x_x3.B] : List Int).length ≤ 16777216) <|
   chk ((l4 ++ ([x_x3.B] : List Int)).length < 4611686018427387904) <|
   chk ((LL (l4 ++ ([x_x3.B] : List Int))).length < 4611686018427387904) <|
   some (Lib.compact (LL (l4 ++ ([x_x3.B] : List Int))))
  else
   chk (l4.length < 4611686018427387904) <|
   chk ((LL l4).length < 4611686018427387904) <|
   some (Lib.compact (LL l4))
noncomputable def Rr (f1 : Ku) (k2 : Int) : Option ((List Int)) :=
 (ixO f1.Code k2).bind fun x_x3 =>
 (Ow x_x3.Op).bind fun r5 =>
 bif (!r5) then
  chk (([] : List Int).length + ([IntKind.i64.wrap (k2 + 1)] : List Int).length ≤ 16777216) <|
  PF x_x3 (([] : List Int) ++ ([IntKind.i64.wrap (k2 + 1)] : List Int))
 else
  PF x_x3 ([] : List Int)
noncomputable def PE (f1 : Ku) (k2 : Int) : Option ((List Int)) :=
 bif (decide (k2 < 0)) then
  some ([] : List Int)
 else
  bif (decide (k2 ≥ (f1.Code.length : Int))) then
   some ([] : List Int)
  else
   Rr f1 k2

noncomputable def PV (r4 : (List Int)) (x3 : Int) (l5 : List (List Int)) (x6 : Int) : Option (((List (List Int)) × Int) ⊕ (((List (List Int)) × Int) ⊕ ((List (List Int))))) :=
 bif (decide (x6 < (r4.length : Int))) then
  chk (0 ≤ x6 ∧ x6 < r4.length) <|
  ((r4)[x6.toNat]?).bind fun x_e7 =>
  chk (0 ≤ x_e7 ∧ x_e7 < l5.length) <|
  ((l5)[x_e7.toNat]?).bind fun l_e8 =>
  chk (l_e8.length + ([x3] : List Int).length ≤ 16777216) <|
  chk (0 ≤ x_e7 ∧ x_e7 < l5.length) <|
  cnt (l5.set x_e7.toNat (l_e8 ++ ([x3] : List Int)),IntKind.i64.wrap (x6 + 1))
 else
  lft (cnt (l5,IntKind.i64.wrap (x3 + 1)))
noncomputable def PU (f1 : Ku) (l2 : List (List Int)) (x3 : Int) : Option (((List (List Int)) × Int) ⊕ ((List (List Int)))) :=
 bif (decide (x3 < (f1.Code.length : Int))) then
  (PE f1 x3).bind fun r4 =>
  Lb (fun s=>PV r4 x3 s.1 s.2) (l2,0)
 else
  lft (some l2)
noncomputable def Ob (f1 : Ku) : Option ((List (List Int))) :=
 chk (0 ≤ (f1.Code.length : Int) ∧ (f1.Code.length : Int) ≤ 16777216) <|
 Lb (fun s=>PU f1 s.1 s.2) (List.replicate (f1.Code.length : Int).toNat ([] : (List Int)),0)

noncomputable def Nk (x1 : Kq) : Option (Int × Bool) :=
 bif (x1.Op == 16) then
  bif (x1.Op == 16) then
   some (x1.A,true)
  else
   some (0,false)
 else
  bif (x1.Op == 17) then
   some (x1.A,true)
  else
   some (0,false)

noncomputable def Mz (n1 : Int) : Option (Bool) :=
 bif (decide (n1 ≥ 0)) then
  some (decide (n1 < 512))
 else
  some false

noncomputable def LN (s1 : Ks) (n2 : Int) (in3 : Bool) : Option (Ks) :=
 chk (0 ≤ ((IntKind.u64.wrap (n2)).tmod 64)) <|
 (Mz n2).bind fun r4 =>
 bif (!r4) then
  some s1
 else
  bif in3 then
   chk (0 ≤ (IntKind.i64.wrap (n2.tdiv 64)) ∧ (IntKind.i64.wrap (n2.tdiv 64)) < 8) <|
   ((s1.toList)[(IntKind.i64.wrap (n2.tdiv 64)).toNat]?).bind fun s_e5 =>
   chk (0 ≤ (IntKind.i64.wrap (n2.tdiv 64)) ∧ (IntKind.i64.wrap (n2.tdiv 64)) < 8) <|
   ((s1.toList)[(IntKind.i64.wrap (n2.tdiv 64)).toNat]?).bind fun _ =>
   some (s1.set ((IntKind.i64.wrap (n2.tdiv 64)).toNat) (IntKind.u64.wrap ((BitVec.ofInt IntKind.u64.bits s_e5 ||| BitVec.ofInt IntKind.u64.bits (IntKind.u64.wrap (1 * 2 ^ (Nat.min ((IntKind.u64.wrap (n2)).tmod 64).toNat IntKind.u64.bits)))).toNat)))
  else
   chk (0 ≤ (IntKind.i64.wrap (n2.tdiv 64)) ∧ (IntKind.i64.wrap (n2.tdiv 64)) < 8) <|
   ((s1.toList)[(IntKind.i64.wrap (n2.tdiv 64)).toNat]?).bind fun s_e7 =>
   chk (0 ≤ (IntKind.i64.wrap (n2.tdiv 64)) ∧ (IntKind.i64.wrap (n2.tdiv 64)) < 8) <|
   ((s1.toList)[(IntKind.i64.wrap (n2.tdiv 64)).toNat]?).bind fun _ =>
   some (s1.set ((IntKind.i64.wrap (n2.tdiv 64)).toNat) (IntKind.u64.wrap ((BitVec.ofInt IntKind.u64.bits s_e7 &&& ~~~ BitVec.ofInt IntKind.u64.bits (IntKind.u64.wrap (1 * 2 ^ (Nat.min ((IntKind.u64.wrap (n2)).tmod 64).toNat IntKind.u64.bits)))).toNat)))

noncomputable def OG (l1 : (List Int)) (x2 : Ks) (x3 : Int) : Option ((Ks × Int) ⊕ (Ks)) :=
 bif (decide (x3 < (l1.length : Int))) then
  (ixO l1 x3).bind fun x_x4 =>
  (LN x2 x_x4 true).bind fun r5 =>
  cnt (r5,IntKind.i64.wrap (x3 + 1))
 else
  lft (some x2)
noncomputable def Mf (l1 : (List Int)) : Option (Ks) :=
 Lb (fun s=>OG l1 s.1 s.2) ((Ks.mk 0 0 0 0 0 0 0 0),0)

noncomputable def MK (x3 : Int) (l5 : List Int) (x6 : Int) : Option (((List Int) × Int) ⊕ (((List Int) × Int) ⊕ ((List Int) × Ks))) :=
 bif (x6 != 0) then
  (Vv x6).bind fun r7 =>
  chk (l5.length + ([IntKind.i64.wrap ((IntKind.i64.wrap (64 * x3)) + r7)] : List Int).length ≤ 16777216) <|
  cnt (l5 ++ ([IntKind.i64.wrap ((IntKind.i64.wrap (64 * x3)) + r7)] : List Int),IntKind.u64.wrap ((BitVec.ofInt IntKind.u64.bits x6 &&& BitVec.ofInt IntKind.u64.bits (IntKind.u64.wrap (x6 - 1))).toNat))
 else
  lft (cnt (l5,IntKind.i64.wrap (x3 + 1)))
noncomputable def MJ (s1 : Ks) (l2 : List Int) (x3 : Int) : Option (((List Int) × Int) ⊕ ((List Int) × Ks)) :=
 bif (decide (x3 < 8)) then
  chk (0 ≤ x3 ∧ x3 < 8) <|
  ((s1.toList)[x3.toNat]?).bind fun s_e4 =>
  Lb (fun s=>MK x3 s.1 s.2) (l2,s_e4)
 else
  lft (some (l2,s1))
noncomputable def Lx (s1 : Ks) : Option ((List Int) × Ks) :=
 Lb (fun s=>MJ s1 s.1 s.2) (([] : List Int),0)

noncomputable def Na (s1 : (List Int)) (n2 : Int) : Option ((List Int)) :=
 (Mf s1).bind fun r3 =>
 (LN r3 n2 false).bind fun r4 =>
 (Lx r4).bind fun r5 =>
 some r5.1

noncomputable def Oa (x1 : Kq) : Option ((List Int)) :=
 bif (x1.Op == 15) then
  bif (x1.Op == 15) then
   some ([x1.B] : List Int)
  else
   some ([] : List Int)
 else
  bif (x1.Op == 17) then
   some ([x1.B] : List Int)
  else
   some ([] : List Int)

noncomputable def OB (l1 : (List Int)) : Option ((List Int)) :=
 (Mf l1).bind fun r2 =>
 (Lx r2).bind fun r3 =>
 some r3.1

noncomputable def Nj (x1 : Int) (y2 : Int) : Option (Int) :=
 some (IntKind.u64.wrap ((BitVec.ofInt IntKind.u64.bits x1 ||| BitVec.ofInt IntKind.u64.bits y2).toNat))

noncomputable def Ls (s1 : Ks) (t2 : Ks) (x3 : Ks) (x4 : Int) : Option ((Ks × Int) ⊕ (Ks × Ks × Ks)) :=
 bif (decide (x4 < 8)) then
  chk (0 ≤ x4 ∧ x4 < 8) <|
  ((s1.toList)[x4.toNat]?).bind fun s_e5 =>
  chk (0 ≤ x4 ∧ x4 < 8) <|
  ((t2.toList)[x4.toNat]?).bind fun t_e6 =>
  (Nj s_e5 t_e6).bind fun r7 =>
  chk (0 ≤ x4 ∧ x4 < 8) <|
  ((x3.toList)[x4.toNat]?).bind fun _ =>
  cnt ((x3.set x4.toNat r7),IntKind.i64.wrap (x4 + 1))
 else
  lft (some (x3,s1,t2))
noncomputable def Lr (s1 : Ks) (t2 : Ks) : Option (Ks × Ks × Ks) :=
 Lb (fun s=>Ls s1 t2 s.1 s.2) ((Ks.mk 0 0 0 0 0 0 0 0),0)

noncomputable def Mr (a1 : (List Int)) (b2 : (List Int)) : Option ((List Int)) :=
 (Mf a1).bind fun r3 =>
 (Mf b2).bind fun r4 =>
 (Lr r3 r4).bind fun r5 =>
 (Lx r5.1).bind fun r6 =>
 some r6.1

noncomputable def Rb (x1 : Kq) (out2 : (List Int)) : Option ((List Int)) :=
 (Nk x1).bind fun r3 =>
 bif r3.2 then
  (Na out2 r3.1).bind fun r4 =>
  (Oa x1).bind fun r5 =>
  (OB r5).bind fun r6 =>
  (Mr r4 r6).bind fun r7 =>
  some r7
 else
  (Oa x1).bind fun r8 =>
  (OB r8).bind fun r9 =>
  (Mr out2 r9).bind fun r10 =>
  some r10

noncomputable def LY (s11 : (List Int)) (s22 : (List Int)) (x3 : Int) : Option ((Int) ⊕ (Bool)) :=
 bif (decide (x3 < (s11.length : Int))) then
  (ixO s11 x3).bind fun x_x4 =>
  (ixO s22 x3).bind fun x_x5 =>
  bif (x_x4 != x_x5) then
   lft (some false)
  else
   cnt (IntKind.i64.wrap (x3 + 1))
 else
  lft (some true)
noncomputable def LX (s11 : (List Int)) (s22 : (List Int)) : Option (Bool) :=
 bif ((s11.length : Int) != (s22.length : Int)) then
  some false
 else
  Lb (fun s=>LY s11 s22 s) 0

noncomputable def Nh (x5 : Int) (x6 : List (Int × Bool)) (x7 : List Int) : Option (((List (Int × Bool)) × (List Int) × Int) ⊕ (KL)) :=
 cnt (x6,x7,IntKind.i64.wrap (x5 + 1))
noncomputable def MA (x27 : Int) (x29 : List (Int × Bool)) (x30 : List Int) : Option (((List (Int × Bool)) × (List Int) × Int) ⊕ (((List (List Int)) × (List (Int × Bool)) × (List Int)) ⊕ (KL))) :=
 cnt (x29,x30,IntKind.i64.wrap (x27 + 1))
noncomputable def Oi (x_x24 : (List Int)) (x8 : List (List Int)) (x_e11 : Int) (x12 : List Int) (x25 : List (Int × Bool)) (x26 : List Int) (x27 : Int) : Option (((List (Int × Bool)) × (List Int) × Int) ⊕ (((List (List Int)) × (List (Int × Bool)) × (List Int)) ⊕ (KL))) :=
 bif (decide (x27 < (x_x24.length : Int))) then
  (ixO x_x24 x27).bind fun x_x28 =>
  bif (!(Lv false x_x28 x25)) then
   chk (x26.length + ([x_x28] : List Int).length ≤ 16777216) <|
   MA x27 (Me x_x28 true x25) (x26 ++ ([x_x28] : List Int))
  else
   MA x27 x25 x26
 else
  lft (cnt (x8.set x_e11.toNat x12,x25,x26))
noncomputable def Oj (x_e11 : Int) (x8 : List (List Int)) (x9 : List (Int × Bool)) (x10 : List Int) (r2 : (List (List Int))) (x12 : List Int) : Option (((List (List Int)) × (List (Int × Bool)) × (List Int)) ⊕ (KL)) :=
 chk (0 ≤ x_e11 ∧ x_e11 < x8.length) <|
 ((x8)[x_e11.toNat]?).bind fun x_e21 =>
 (LX x12 x_e21).bind fun r22 =>
 bif r22 then
  cnt (x8,LO x_e11 x9,x10.take ((IntKind.i64.wrap ((x10.length : Int) - 1)).toNat))
 else
  chk (0 ≤ x_e11 ∧ x_e11 < x8.length) <|
  ((x8)[x_e11.toNat]?).bind fun _ =>
  (ixO r2 x_e11).bind fun x_x24 =>
  Lb (fun s=>Oi x_x24 x8 x_e11 x12 s.1 s.2.1 s.2.2) (LO x_e11 x9,x10.take ((IntKind.i64.wrap ((x10.length : Int) - 1)).toNat),0)
noncomputable def Oh (r13 : (List Int)) (f1 : Ku) (x8 : List (List Int)) (x_e11 : Int) (x9 : List (Int × Bool)) (x10 : List Int) (r2 : (List (List Int))) (x14 : Int) (s15 : List Int) : Option ((Int × (List Int)) ⊕ (((List (List Int)) × (List (Int × Bool)) × (List Int)) ⊕ (KL))) :=
 bif (decide (x14 < (r13.length : Int))) then
  chk (0 ≤ x14 ∧ x14 < r13.length) <|
  ((r13)[x14.toNat]?).bind fun x_e16 =>
  (ixO f1.Code x_e16).bind fun x_x17 =>
  chk (0 ≤ x_e16 ∧ x_e16 < x8.length) <|
  ((x8)[x_e16.toNat]?).bind fun x_e18 =>
  (Rb x_x17 x_e18).bind fun r19 =>
  (Mr s15 r19).bind fun r20 =>
  cnt (IntKind.i64.wrap (x14 + 1),r20)
 else
  lft (Oj x_e11 x8 x9 x10 r2 s15)
noncomputable def Og (f1 : Ku) (r2 : (List (List Int))) (x8 : List (List Int)) (x9 : List (Int × Bool)) (x10 : List Int) : Option (((List (List Int)) × (List (Int × Bool)) × (List Int)) ⊕ (KL)) :=
 bif (decide ((x10.length : Int) > 0)) then
  chk (0 ≤ (IntKind.i64.wrap ((x10.length : Int) - 1)) ∧ (IntKind.i64.wrap ((x10.length : Int) - 1)) < x10.length) <|
  ((x10)[(IntKind.i64.wrap ((x10.length : Int) - 1)).toNat]?).bind fun x_e11 =>
  chk (0 ≤ (IntKind.i64.wrap ((x10.length : Int) - 1)) ∧ (IntKind.i64.wrap ((x10.length : Int) - 1)) ≤ x10.length) <|
  (PE f1 x_e11).bind fun r13 =>
  Lb (fun s=>Oh r13 f1 x8 x_e11 x9 x10 r2 s.1 s.2) (0,([] : List Int))
 else
  lft (some (KL.mk x8))
noncomputable def Of (f1 : Ku) (r2 : (List (List Int))) (x3 : List (Int × Bool)) (x4 : List Int) (x5 : Int) : Option (((List (Int × Bool)) × (List Int) × Int) ⊕ (KL)) :=
 bif (decide (x5 < (f1.Code.length : Int))) then
  bif (!(Lv false x5 x3)) then
   chk (x4.length + ([x5] : List Int).length ≤ 16777216) <|
   Nh x5 (Me x5 true x3) (x4 ++ ([x5] : List Int))
  else
   Nh x5 x3 x4
 else
  lft (Lb (fun s=>Og f1 r2 s.1 s.2.1 s.2.2) (List.replicate (f1.Code.length : Int).toNat ([] : (List Int)),x3,x4))
noncomputable def MH (f1 : Ku) : Option (KL) :=
 chk (0 ≤ (f1.Code.length : Int) ∧ (f1.Code.length : Int) ≤ 16777216) <|
 (Ob f1).bind fun r2 =>
 Lb (fun s=>Of f1 r2 s.1 s.2.1 s.2.2) (([] : List (Int × Bool)),([] : List Int),0)

noncomputable def OV  : Option (Bool) :=
 (MH (Ku.mk 0 ([(KP.mk 8 8)] : List KP) ([(Kq.mk 16 0 0 0 0),(Kq.mk 15 0 0 0 0),(Kq.mk 23 0 0 0 0)] : List Kq))).bind fun r1 =>
 bif ((r1.Out.length : Int) == 3) then
  (ixO r1.Out 0).bind fun x_x2 =>
  some ((x_x2.length : Int) == 1)
 else
  some false

noncomputable def RP (list1 : (List Int)) (limit2 : Int) : Option (Ed) :=
 chk (0 ≤ (Ry (list1.length : Int) limit2) ∧ (Ry (list1.length : Int) limit2) ≤ list1.length) <|
 some (Ed.mk (list1.take (Ry (list1.length : Int) limit2).toNat) 0)

noncomputable def NN (c1 : Ed) : Option (Bool × Ed) :=
 some ((decide (c1.at_ < (c1.list.length : Int))),c1)

noncomputable def NP (n2 : Int) (c3 : List Int) (c4 : Int) : Option (Int × Ed) :=
 (ixO c3 c4).bind fun x_x6 =>
 some (IntKind.i64.wrap ((IntKind.i64.wrap ((IntKind.i64.wrap (x_x6)) * n2)).tdiv 256),(Ed.mk c3 (IntKind.i64.wrap (c4 + 1))))
noncomputable def Ky (c1 : Ed) (n2 : Int) : Option (Int × Ed) :=
 (NN c1).bind fun r5 =>
 bif (!r5.1) then
  some (0,r5.2)
 else
  bif (decide (n2 < 1)) then
   some (0,r5.2)
  else
   NP n2 r5.2.list r5.2.at_

noncomputable def MT (c1 : Ed) : Option (KP × Ed) :=
 (Ky c1 7).bind fun r2 =>
 chk (0 ≤ r2.1 ∧ r2.1 < ([8,4,8,1,2,16,8] : List Int).length) <|
 ((([8,4,8,1,2,16,8] : List Int))[r2.1.toNat]?).bind fun x_e3 =>
 (Ky r2.2 8).bind fun r4 =>
 chk (0 ≤ r4.1 ∧ r4.1 < ([8,4,1,8,16,2,32,64] : List Int).length) <|
 ((([8,4,1,8,16,2,32,64] : List Int))[r4.1.toNat]?).bind fun x_e5 =>
 some ((KP.mk x_e3 x_e5),r4.2)

noncomputable def Ny (c4 : List Int) (c5 : Int) (l6 : List KP) (n7 : Int) : Option (((List Int) × Int × (List KP) × Int) ⊕ ((List KP) × Ed)) :=
 bif (decide (n7 > 0)) then
  (MT (Ed.mk c4 c5)).bind fun r8 =>
  chk (l6.length + ([r8.1] : List KP).length ≤ 16777216) <|
  cnt (r8.2.list,r8.2.at_,l6 ++ ([r8.1] : List KP),IntKind.i64.wrap (n7 - 1))
 else
  lft (some (l6,(Ed.mk c4 c5)))
noncomputable def MG (c1 : Ed) (most2 : Int) : Option ((List KP) × Ed) :=
 (Ky c1 (IntKind.i64.wrap (most2 + 1))).bind fun r3 =>
 Lb (fun s=>Ny s.1 s.2.1 s.2.2.1 s.2.2.2) (r3.2.list,r3.2.at_,([] : List KP),r3.1)

noncomputable def NR (f2 : Ku) (s3 : Int) (c1 : Ed) (l4 : List Int) (k5 : Int) : Option (((List Int) × Int) ⊕ (Int × Ed)) :=
 bif (decide (k5 < (f2.Slots.length : Int))) then
  (ixO f2.Slots k5).bind fun x_x6 =>
  (ixO f2.Slots s3).bind fun x_x7 =>
  bif (x_x6.Size == x_x7.Size) then
   chk (l4.length + ([k5] : List Int).length ≤ 16777216) <|
   cnt (l4 ++ ([k5] : List Int),IntKind.i64.wrap (k5 + 1))
  else
   cnt (l4,IntKind.i64.wrap (k5 + 1))
 else
  lft (
   (Ky c1 (l4.length : Int)).bind fun r8 =>
   chk (0 ≤ r8.1 ∧ r8.1 < l4.length) <|
   ((l4)[r8.1.toNat]?).bind fun l_e9 =>
   some (l_e9,r8.2))
noncomputable def MV (c1 : Ed) (f2 : Ku) (s3 : Int) : Option (Int × Ed) :=
 Lb (fun s=>NR f2 s3 c1 s.1 s.2) (([] : List Int),0)

noncomputable def Mv (c1 : Ed) : Option (Int × Ed) :=
 (Ky c1 6).bind fun r2 =>
 bif (r2.1 == 0) then
  (Ky r2.2 3).bind fun r3 =>
  some (IntKind.u64.wrap (18446744073709551615 - (IntKind.u64.wrap (r3.1))),r3.2)
 else
  bif (r2.1 == 1) then
   (Ky r2.2 64).bind fun r4 =>
   chk (0 ≤ r4.1) <|
   some (IntKind.u64.wrap (1 * 2 ^ (Nat.min r4.1.toNat IntKind.u64.bits)),r4.2)
  else
   bif (r2.1 == 2) then
    some (0,r2.2)
   else
    (Ky r2.2 256).bind fun r5 =>
    some (IntKind.u64.wrap (r5.1),r5.2)

noncomputable def NQ (params4 : (List Int)) (i3 : Int) (r23 : Int × Ed) (c24 : List Int) (c25 : Int) (out26 : List Kq) (a27 : Int) : Option (((List Int) × Int × (List Kq) × Int) ⊕ ((List Kq) × Ed)) :=
 (ixO params4 (IntKind.i64.wrap ((IntKind.i64.wrap (i3 + 1)) + r23.1))).bind fun x_x28 =>
 bif (decide (a27 < x_x28)) then
  (Ky (Ed.mk c24 c25) 8).bind fun r29 =>
  bif (decide (r29.1 < 7)) then
   (Ky r29.2 4).bind fun r30 =>
   chk (out26.length + ([(Kq.mk 18 a27 r30.1 0 0)] : List Kq).length ≤ 16777216) <|
   cnt (r30.2.list,r30.2.at_,out26 ++ ([(Kq.mk 18 a27 r30.1 0 0)] : List Kq),IntKind.i64.wrap (a27 + 1))
  else
   cnt (r29.2.list,r29.2.at_,out26,IntKind.i64.wrap (a27 + 1))
 else
  lft (
   chk (out26.length + ([(Kq.mk 22 (IntKind.i64.wrap ((IntKind.i64.wrap (i3 + 1)) + r23.1)) 0 0 0)] : List Kq).length ≤ 16777216) <|
   some (out26 ++ ([(Kq.mk 22 (IntKind.i64.wrap ((IntKind.i64.wrap (i3 + 1)) + r23.1)) 0 0 0)] : List Kq),(Ed.mk c24 c25)))
noncomputable def PA (r5 : Int × Ed) (r6 : Int × Ed) : Option ((List Kq) × Ed) :=
 some (([(Kq.mk 14 r5.1 0 0 0)] : List Kq),r6.2)
noncomputable def Mm (r6 : Int × Ed) (params4 : (List Int)) (i3 : Int) (r5 : Int × Ed) (x22 : Bool) : Option ((List Kq) × Ed) :=
 bif x22 then
  (Ky r6.2 (IntKind.i64.wrap ((IntKind.i64.wrap ((params4.length : Int) - i3)) - 1))).bind fun r23 =>
  Lb (fun s=>NQ params4 i3 r23 s.1 s.2.1 s.2.2.1 s.2.2.2) (r23.2.list,r23.2.at_,([] : List Kq),0)
 else
  PA r5 r6
noncomputable def Ml (r6 : Int × Ed) (f2 : Ku) (r5 : Int × Ed) (params4 : (List Int)) (i3 : Int) (x20 : Bool) : Option ((List Kq) × Ed) :=
 bif x20 then
  (Ky r6.2 f2.Params).bind fun r21 =>
  some (([(Kq.mk 19 r5.1 r21.1 0 0)] : List Kq),r21.2)
 else
  bif (decide (r6.1 ≥ 17)) then
   Mm r6 params4 i3 r5 (decide ((IntKind.i64.wrap (i3 + 1)) < (params4.length : Int)))
  else
   Mm r6 params4 i3 r5 false
noncomputable def Mk (r6 : Int × Ed) (f2 : Ku) (r5 : Int × Ed) (params4 : (List Int)) (i3 : Int) (x11 : Bool) : Option ((List Kq) × Ed) :=
 bif x11 then
  (Ky r6.2 (f2.Slots.length : Int)).bind fun r12 =>
  (MV r12.2 f2 r12.1).bind fun r13 =>
  some (([(Kq.mk 17 r13.1 r12.1 0 0)] : List Kq),r13.2)
 else
  bif (decide (r6.1 < 11)) then
   (Mv r6.2).bind fun r14 =>
   some (([(Kq.mk 0 r5.1 0 0 r14.1)] : List Kq),r14.2)
  else
   bif (decide (r6.1 < 13)) then
    (Ky r6.2 10).bind fun r15 =>
    (Ky r15.2 4).bind fun r16 =>
    (Ky r16.2 8).bind fun r17 =>
    some (([(Kq.mk (IntKind.i64.wrap (2 + r15.1)) r5.1 r16.1 r17.1 0)] : List Kq),r17.2)
   else
    bif (decide (r6.1 < 15)) then
     some (([(Kq.mk 14 r5.1 0 0 0)] : List Kq),r6.2)
    else
     bif (r6.1 == 15) then
      (Ky r6.2 3).bind fun r18 =>
      chk (0 ≤ r18.1 ∧ r18.1 < ([13,12,1] : List Int).length) <|
      ((([13,12,1] : List Int))[r18.1.toNat]?).bind fun x_e19 =>
      some (([(Kq.mk x_e19 r5.1 0 0 0)] : List Kq),r18.2)
     else
      bif (r6.1 == 16) then
       Ml r6 f2 r5 params4 i3 (decide (f2.Params > 0))
      else
       Ml r6 f2 r5 params4 i3 false
noncomputable def Mj (r6 : Int × Ed) (f2 : Ku) (r5 : Int × Ed) (params4 : (List Int)) (i3 : Int) (x9 : Bool) : Option ((List Kq) × Ed) :=
 bif x9 then
  (Ky r6.2 (f2.Slots.length : Int)).bind fun r10 =>
  some (([(Kq.mk 15 r5.1 r10.1 0 0)] : List Kq),r10.2)
 else
  bif (decide (r6.1 < 9)) then
   Mk r6 f2 r5 params4 i3 (decide ((f2.Slots.length : Int) > 0))
  else
   Mk r6 f2 r5 params4 i3 false
noncomputable def Mi (r6 : Int × Ed) (f2 : Ku) (r5 : Int × Ed) (params4 : (List Int)) (i3 : Int) (x7 : Bool) : Option ((List Kq) × Ed) :=
 bif x7 then
  (Ky r6.2 (f2.Slots.length : Int)).bind fun r8 =>
  some (([(Kq.mk 16 r8.1 r5.1 0 0)] : List Kq),r8.2)
 else
  bif (decide (r6.1 < 6)) then
   Mj r6 f2 r5 params4 i3 (decide ((f2.Slots.length : Int) > 0))
  else
   Mj r6 f2 r5 params4 i3 false
noncomputable def MU (c1 : Ed) (f2 : Ku) (i3 : Int) (params4 : (List Int)) : Option ((List Kq) × Ed) :=
 (Ky c1 4).bind fun r5 =>
 (Ky r5.2 20).bind fun r6 =>
 bif (decide (r6.1 < 3)) then
  Mi r6 f2 r5 params4 i3 (decide ((f2.Slots.length : Int) > 0))
 else
  Mi r6 f2 r5 params4 i3 false

noncomputable def Md (k32 : Int) (code31 : List Kq) (r33 : Int × Ed) (to34 : Int) (x35 : Bool) : Option (((List Int) × Int × (List Kq) × Int) ⊕ (Ku × Ed)) :=
 bif x35 then
  chk (0 ≤ k32 ∧ k32 < code31.length) <|
  ((code31)[k32.toNat]?).bind fun code_o38 =>
  cnt (r33.2.list,r33.2.at_,code31.set k32.toNat (Kq.mk code_o38.Op to34 code_o38.B code_o38.C code_o38.Imm),IntKind.i64.wrap (k32 + 1))
 else
  chk (0 ≤ k32 ∧ k32 < code31.length) <|
  ((code31)[k32.toNat]?).bind fun code_e39 =>
  bif (code_e39.Op == 21) then
   chk (0 ≤ k32 ∧ k32 < code31.length) <|
   ((code31)[k32.toNat]?).bind fun code_e40 =>
   bif (decide (code_e40.B < 0)) then
    chk (0 ≤ k32 ∧ k32 < code31.length) <|
    ((code31)[k32.toNat]?).bind fun code_o41 =>
    cnt (r33.2.list,r33.2.at_,code31.set k32.toNat (Kq.mk code_o41.Op code_o41.A to34 code_o41.C code_o41.Imm),IntKind.i64.wrap (k32 + 1))
   else
    cnt (r33.2.list,r33.2.at_,code31,IntKind.i64.wrap (k32 + 1))
  else
   cnt (r33.2.list,r33.2.at_,code31,IntKind.i64.wrap (k32 + 1))
noncomputable def Lo (k32 : Int) (code31 : List Kq) (r33 : Int × Ed) (to34 : Int) : Option (((List Int) × Int × (List Kq) × Int) ⊕ (Ku × Ed)) :=
 chk (0 ≤ k32 ∧ k32 < code31.length) <|
 ((code31)[k32.toNat]?).bind fun code_e36 =>
 bif (code_e36.Op == 20) then
  chk (0 ≤ k32 ∧ k32 < code31.length) <|
  ((code31)[k32.toNat]?).bind fun code_e37 =>
  Md k32 code31 r33 to34 (decide (code_e37.A < 0))
 else
  Md k32 code31 r33 to34 false
noncomputable def Mc (x_x5 : Int) (f17 : List KP) (c29 : List Int) (c30 : Int) (code31 : List Kq) (k32 : Int) : Option (((List Int) × Int × (List Kq) × Int) ⊕ (Ku × Ed)) :=
 bif (decide (k32 < (code31.length : Int))) then
  (Ky (Ed.mk c29 c30) 8).bind fun r33 =>
  bif (decide ((IntKind.i64.wrap ((IntKind.i64.wrap (k32 + r33.1)) - 2)) < 0)) then
   Lo k32 code31 r33 (IntKind.i64.wrap ((code31.length : Int) - 1))
  else
   bif (decide ((IntKind.i64.wrap ((IntKind.i64.wrap (k32 + r33.1)) - 2)) ≥ (code31.length : Int))) then
    Lo k32 code31 r33 (IntKind.i64.wrap ((code31.length : Int) - 1))
   else
    Lo k32 code31 r33 (IntKind.i64.wrap ((IntKind.i64.wrap (k32 + r33.1)) - 2))
 else
  lft (some ((Ku.mk x_x5 f17 code31),(Ed.mk c29 c30)))
noncomputable def LI (code16 : List Kq) (x_x5 : Int) (f17 : List KP) (c23 : List Int) (c24 : Int) (end25 : Int) (end26 : Int) : Option (Ku × Ed) :=
 chk (code16.length + ([(Kq.mk end25 0 0 0 end26)] : List Kq).length ≤ 16777216) <|
 Lb (fun s=>Mc x_x5 f17 s.1 s.2.1 s.2.2.1 s.2.2.2) (c23,c24,code16 ++ ([(Kq.mk end25 0 0 0 end26)] : List Kq),0)
noncomputable def MN (x_x5 : Int) (i2 : Int) (params3 : (List Int)) (c14 : List Int) (c15 : Int) (code16 : List Kq) (f17 : List KP) (n18 : Int) : Option (((List Int) × Int × (List Kq) × (List KP) × Int) ⊕ (Ku × Ed)) :=
 bif (decide (n18 > 0)) then
  (MU (Ed.mk c14 c15) (Ku.mk x_x5 f17 ([])) i2 params3).bind fun r19 =>
  chk (code16.length + r19.1.length ≤ 16777216) <|
  (Ky r19.2 9).bind fun r20 =>
  bif (r20.1 == 7) then
   (Ky r20.2 4).bind fun r21 =>
   chk ((code16 ++ r19.1).length + ([(Kq.mk 21 r21.1 (-1) 0 0)] : List Kq).length ≤ 16777216) <|
   cnt (r21.2.list,r21.2.at_,(code16 ++ r19.1) ++ ([(Kq.mk 21 r21.1 (-1) 0 0)] : List Kq),f17,IntKind.i64.wrap (n18 - 1))
  else
   bif (r20.1 == 8) then
    (Ky r20.2 3).bind fun r22 =>
    bif (r22.1 == 2) then
     chk ((code16 ++ r19.1).length + ([(Kq.mk 20 (-1) 0 0 0)] : List Kq).length ≤ 16777216) <|
     cnt (r22.2.list,r22.2.at_,(code16 ++ r19.1) ++ ([(Kq.mk 20 (-1) 0 0 0)] : List Kq),f17,IntKind.i64.wrap (n18 - 1))
    else
     cnt (r22.2.list,r22.2.at_,code16 ++ r19.1,f17,IntKind.i64.wrap (n18 - 1))
   else
    cnt (r20.2.list,r20.2.at_,code16 ++ r19.1,f17,IntKind.i64.wrap (n18 - 1))
 else
  lft (
   (Ky (Ed.mk c14 c15) 12).bind fun r27 =>
   bif (r27.1 == 11) then
    (Mv r27.2).bind fun r28 =>
    LI code16 x_x5 f17 r28.2.list r28.2.at_ 24 r28.1
   else
    LI code16 x_x5 f17 r27.2.list r27.2.at_ 23 0)
noncomputable def MM (r6 : (List KP) × Ed) (most4 : Int) (x_x5 : Int) (i2 : Int) (params3 : (List Int)) (c7 : List Int) (c8 : Int) (code9 : List Kq) (s10 : Int) : Option (((List Int) × Int × (List Kq) × Int) ⊕ (Ku × Ed)) :=
 bif (decide (s10 < (r6.1.length : Int))) then
  (Ky (Ed.mk c7 c8) 4).bind fun r11 =>
  bif (decide (r11.1 < 3)) then
   (Ky r11.2 4).bind fun r12 =>
   chk (code9.length + ([(Kq.mk 16 s10 r12.1 0 0)] : List Kq).length ≤ 16777216) <|
   cnt (r12.2.list,r12.2.at_,code9 ++ ([(Kq.mk 16 s10 r12.1 0 0)] : List Kq),IntKind.i64.wrap (s10 + 1))
  else
   cnt (r11.2.list,r11.2.at_,code9,IntKind.i64.wrap (s10 + 1))
 else
  lft (
   (Ky (Ed.mk c7 c8) (IntKind.i64.wrap (most4 + 1))).bind fun r13 =>
   Lb (fun s=>MN x_x5 i2 params3 s.1 s.2.1 s.2.2.1 s.2.2.2.1 s.2.2.2.2) (r13.2.list,r13.2.at_,code9,r6.1,r13.1))
noncomputable def LZ (c1 : Ed) (i2 : Int) (params3 : (List Int)) (most4 : Int) : Option (Ku × Ed) :=
 (ixO params3 i2).bind fun x_x5 =>
 (MG c1 6).bind fun r6 =>
 Lb (fun s=>MM r6 most4 x_x5 i2 params3 s.1 s.2.1 s.2.2.1 s.2.2.2) (r6.2.list,r6.2.at_,([] : List Kq),0)

noncomputable def MS (most3 : Int) (c10 : List Int) (c11 : Int) (p12 : List Ku) (i13 : Int) (params14 : List Int) : Option (((List Int) × Int × (List Ku) × Int × (List Int)) ⊕ (MY × Ed)) :=
 bif (decide (i13 < (params14.length : Int))) then
  chk (([] : List Ku).length + p12.length ≤ 16777216) <|
  (LZ (Ed.mk c10 c11) i13 params14 most3).bind fun r15 =>
  chk ((([] : List Ku) ++ p12).length + ([r15.1] : List Ku).length ≤ 16777216) <|
  cnt (r15.2.list,r15.2.at_,(([] : List Ku) ++ p12) ++ ([r15.1] : List Ku),IntKind.i64.wrap (i13 + 1),params14)
 else
  lft (some ((MY.mk p12),(Ed.mk c10 c11)))
noncomputable def MR (most3 : Int) (c5 : List Int) (c6 : Int) (params7 : List Int) (n8 : Int) : Option (((List Int) × Int × (List Int) × Int) ⊕ (MY × Ed)) :=
 bif (decide (n8 > 0)) then
  (Ky (Ed.mk c5 c6) 4).bind fun r9 =>
  chk (params7.length + ([r9.1] : List Int).length ≤ 16777216) <|
  cnt (r9.2.list,r9.2.at_,params7 ++ ([r9.1] : List Int),IntKind.i64.wrap (n8 - 1))
 else
  lft (Lb (fun s=>MS most3 s.1 s.2.1 s.2.2.1 s.2.2.2.1 s.2.2.2.2) (c5,c6,[],0,params7))
noncomputable def Mh (c1 : Ed) (funcs2 : Int) (most3 : Int) : Option (MY × Ed) :=
 (Ky c1 funcs2).bind fun r4 =>
 Lb (fun s=>MR most3 s.1 s.2.1 s.2.2.1 s.2.2.2) (r4.2.list,r4.2.at_,([0] : List Int),r4.1)

noncomputable def LR (x_x3 : Kq) (k2 : Int) (x4 : Bool) : Option ((List Int)) :=
 bif x4 then
  some ([] : List Int)
 else
  bif (x_x3.Op == 21) then
   bif (decide (x_x3.B < (IntKind.i64.wrap (k2 + 1)))) then
    some ([x_x3.B,IntKind.i64.wrap (k2 + 1)] : List Int)
   else
    bif (decide (x_x3.B > (IntKind.i64.wrap (k2 + 1)))) then
     some ([IntKind.i64.wrap (k2 + 1),x_x3.B] : List Int)
    else
     some ([IntKind.i64.wrap (k2 + 1)] : List Int)
  else
   some ([IntKind.i64.wrap (k2 + 1)] : List Int)
noncomputable def QI (f1 : Ku) (k2 : Int) : Option ((List Int)) :=
 (ixO f1.Code k2).bind fun x_x3 =>
 bif (x_x3.Op == 20) then
  some ([x_x3.A] : List Int)
 else
  bif (x_x3.Op == 23) then
   LR x_x3 k2 (x_x3.Op == 23)
  else
   LR x_x3 k2 (x_x3.Op == 24)
noncomputable def My (f1 : Ku) (k2 : Int) : Option ((List Int)) :=
 bif (decide (k2 < 0)) then
  some ([] : List Int)
 else
  bif (decide (k2 ≥ (f1.Code.length : Int))) then
   some ([] : List Int)
  else
   QI f1 k2

noncomputable def MX (x1 : Kq) : Option (Bool) :=
 bif (x1.Op == 16) then
  some true
 else
  some (x1.Op == 17)

noncomputable def MB (x1 : Kq) : Option (Int × Bool) :=
 (MX x1).bind fun r2 =>
 bif r2 then
  some (x1.A,true)
 else
  some (0,false)

noncomputable def Mx (s1 : (List Int)) (n2 : Int) (out3 : List Int) (i4 : Int) : Option (((List Int) × Int) ⊕ ((List Int))) :=
 bif (decide (i4 < (s1.length : Int))) then
  (ixO s1 i4).bind fun x_x5 =>
  bif (x_x5 != n2) then
   (ixO s1 i4).bind fun x_x6 =>
   chk (out3.length + ([x_x6] : List Int).length ≤ 16777216) <|
   cnt (out3 ++ ([x_x6] : List Int),IntKind.i64.wrap (i4 + 1))
  else
   cnt (out3,IntKind.i64.wrap (i4 + 1))
 else
  lft (some out3)
noncomputable def Ov (s1 : (List Int)) (n2 : Int) : Option ((List Int)) :=
 Lb (fun s=>Mx s1 n2 s.1 s.2) (([] : List Int),0)

noncomputable def MO (x1 : Kq) : Option ((List Int)) :=
 bif (x1.Op == 15) then
  some ([x1.B] : List Int)
 else
  bif (x1.Op == 17) then
   some ([x1.B] : List Int)
  else
   some ([] : List Int)

noncomputable def PZ (n1 : Int) : Option (Bool) :=
 bif (decide (n1 ≥ 0)) then
  some (decide (n1 < 512))
 else
  some false

noncomputable def Mw (s1 : (List Int)) (i6 : Int) (out7 : List Int) (done8 : Bool) : Option (((List Int) × Bool × Int) ⊕ ((List Int))) :=
 (ixO s1 i6).bind fun x_x12 =>
 chk (out7.length + ([x_x12] : List Int).length ≤ 16777216) <|
 cnt (out7 ++ ([x_x12] : List Int),done8,IntKind.i64.wrap (i6 + 1))
noncomputable def MQ (s1 : (List Int)) (i6 : Int) (n2 : Int) (out4 : List Int) (done5 : Bool) (x9 : Bool) : Option (((List Int) × Bool × Int) ⊕ ((List Int))) :=
 bif x9 then
  (ixO s1 i6).bind fun x_x11 =>
  bif (decide (x_x11 > n2)) then
   chk (out4.length + ([n2] : List Int).length ≤ 16777216) <|
   Mw s1 i6 (out4 ++ ([n2] : List Int)) true
  else
   Mw s1 i6 out4 true
 else
  Mw s1 i6 out4 done5
noncomputable def LP (s1 : (List Int)) (n2 : Int) (out4 : List Int) (done5 : Bool) (i6 : Int) : Option (((List Int) × Bool × Int) ⊕ ((List Int))) :=
 bif (decide (i6 < (s1.length : Int))) then
  bif (!done5) then
   (ixO s1 i6).bind fun x_x10 =>
   MQ s1 i6 n2 out4 done5 (decide (x_x10 ≥ n2))
  else
   MQ s1 i6 n2 out4 done5 false
 else
  lft (
   bif (!done5) then
    chk (out4.length + ([n2] : List Int).length ≤ 16777216) <|
    some (out4 ++ ([n2] : List Int))
   else
    some out4)
noncomputable def OE (s1 : (List Int)) (n2 : Int) : Option ((List Int)) :=
 (PZ n2).bind fun r3 =>
 Lb (fun s=>LP s1 n2 s.1 s.2.1 s.2.2) (([] : List Int),(!r3),0)

noncomputable def Nl (b2 : (List Int)) (out3 : List Int) (i4 : Int) : Option (((List Int) × Int) ⊕ ((List Int))) :=
 bif (decide (i4 < (b2.length : Int))) then
  (ixO b2 i4).bind fun x_x5 =>
  (OE out3 x_x5).bind fun r6 =>
  cnt (r6,IntKind.i64.wrap (i4 + 1))
 else
  lft (some out3)
noncomputable def Ni (a1 : (List Int)) (b2 : (List Int)) : Option ((List Int)) :=
 chk (([] : List Int).length + a1.length ≤ 16777216) <|
 Lb (fun s=>Nl b2 s.1 s.2) (([] : List Int) ++ a1,0)

noncomputable def Sf (x1 : Kq) (out2 : (List Int)) : Option ((List Int)) :=
 (MB x1).bind fun r3 =>
 bif r3.2 then
  (Ov out2 r3.1).bind fun r4 =>
  (MO x1).bind fun r5 =>
  (Ni r4 r5).bind fun r6 =>
  some r6
 else
  (MO x1).bind fun r7 =>
  (Ni out2 r7).bind fun r8 =>
  some r8

noncomputable def QK (k4 : Int) (x5 : List (List Int)) : Option (((List (List Int)) × Int) ⊕ (KL)) :=
 cnt (x5,IntKind.i64.wrap (k4 + 1))
noncomputable def NK (r6 : (List Int)) (k4 : Int) (f1 : Ku) (l2 : KL) (x7 : List (List Int)) (i8 : Int) : Option (((List (List Int)) × Int) ⊕ (((List (List Int)) × Int) ⊕ (KL))) :=
 bif (decide (i8 < (r6.length : Int))) then
  chk (0 ≤ i8 ∧ i8 < r6.length) <|
  ((r6)[i8.toNat]?).bind fun next_e9 =>
  chk (0 ≤ k4 ∧ k4 < x7.length) <|
  ((x7)[k4.toNat]?).bind fun x_e10 =>
  (ixO f1.Code next_e9).bind fun x_x11 =>
  (ixO l2.Out next_e9).bind fun x_x12 =>
  (Sf x_x11 x_x12).bind fun r13 =>
  (Ni x_e10 r13).bind fun r14 =>
  chk (0 ≤ k4 ∧ k4 < x7.length) <|
  ((x7)[k4.toNat]?).bind fun _ =>
  cnt (x7.set k4.toNat r14,IntKind.i64.wrap (i8 + 1))
 else
  lft (QK k4 x7)
noncomputable def NJ (f1 : Ku) (l2 : KL) (x3 : List (List Int)) (k4 : Int) : Option (((List (List Int)) × Int) ⊕ (KL)) :=
 bif (decide (k4 < (f1.Code.length : Int))) then
  (My f1 k4).bind fun r6 =>
  Lb (fun s=>NK r6 k4 f1 l2 s.1 s.2) (x3,0)
 else
  lft (some (KL.mk x3))
noncomputable def Qc (f1 : Ku) (l2 : KL) : Option (KL) :=
 chk (0 ≤ (f1.Code.length : Int) ∧ (f1.Code.length : Int) ≤ 16777216) <|
 Lb (fun s=>NJ f1 l2 s.1 s.2) (List.replicate (f1.Code.length : Int).toNat ([] : (List Int)),0)

noncomputable def Nc (a1 : (List Int)) (b2 : (List Int)) (i3 : Int) : Option ((Int) ⊕ (Bool)) :=
 bif (decide (i3 < (a1.length : Int))) then
  (ixO a1 i3).bind fun x_x4 =>
  (ixO b2 i3).bind fun x_x5 =>
  bif (x_x4 != x_x5) then
   lft (some false)
  else
   cnt (IntKind.i64.wrap (i3 + 1))
 else
  lft (some true)
noncomputable def PX (a1 : (List Int)) (b2 : (List Int)) : Option (Bool) :=
 bif ((a1.length : Int) != (b2.length : Int)) then
  some false
 else
  Lb (fun s=>Nc a1 b2 s) 0

noncomputable def Mg (a1 : (List (List Int))) (b2 : (List (List Int))) (i3 : Int) : Option ((Int) ⊕ (Bool)) :=
 bif (decide (i3 < (a1.length : Int))) then
  (ixO a1 i3).bind fun x_x4 =>
  (ixO b2 i3).bind fun x_x5 =>
  (PX x_x4 x_x5).bind fun r6 =>
  bif (!r6) then
   lft (some false)
  else
   cnt (IntKind.i64.wrap (i3 + 1))
 else
  lft (some true)
noncomputable def NI (a1 : (List (List Int))) (b2 : (List (List Int))) : Option (Bool) :=
 bif ((a1.length : Int) != (b2.length : Int)) then
  some false
 else
  Lb (fun s=>Mg a1 b2 s) 0

noncomputable def Qa (a1 : KL) (b2 : KL) : Option (Bool) :=
 (NI a1.Out b2.Out).bind fun r3 =>
 some r3

noncomputable def Qb (f1 : Ku) (l2 : List (List Int)) : Option (((List (List Int))) ⊕ (KL)) :=
 (Qc f1 (KL.mk l2)).bind fun r3 =>
 (Qa r3 (KL.mk l2)).bind fun r4 =>
 bif r4 then
  lft (some (KL.mk l2))
 else
  cnt r3.Out
noncomputable def OX (f1 : Ku) : Option (KL) :=
 chk (0 ≤ (f1.Code.length : Int) ∧ (f1.Code.length : Int) ≤ 16777216) <|
 Lb (fun s=>Qb f1 s) (List.replicate (f1.Code.length : Int).toNat ([] : (List Int)))

noncomputable def Nx (n8 : Int) (c9 : List Int) (c10 : Int) (x11 : List (List Int)) : Option (((List Int) × Int × (List (List Int)) × Int) ⊕ (KL × Ed)) :=
 cnt (c9,c10,x11,IntKind.i64.wrap (n8 - 1))
noncomputable def Nv (r12 : Int × Ed) (n8 : Int) (x13 : List (List Int)) (k14 : Int) : Option (((List (List Int)) × Int) ⊕ (((List Int) × Int × (List (List Int)) × Int) ⊕ (KL × Ed))) :=
 bif (decide (k14 < (x13.length : Int))) then
  chk (0 ≤ k14 ∧ k14 < x13.length) <|
  ((x13)[k14.toNat]?).bind fun x_e15 =>
  (OE x_e15 r12.1).bind fun r16 =>
  chk (0 ≤ k14 ∧ k14 < x13.length) <|
  ((x13)[k14.toNat]?).bind fun _ =>
  cnt (x13.set k14.toNat r16,IntKind.i64.wrap (k14 + 1))
 else
  lft (Nx n8 r12.2.list r12.2.at_ x13)
noncomputable def Nw (c5 : List Int) (c6 : Int) (f2 : Ku) (n8 : Int) (x7 : List (List Int)) : Option (((List Int) × Int × (List (List Int)) × Int) ⊕ (KL × Ed)) :=
 (Ky (Ed.mk c5 c6) (f2.Slots.length : Int)).bind fun r12 =>
 Lb (fun s=>Nv r12 n8 s.1 s.2) (x7,0)
noncomputable def Nu (f2 : Ku) (c5 : List Int) (c6 : Int) (x7 : List (List Int)) (n8 : Int) : Option (((List Int) × Int × (List (List Int)) × Int) ⊕ (KL × Ed)) :=
 bif (decide (n8 > 0)) then
  bif (decide ((f2.Slots.length : Int) > 0)) then
   Nw c5 c6 f2 n8 x7
  else
   lft (some ((KL.mk x7),(Ed.mk c5 c6)))
 else
  lft (some ((KL.mk x7),(Ed.mk c5 c6)))
noncomputable def MF (c1 : Ed) (f2 : Ku) : Option (KL × Ed) :=
 (OX f2).bind fun r3 =>
 chk (([] : List (List Int)).length + r3.Out.length ≤ 16777216) <|
 (Ky c1 3).bind fun r4 =>
 Lb (fun s=>Nu f2 s.1 s.2.1 s.2.2.1 s.2.2.2) (r4.2.list,r4.2.at_,([] : List (List Int)) ++ r3.Out,r4.1)

noncomputable def OW (codes1 : (List Int)) : Option (Ku × KL × Ed) :=
 (RP codes1 250).bind fun r2 =>
 (Mh r2 3 16).bind fun r3 =>
 (Ky r3.2 (r3.1.Funcs.length : Int)).bind fun r4 =>
 (ixO r3.1.Funcs r4.1).bind fun x_x5 =>
 (MF r4.2 x_x5).bind fun r6 =>
 some (x_x5,r6.1,r6.2)

noncomputable def Ou (s1 : (List Int)) (n2 : Int) (i3 : Int) : Option ((Int) ⊕ (Bool)) :=
 bif (decide (i3 < (s1.length : Int))) then
  (ixO s1 i3).bind fun x_x4 =>
  bif (x_x4 == n2) then
   lft (some true)
  else
   cnt (IntKind.i64.wrap (i3 + 1))
 else
  lft (some false)
noncomputable def PJ (s1 : (List Int)) (n2 : Int) : Option (Bool) :=
 Lb (fun s=>Ou s1 n2 s) 0

noncomputable def QF (f1 : Ku) (s3 : Int) (seen5 : List Bool) (todo6 : List Int) : Option (((List Bool) × (List Int)) ⊕ (Bool)) :=
 bif (decide ((todo6.length : Int) > 0)) then
  chk (0 ≤ (0 : Int) ∧ (0 : Int) < todo6.length) <|
  ((todo6)[(0 : Int).toNat]?).bind fun todo_e7 =>
  chk (0 ≤ (1 : Int) ∧ (1 : Int) ≤ todo6.length) <|
  chk (([] : List Int).length + (todo6.drop ((1 : Int).toNat)).length ≤ 16777216) <|
  chk (0 ≤ todo_e7 ∧ todo_e7 < seen5.length) <|
  ((seen5)[todo_e7.toNat]?).bind fun seen_e8 =>
  bif seen_e8 then
   cnt (seen5,([] : List Int) ++ (todo6.drop ((1 : Int).toNat)))
  else
   chk (0 ≤ todo_e7 ∧ todo_e7 < seen5.length) <|
   ((seen5)[todo_e7.toNat]?).bind fun _ =>
   (ixO f1.Code todo_e7).bind fun x_x10 =>
   (MO x_x10).bind fun r11 =>
   (PJ r11 s3).bind fun r12 =>
   bif r12 then
    lft (some true)
   else
    (ixO f1.Code todo_e7).bind fun x_x13 =>
    (MB x_x13).bind fun r14 =>
    bif (!r14.2) then
     (My f1 todo_e7).bind fun r15 =>
     chk ((([] : List Int) ++ (todo6.drop ((1 : Int).toNat))).length + r15.length ≤ 16777216) <|
     cnt (seen5.set todo_e7.toNat true,(([] : List Int) ++ (todo6.drop ((1 : Int).toNat))) ++ r15)
    else
     bif (r14.1 != s3) then
      (My f1 todo_e7).bind fun r16 =>
      chk ((([] : List Int) ++ (todo6.drop ((1 : Int).toNat))).length + r16.length ≤ 16777216) <|
      cnt (seen5.set todo_e7.toNat true,(([] : List Int) ++ (todo6.drop ((1 : Int).toNat))) ++ r16)
     else
      cnt (seen5.set todo_e7.toNat true,([] : List Int) ++ (todo6.drop ((1 : Int).toNat)))
 else
  lft (some false)
noncomputable def PW (f1 : Ku) (k2 : Int) (s3 : Int) : Option (Bool) :=
 chk (0 ≤ (f1.Code.length : Int) ∧ (f1.Code.length : Int) ≤ 16777216) <|
 (My f1 k2).bind fun r4 =>
 Lb (fun s=>QF f1 s3 s.1 s.2) (List.replicate (f1.Code.length : Int).toNat false,r4)

noncomputable def LW (k5 : Int) : Option ((Int) ⊕ (Bool)) :=
 cnt (IntKind.i64.wrap (k5 + 1))
noncomputable def LV (r3 : Ku × KL × Ed) (r4 : KL) (k5 : Int) (s6 : Int) : Option ((Int) ⊕ ((Int) ⊕ (Bool))) :=
 bif (decide (s6 < (r3.1.Slots.length : Int))) then
  (ixO r4.Out k5).bind fun x_x7 =>
  (PJ x_x7 s6).bind fun r8 =>
  (PW r3.1 k5 s6).bind fun r9 =>
  bif (!(r8 == r9)) then
   lft (lft (some false))
  else
   cnt (IntKind.i64.wrap (s6 + 1))
 else
  lft (LW k5)
noncomputable def LU (r3 : Ku × KL × Ed) (r4 : KL) (k5 : Int) : Option ((Int) ⊕ (Bool)) :=
 bif (decide (k5 < (r3.1.Code.length : Int))) then
  Lb (fun s=>LV r3 r4 k5 s) 0
 else
  lft (some true)
noncomputable def Lu (codes1 : (List Int)) : Option (Bool) :=
 (OV).bind fun r2 =>
 bif (!r2) then
  some false
 else
  (OW codes1).bind fun r3 =>
  (MH r3.1).bind fun r4 =>
  bif ((r4.Out.length : Int) != (r3.1.Code.length : Int)) then
   some false
  else
   Lb (fun s=>LU r3 r4 s) 0

end Go.Proofs.YtjjmcedpoolghaaDoor
