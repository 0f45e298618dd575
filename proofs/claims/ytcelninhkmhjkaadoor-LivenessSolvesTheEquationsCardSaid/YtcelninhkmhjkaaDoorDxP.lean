/-
 The programs on typed data; written by a program (dx.py).
-/
import Derived.Test.YtcelninhkmhjkaaDoorDxT
namespace Go.Proofs.YtcelninhkmhjkaaDoor
open Go Go.Dw Go.Proofs
set_option maxRecDepth 100000
noncomputable def Qc (op1 : Int) : Option (Bool) :=
 bif (op1 == 20) then
  some true
 else
  bif (op1 == 23) then
   some true
  else
   some (op1 == 24)

noncomputable def Rm (x_x3 : LS) (l4 : List Int) : Option ((List Int)) :=
 bif (x_x3.Op == 20) then
  chk (l4.length + ([x_x3.A] : List Int).length ≤ 16777216) <|
  chk ((l4 ++ ([x_x3.A] : List Int)).length < 4611686018427387904) <|
  chk ((Nk (l4 ++ ([x_x3.A] : List Int))).length < 4611686018427387904) <|
  some (Lib.compact (Nk (l4 ++ ([x_x3.A] : List Int))))
 else
  bif (x_x3.Op == 21) then
   chk (l4.length + ([x_x3.B] : List Int).length ≤ 16777216) <|
   chk ((l4 ++ ([x_x3.B] : List Int)).length < 4611686018427387904) <|
   chk ((Nk (l4 ++ ([x_x3.B] : List Int))).length < 4611686018427387904) <|
   some (Lib.compact (Nk (l4 ++ ([x_x3.B] : List Int))))
  else
   chk (l4.length < 4611686018427387904) <|
   chk ((Nk l4).length < 4611686018427387904) <|
   some (Lib.compact (Nk l4))
noncomputable def Ti (f1 : LW) (k2 : Int) : Option ((List Int)) :=
 (ixO f1.Code k2).bind fun x_x3 =>
 (Qc x_x3.Op).bind fun r5 =>
 bif (!r5) then
  chk (([] : List Int).length + ([IntKind.i64.wrap (k2 + 1)] : List Int).length ≤ 16777216) <|
  Rm x_x3 (([] : List Int) ++ ([IntKind.i64.wrap (k2 + 1)] : List Int))
 else
  Rm x_x3 ([] : List Int)
noncomputable def Qi (f1 : LW) (k2 : Int) : Option ((List Int)) :=
 bif (decide (k2 < 0)) then
  some ([] : List Int)
 else
  bif (decide (k2 ≥ (f1.Code.length : Int))) then
   some ([] : List Int)
  else
   Ti f1 k2

noncomputable def RB (r4 : (List Int)) (x3 : Int) (l5 : List (List Int)) (x6 : Int) : Option (((List (List Int)) × Int) ⊕ (((List (List Int)) × Int) ⊕ ((List (List Int))))) :=
 bif (decide (x6 < (r4.length : Int))) then
  chk (0 ≤ x6 ∧ x6 < r4.length) <|
  ((r4)[x6.toNat]?).bind fun x_e7 =>
  chk (0 ≤ x_e7 ∧ x_e7 < l5.length) <|
  ((l5)[x_e7.toNat]?).bind fun l_e8 =>
  chk (l_e8.length + ([x3] : List Int).length ≤ 16777216) <|
  chk (0 ≤ x_e7 ∧ x_e7 < l5.length) <|
  cnt (l5.set x_e7.toNat (l_e8 ++ ([x3] : List Int)),IntKind.i64.wrap (x6 + 1))
 else
  lft (cnt (l5,IntKind.i64.wrap (x3 + 1)))
noncomputable def RA (f1 : LW) (l2 : List (List Int)) (x3 : Int) : Option (((List (List Int)) × Int) ⊕ ((List (List Int)))) :=
 bif (decide (x3 < (f1.Code.length : Int))) then
  (Qi f1 x3).bind fun r4 =>
  MC (fun s=>RB r4 x3 s.1 s.2) (l2,0)
 else
  lft (some l2)
noncomputable def PH (f1 : LW) : Option ((List (List Int))) :=
 chk (0 ≤ (f1.Code.length : Int) ∧ (f1.Code.length : Int) ≤ 16777216) <|
 MC (fun s=>RA f1 s.1 s.2) (List.replicate (f1.Code.length : Int).toNat ([] : (List Int)),0)

noncomputable def OO (x1 : LS) : Option (Int × Bool) :=
 bif (x1.Op == 16) then
  bif (x1.Op == 16) then
   some (x1.A,true)
  else
   some (0,false)
 else
  bif (x1.Op == 17) then
   some (x1.A,true)
  else
   some (0,false)

noncomputable def NX (n1 : Int) : Option (Bool) :=
 bif (decide (n1 ≥ 0)) then
  some (decide (n1 < 512))
 else
  some false

noncomputable def Np (s1 : LV) (n2 : Int) (in3 : Bool) : Option (LV) :=
 chk (0 ≤ ((IntKind.u64.wrap (n2)).tmod 64)) <|
 (NX n2).bind fun r4 =>
 bif (!r4) then
  some s1
 else
  bif in3 then
   chk (0 ≤ (IntKind.i64.wrap (n2.tdiv 64)) ∧ (IntKind.i64.wrap (n2.tdiv 64)) < 8) <|
   ((s1.toList)[(IntKind.i64.wrap (n2.tdiv 64)).toNat]?).bind fun s_e5 =>
   chk (0 ≤ (IntKind.i64.wrap (n2.tdiv 64)) ∧ (IntKind.i64.wrap (n2.tdiv 64)) < 8) <|
   ((s1.toList)[(IntKind.i64.wrap (n2.tdiv 64)).toNat]?).bind fun _ =>
   some (s1.set ((IntKind.i64.wrap (n2.tdiv 64)).toNat) (IntKind.u64.wrap ((BitVec.ofInt IntKind.u64.bits s_e5 ||| BitVec.ofInt IntKind.u64.bits (IntKind.u64.wrap (1 * 2 ^ (Nat.min ((IntKind.u64.wrap (n2)).tmod 64).toNat IntKind.u64.bits)))).toNat)))
  else
   chk (0 ≤ (IntKind.i64.wrap (n2.tdiv 64)) ∧ (IntKind.i64.wrap (n2.tdiv 64)) < 8) <|
   ((s1.toList)[(IntKind.i64.wrap (n2.tdiv 64)).toNat]?).bind fun s_e7 =>
   chk (0 ≤ (IntKind.i64.wrap (n2.tdiv 64)) ∧ (IntKind.i64.wrap (n2.tdiv 64)) < 8) <|
   ((s1.toList)[(IntKind.i64.wrap (n2.tdiv 64)).toNat]?).bind fun _ =>
   some (s1.set ((IntKind.i64.wrap (n2.tdiv 64)).toNat) (IntKind.u64.wrap ((BitVec.ofInt IntKind.u64.bits s_e7 &&& ~~~ BitVec.ofInt IntKind.u64.bits (IntKind.u64.wrap (1 * 2 ^ (Nat.min ((IntKind.u64.wrap (n2)).tmod 64).toNat IntKind.u64.bits)))).toNat)))

noncomputable def Ql (l1 : (List Int)) (x2 : LV) (x3 : Int) : Option ((LV × Int) ⊕ (LV)) :=
 bif (decide (x3 < (l1.length : Int))) then
  (ixO l1 x3).bind fun x_x4 =>
  (Np x2 x_x4 true).bind fun r5 =>
  cnt (r5,IntKind.i64.wrap (x3 + 1))
 else
  lft (some x2)
noncomputable def ND (l1 : (List Int)) : Option (LV) :=
 MC (fun s=>Ql l1 s.1 s.2) ((LV.mk 0 0 0 0 0 0 0 0),0)

noncomputable def Ok (x3 : Int) (l5 : List Int) (x6 : Int) : Option (((List Int) × Int) ⊕ (((List Int) × Int) ⊕ ((List Int) × LV))) :=
 bif (x6 != 0) then
  (Xt x6).bind fun r7 =>
  chk (l5.length + ([IntKind.i64.wrap ((IntKind.i64.wrap (64 * x3)) + r7)] : List Int).length ≤ 16777216) <|
  cnt (l5 ++ ([IntKind.i64.wrap ((IntKind.i64.wrap (64 * x3)) + r7)] : List Int),IntKind.u64.wrap ((BitVec.ofInt IntKind.u64.bits x6 &&& BitVec.ofInt IntKind.u64.bits (IntKind.u64.wrap (x6 - 1))).toNat))
 else
  lft (cnt (l5,IntKind.i64.wrap (x3 + 1)))
noncomputable def Oj (s1 : LV) (l2 : List Int) (x3 : Int) : Option (((List Int) × Int) ⊕ ((List Int) × LV)) :=
 bif (decide (x3 < 8)) then
  chk (0 ≤ x3 ∧ x3 < 8) <|
  ((s1.toList)[x3.toNat]?).bind fun s_e4 =>
  MC (fun s=>Ok x3 s.1 s.2) (l2,s_e4)
 else
  lft (some (l2,s1))
noncomputable def Nd (s1 : LV) : Option ((List Int) × LV) :=
 MC (fun s=>Oj s1 s.1 s.2) (([] : List Int),0)

noncomputable def OD (s1 : (List Int)) (n2 : Int) : Option ((List Int)) :=
 (ND s1).bind fun r3 =>
 (Np r3 n2 false).bind fun r4 =>
 (Nd r4).bind fun r5 =>
 some r5.1

noncomputable def PG (x1 : LS) : Option ((List Int)) :=
 bif (x1.Op == 15) then
  bif (x1.Op == 15) then
   some ([x1.B] : List Int)
  else
   some ([] : List Int)
 else
  bif (x1.Op == 17) then
   some ([x1.B] : List Int)
  else
   some ([] : List Int)

noncomputable def Qh (l1 : (List Int)) : Option ((List Int)) :=
 (ND l1).bind fun r2 =>
 (Nd r2).bind fun r3 =>
 some r3.1

noncomputable def ON (x1 : Int) (y2 : Int) : Option (Int) :=
 some (IntKind.u64.wrap ((BitVec.ofInt IntKind.u64.bits x1 ||| BitVec.ofInt IntKind.u64.bits y2).toNat))

noncomputable def MV (s1 : LV) (t2 : LV) (x3 : LV) (x4 : Int) : Option ((LV × Int) ⊕ (LV × LV × LV)) :=
 bif (decide (x4 < 8)) then
  chk (0 ≤ x4 ∧ x4 < 8) <|
  ((s1.toList)[x4.toNat]?).bind fun s_e5 =>
  chk (0 ≤ x4 ∧ x4 < 8) <|
  ((t2.toList)[x4.toNat]?).bind fun t_e6 =>
  (ON s_e5 t_e6).bind fun r7 =>
  chk (0 ≤ x4 ∧ x4 < 8) <|
  ((x3.toList)[x4.toNat]?).bind fun _ =>
  cnt ((x3.set x4.toNat r7),IntKind.i64.wrap (x4 + 1))
 else
  lft (some (x3,s1,t2))
noncomputable def MT (s1 : LV) (t2 : LV) : Option (LV × LV × LV) :=
 MC (fun s=>MV s1 t2 s.1 s.2) ((LV.mk 0 0 0 0 0 0 0 0),0)

noncomputable def Nz (a1 : (List Int)) (b2 : (List Int)) : Option ((List Int)) :=
 (ND a1).bind fun r3 =>
 (ND b2).bind fun r4 =>
 (MT r3 r4).bind fun r5 =>
 (Nd r5.1).bind fun r6 =>
 some r6.1

noncomputable def Rl (x1 : LS) (out2 : (List Int)) : Option ((List Int)) :=
 (OO x1).bind fun r3 =>
 bif r3.2 then
  (OD out2 r3.1).bind fun r4 =>
  (PG x1).bind fun r5 =>
  (Qh r5).bind fun r6 =>
  (Nz r4 r6).bind fun r7 =>
  some r7
 else
  (PG x1).bind fun r8 =>
  (Qh r8).bind fun r9 =>
  (Nz out2 r9).bind fun r10 =>
  some r10

noncomputable def Nw (s11 : (List Int)) (s22 : (List Int)) (x3 : Int) : Option ((Int) ⊕ (Bool)) :=
 bif (decide (x3 < (s11.length : Int))) then
  (ixO s11 x3).bind fun x_x4 =>
  (ixO s22 x3).bind fun x_x5 =>
  bif (x_x4 != x_x5) then
   lft (some false)
  else
   cnt (IntKind.i64.wrap (x3 + 1))
 else
  lft (some true)
noncomputable def Nv (s11 : (List Int)) (s22 : (List Int)) : Option (Bool) :=
 bif ((s11.length : Int) != (s22.length : Int)) then
  some false
 else
  MC (fun s=>Nw s11 s22 s) 0

noncomputable def OK (x5 : Int) (x6 : List (Int × Bool)) (x7 : List Int) : Option (((List (Int × Bool)) × (List Int) × Int) ⊕ (Mg)) :=
 cnt (x6,x7,IntKind.i64.wrap (x5 + 1))
noncomputable def NY (x27 : Int) (x29 : List (Int × Bool)) (x30 : List Int) : Option (((List (Int × Bool)) × (List Int) × Int) ⊕ (((List (List Int)) × (List (Int × Bool)) × (List Int)) ⊕ (Mg))) :=
 cnt (x29,x30,IntKind.i64.wrap (x27 + 1))
noncomputable def PR (x_x24 : (List Int)) (x8 : List (List Int)) (x_e11 : Int) (x12 : List Int) (x25 : List (Int × Bool)) (x26 : List Int) (x27 : Int) : Option (((List (Int × Bool)) × (List Int) × Int) ⊕ (((List (List Int)) × (List (Int × Bool)) × (List Int)) ⊕ (Mg))) :=
 bif (decide (x27 < (x_x24.length : Int))) then
  (ixO x_x24 x27).bind fun x_x28 =>
  bif (!(Nc false x_x28 x25)) then
   chk (x26.length + ([x_x28] : List Int).length ≤ 16777216) <|
   NY x27 (NC x_x28 true x25) (x26 ++ ([x_x28] : List Int))
  else
   NY x27 x25 x26
 else
  lft (cnt (x8.set x_e11.toNat x12,x25,x26))
noncomputable def PS (x_e11 : Int) (x8 : List (List Int)) (x9 : List (Int × Bool)) (x10 : List Int) (r2 : (List (List Int))) (x12 : List Int) : Option (((List (List Int)) × (List (Int × Bool)) × (List Int)) ⊕ (Mg)) :=
 chk (0 ≤ x_e11 ∧ x_e11 < x8.length) <|
 ((x8)[x_e11.toNat]?).bind fun x_e21 =>
 (Nv x12 x_e21).bind fun r22 =>
 bif r22 then
  cnt (x8,Ni x_e11 x9,x10.take ((IntKind.i64.wrap ((x10.length : Int) - 1)).toNat))
 else
  chk (0 ≤ x_e11 ∧ x_e11 < x8.length) <|
  ((x8)[x_e11.toNat]?).bind fun _ =>
  (ixO r2 x_e11).bind fun x_x24 =>
  MC (fun s=>PR x_x24 x8 x_e11 x12 s.1 s.2.1 s.2.2) (Ni x_e11 x9,x10.take ((IntKind.i64.wrap ((x10.length : Int) - 1)).toNat),0)
noncomputable def PQ (r13 : (List Int)) (f1 : LW) (x8 : List (List Int)) (x_e11 : Int) (x9 : List (Int × Bool)) (x10 : List Int) (r2 : (List (List Int))) (x14 : Int) (s15 : List Int) : Option ((Int × (List Int)) ⊕ (((List (List Int)) × (List (Int × Bool)) × (List Int)) ⊕ (Mg))) :=
 bif (decide (x14 < (r13.length : Int))) then
  chk (0 ≤ x14 ∧ x14 < r13.length) <|
  ((r13)[x14.toNat]?).bind fun x_e16 =>
  (ixO f1.Code x_e16).bind fun x_x17 =>
  chk (0 ≤ x_e16 ∧ x_e16 < x8.length) <|
  ((x8)[x_e16.toNat]?).bind fun x_e18 =>
  (Rl x_x17 x_e18).bind fun r19 =>
  (Nz s15 r19).bind fun r20 =>
  cnt (IntKind.i64.wrap (x14 + 1),r20)
 else
  lft (PS x_e11 x8 x9 x10 r2 s15)
noncomputable def PO (f1 : LW) (r2 : (List (List Int))) (x8 : List (List Int)) (x9 : List (Int × Bool)) (x10 : List Int) : Option (((List (List Int)) × (List (Int × Bool)) × (List Int)) ⊕ (Mg)) :=
 bif (decide ((x10.length : Int) > 0)) then
  chk (0 ≤ (IntKind.i64.wrap ((x10.length : Int) - 1)) ∧ (IntKind.i64.wrap ((x10.length : Int) - 1)) < x10.length) <|
  ((x10)[(IntKind.i64.wrap ((x10.length : Int) - 1)).toNat]?).bind fun x_e11 =>
  chk (0 ≤ (IntKind.i64.wrap ((x10.length : Int) - 1)) ∧ (IntKind.i64.wrap ((x10.length : Int) - 1)) ≤ x10.length) <|
  (Qi f1 x_e11).bind fun r13 =>
  MC (fun s=>PQ r13 f1 x8 x_e11 x9 x10 r2 s.1 s.2) (0,([] : List Int))
 else
  lft (some (Mg.mk x8))
noncomputable def PN (f1 : LW) (r2 : (List (List Int))) (x3 : List (Int × Bool)) (x4 : List Int) (x5 : Int) : Option (((List (Int × Bool)) × (List Int) × Int) ⊕ (Mg)) :=
 bif (decide (x5 < (f1.Code.length : Int))) then
  bif (!(Nc false x5 x3)) then
   chk (x4.length + ([x5] : List Int).length ≤ 16777216) <|
   OK x5 (NC x5 true x3) (x4 ++ ([x5] : List Int))
  else
   OK x5 x3 x4
 else
  lft (MC (fun s=>PO f1 r2 s.1 s.2.1 s.2.2) (List.replicate (f1.Code.length : Int).toNat ([] : (List Int)),x3,x4))
noncomputable def Oe (f1 : LW) : Option (Mg) :=
 chk (0 ≤ (f1.Code.length : Int) ∧ (f1.Code.length : Int) ≤ 16777216) <|
 (PH f1).bind fun r2 =>
 MC (fun s=>PN f1 r2 s.1 s.2.1 s.2.2) (([] : List (Int × Bool)),([] : List Int),0)

noncomputable def QD  : Option (Bool) :=
 (Oe (LW.mk 0 ([(Mx.mk 8 8)] : List Mx) ([(LS.mk 16 0 0 0 0),(LS.mk 15 0 0 0 0),(LS.mk 23 0 0 0 0)] : List LS))).bind fun r1 =>
 bif ((r1.Out.length : Int) == 3) then
  (ixO r1.Out 0).bind fun x_x2 =>
  some ((x_x2.length : Int) == 1)
 else
  some false

noncomputable def TL (list1 : (List Int)) (limit2 : Int) : Option (LR) :=
 chk (0 ≤ (Tp (list1.length : Int) limit2) ∧ (Tp (list1.length : Int) limit2) ≤ list1.length) <|
 some (LR.mk (list1.take (Tp (list1.length : Int) limit2).toNat) 0)

noncomputable def Pr (c1 : LR) : Option (Bool × LR) :=
 some ((decide (c1.at_ < (c1.list.length : Int))),c1)

noncomputable def Pt (n2 : Int) (c3 : List Int) (c4 : Int) : Option (Int × LR) :=
 (ixO c3 c4).bind fun x_x6 =>
 some (IntKind.i64.wrap ((IntKind.i64.wrap ((IntKind.i64.wrap (x_x6)) * n2)).tdiv 256),(LR.mk c3 (IntKind.i64.wrap (c4 + 1))))
noncomputable def Mc (c1 : LR) (n2 : Int) : Option (Int × LR) :=
 (Pr c1).bind fun r5 =>
 bif (!r5.1) then
  some (0,r5.2)
 else
  bif (decide (n2 < 1)) then
   some (0,r5.2)
  else
   Pt n2 r5.2.list r5.2.at_

noncomputable def Ow (c1 : LR) : Option (Mx × LR) :=
 (Mc c1 7).bind fun r2 =>
 chk (0 ≤ r2.1 ∧ r2.1 < ([8,4,8,1,2,16,8] : List Int).length) <|
 ((([8,4,8,1,2,16,8] : List Int))[r2.1.toNat]?).bind fun x_e3 =>
 (Mc r2.2 8).bind fun r4 =>
 chk (0 ≤ r4.1 ∧ r4.1 < ([8,4,1,8,16,2,32,64] : List Int).length) <|
 ((([8,4,1,8,16,2,32,64] : List Int))[r4.1.toNat]?).bind fun x_e5 =>
 some ((Mx.mk x_e3 x_e5),r4.2)

noncomputable def Pd (c4 : List Int) (c5 : Int) (l6 : List Mx) (n7 : Int) : Option (((List Int) × Int × (List Mx) × Int) ⊕ ((List Mx) × LR)) :=
 bif (decide (n7 > 0)) then
  (Ow (LR.mk c4 c5)).bind fun r8 =>
  chk (l6.length + ([r8.1] : List Mx).length ≤ 16777216) <|
  cnt (r8.2.list,r8.2.at_,l6 ++ ([r8.1] : List Mx),IntKind.i64.wrap (n7 - 1))
 else
  lft (some (l6,(LR.mk c4 c5)))
noncomputable def Oc (c1 : LR) (most2 : Int) : Option ((List Mx) × LR) :=
 (Mc c1 (IntKind.i64.wrap (most2 + 1))).bind fun r3 =>
 MC (fun s=>Pd s.1 s.2.1 s.2.2.1 s.2.2.2) (r3.2.list,r3.2.at_,([] : List Mx),r3.1)

noncomputable def Pv (f2 : LW) (s3 : Int) (c1 : LR) (l4 : List Int) (k5 : Int) : Option (((List Int) × Int) ⊕ (Int × LR)) :=
 bif (decide (k5 < (f2.Slots.length : Int))) then
  (ixO f2.Slots k5).bind fun x_x6 =>
  (ixO f2.Slots s3).bind fun x_x7 =>
  bif (x_x6.Size == x_x7.Size) then
   chk (l4.length + ([k5] : List Int).length ≤ 16777216) <|
   cnt (l4 ++ ([k5] : List Int),IntKind.i64.wrap (k5 + 1))
  else
   cnt (l4,IntKind.i64.wrap (k5 + 1))
 else
  lft (
   (Mc c1 (l4.length : Int)).bind fun r8 =>
   chk (0 ≤ r8.1 ∧ r8.1 < l4.length) <|
   ((l4)[r8.1.toNat]?).bind fun l_e9 =>
   some (l_e9,r8.2))
noncomputable def Oy (c1 : LR) (f2 : LW) (s3 : Int) : Option (Int × LR) :=
 MC (fun s=>Pv f2 s3 c1 s.1 s.2) (([] : List Int),0)

noncomputable def NU (c1 : LR) : Option (Int × LR) :=
 (Mc c1 6).bind fun r2 =>
 bif (r2.1 == 0) then
  (Mc r2.2 3).bind fun r3 =>
  some (IntKind.u64.wrap (18446744073709551615 - (IntKind.u64.wrap (r3.1))),r3.2)
 else
  bif (r2.1 == 1) then
   (Mc r2.2 64).bind fun r4 =>
   chk (0 ≤ r4.1) <|
   some (IntKind.u64.wrap (1 * 2 ^ (Nat.min r4.1.toNat IntKind.u64.bits)),r4.2)
  else
   bif (r2.1 == 2) then
    some (0,r2.2)
   else
    (Mc r2.2 256).bind fun r5 =>
    some (IntKind.u64.wrap (r5.1),r5.2)

noncomputable def Pu (params4 : (List Int)) (i3 : Int) (r23 : Int × LR) (c24 : List Int) (c25 : Int) (out26 : List LS) (a27 : Int) : Option (((List Int) × Int × (List LS) × Int) ⊕ ((List LS) × LR)) :=
 (ixO params4 (IntKind.i64.wrap ((IntKind.i64.wrap (i3 + 1)) + r23.1))).bind fun x_x28 =>
 bif (decide (a27 < x_x28)) then
  (Mc (LR.mk c24 c25) 8).bind fun r29 =>
  bif (decide (r29.1 < 7)) then
   (Mc r29.2 4).bind fun r30 =>
   chk (out26.length + ([(LS.mk 18 a27 r30.1 0 0)] : List LS).length ≤ 16777216) <|
   cnt (r30.2.list,r30.2.at_,out26 ++ ([(LS.mk 18 a27 r30.1 0 0)] : List LS),IntKind.i64.wrap (a27 + 1))
  else
   cnt (r29.2.list,r29.2.at_,out26,IntKind.i64.wrap (a27 + 1))
 else
  lft (
   chk (out26.length + ([(LS.mk 22 (IntKind.i64.wrap ((IntKind.i64.wrap (i3 + 1)) + r23.1)) 0 0 0)] : List LS).length ≤ 16777216) <|
   some (out26 ++ ([(LS.mk 22 (IntKind.i64.wrap ((IntKind.i64.wrap (i3 + 1)) + r23.1)) 0 0 0)] : List LS),(LR.mk c24 c25)))
noncomputable def Ri (r5 : Int × LR) (r6 : Int × LR) : Option ((List LS) × LR) :=
 some (([(LS.mk 14 r5.1 0 0 0)] : List LS),r6.2)
noncomputable def NM (r6 : Int × LR) (params4 : (List Int)) (i3 : Int) (r5 : Int × LR) (x22 : Bool) : Option ((List LS) × LR) :=
 bif x22 then
  (Mc r6.2 (IntKind.i64.wrap ((IntKind.i64.wrap ((params4.length : Int) - i3)) - 1))).bind fun r23 =>
  MC (fun s=>Pu params4 i3 r23 s.1 s.2.1 s.2.2.1 s.2.2.2) (r23.2.list,r23.2.at_,([] : List LS),0)
 else
  Ri r5 r6
noncomputable def NL (r6 : Int × LR) (f2 : LW) (r5 : Int × LR) (params4 : (List Int)) (i3 : Int) (x20 : Bool) : Option ((List LS) × LR) :=
 bif x20 then
  (Mc r6.2 f2.Params).bind fun r21 =>
  some (([(LS.mk 19 r5.1 r21.1 0 0)] : List LS),r21.2)
 else
  bif (decide (r6.1 ≥ 17)) then
   NM r6 params4 i3 r5 (decide ((IntKind.i64.wrap (i3 + 1)) < (params4.length : Int)))
  else
   NM r6 params4 i3 r5 false
noncomputable def NK (r6 : Int × LR) (f2 : LW) (r5 : Int × LR) (params4 : (List Int)) (i3 : Int) (x11 : Bool) : Option ((List LS) × LR) :=
 bif x11 then
  (Mc r6.2 (f2.Slots.length : Int)).bind fun r12 =>
  (Oy r12.2 f2 r12.1).bind fun r13 =>
  some (([(LS.mk 17 r13.1 r12.1 0 0)] : List LS),r13.2)
 else
  bif (decide (r6.1 < 11)) then
   (NU r6.2).bind fun r14 =>
   some (([(LS.mk 0 r5.1 0 0 r14.1)] : List LS),r14.2)
  else
   bif (decide (r6.1 < 13)) then
    (Mc r6.2 10).bind fun r15 =>
    (Mc r15.2 4).bind fun r16 =>
    (Mc r16.2 8).bind fun r17 =>
    some (([(LS.mk (IntKind.i64.wrap (2 + r15.1)) r5.1 r16.1 r17.1 0)] : List LS),r17.2)
   else
    bif (decide (r6.1 < 15)) then
     some (([(LS.mk 14 r5.1 0 0 0)] : List LS),r6.2)
    else
     bif (r6.1 == 15) then
      (Mc r6.2 3).bind fun r18 =>
      chk (0 ≤ r18.1 ∧ r18.1 < ([13,12,1] : List Int).length) <|
      ((([13,12,1] : List Int))[r18.1.toNat]?).bind fun x_e19 =>
      some (([(LS.mk x_e19 r5.1 0 0 0)] : List LS),r18.2)
     else
      bif (r6.1 == 16) then
       NL r6 f2 r5 params4 i3 (decide (f2.Params > 0))
      else
       NL r6 f2 r5 params4 i3 false
noncomputable def NJ (r6 : Int × LR) (f2 : LW) (r5 : Int × LR) (params4 : (List Int)) (i3 : Int) (x9 : Bool) : Option ((List LS) × LR) :=
 bif x9 then
  (Mc r6.2 (f2.Slots.length : Int)).bind fun r10 =>
  some (([(LS.mk 15 r5.1 r10.1 0 0)] : List LS),r10.2)
 else
  bif (decide (r6.1 < 9)) then
   NK r6 f2 r5 params4 i3 (decide ((f2.Slots.length : Int) > 0))
  else
   NK r6 f2 r5 params4 i3 false
noncomputable def NI (r6 : Int × LR) (f2 : LW) (r5 : Int × LR) (params4 : (List Int)) (i3 : Int) (x7 : Bool) : Option ((List LS) × LR) :=
 bif x7 then
  (Mc r6.2 (f2.Slots.length : Int)).bind fun r8 =>
  some (([(LS.mk 16 r8.1 r5.1 0 0)] : List LS),r8.2)
 else
  bif (decide (r6.1 < 6)) then
   NJ r6 f2 r5 params4 i3 (decide ((f2.Slots.length : Int) > 0))
  else
   NJ r6 f2 r5 params4 i3 false
noncomputable def Ox (c1 : LR) (f2 : LW) (i3 : Int) (params4 : (List Int)) : Option ((List LS) × LR) :=
 (Mc c1 4).bind fun r5 =>
 (Mc r5.2 20).bind fun r6 =>
 bif (decide (r6.1 < 3)) then
  NI r6 f2 r5 params4 i3 (decide ((f2.Slots.length : Int) > 0))
 else
  NI r6 f2 r5 params4 i3 false

noncomputable def NB (k32 : Int) (code31 : List LS) (r33 : Int × LR) (to34 : Int) (x35 : Bool) : Option (((List Int) × Int × (List LS) × Int) ⊕ (LW × LR)) :=
 bif x35 then
  chk (0 ≤ k32 ∧ k32 < code31.length) <|
  ((code31)[k32.toNat]?).bind fun code_o38 =>
  cnt (r33.2.list,r33.2.at_,code31.set k32.toNat (LS.mk code_o38.Op to34 code_o38.B code_o38.C code_o38.Imm),IntKind.i64.wrap (k32 + 1))
 else
  chk (0 ≤ k32 ∧ k32 < code31.length) <|
  ((code31)[k32.toNat]?).bind fun code_e39 =>
  bif (code_e39.Op == 21) then
   chk (0 ≤ k32 ∧ k32 < code31.length) <|
   ((code31)[k32.toNat]?).bind fun code_e40 =>
   bif (decide (code_e40.B < 0)) then
    chk (0 ≤ k32 ∧ k32 < code31.length) <|
    ((code31)[k32.toNat]?).bind fun code_o41 =>
    cnt (r33.2.list,r33.2.at_,code31.set k32.toNat (LS.mk code_o41.Op code_o41.A to34 code_o41.C code_o41.Imm),IntKind.i64.wrap (k32 + 1))
   else
    cnt (r33.2.list,r33.2.at_,code31,IntKind.i64.wrap (k32 + 1))
  else
   cnt (r33.2.list,r33.2.at_,code31,IntKind.i64.wrap (k32 + 1))
noncomputable def MP (k32 : Int) (code31 : List LS) (r33 : Int × LR) (to34 : Int) : Option (((List Int) × Int × (List LS) × Int) ⊕ (LW × LR)) :=
 chk (0 ≤ k32 ∧ k32 < code31.length) <|
 ((code31)[k32.toNat]?).bind fun code_e36 =>
 bif (code_e36.Op == 20) then
  chk (0 ≤ k32 ∧ k32 < code31.length) <|
  ((code31)[k32.toNat]?).bind fun code_e37 =>
  NB k32 code31 r33 to34 (decide (code_e37.A < 0))
 else
  NB k32 code31 r33 to34 false
noncomputable def NA (x_x5 : Int) (f17 : List Mx) (c29 : List Int) (c30 : Int) (code31 : List LS) (k32 : Int) : Option (((List Int) × Int × (List LS) × Int) ⊕ (LW × LR)) :=
 bif (decide (k32 < (code31.length : Int))) then
  (Mc (LR.mk c29 c30) 8).bind fun r33 =>
  bif (decide ((IntKind.i64.wrap ((IntKind.i64.wrap (k32 + r33.1)) - 2)) < 0)) then
   MP k32 code31 r33 (IntKind.i64.wrap ((code31.length : Int) - 1))
  else
   bif (decide ((IntKind.i64.wrap ((IntKind.i64.wrap (k32 + r33.1)) - 2)) ≥ (code31.length : Int))) then
    MP k32 code31 r33 (IntKind.i64.wrap ((code31.length : Int) - 1))
   else
    MP k32 code31 r33 (IntKind.i64.wrap ((IntKind.i64.wrap (k32 + r33.1)) - 2))
 else
  lft (some ((LW.mk x_x5 f17 code31),(LR.mk c29 c30)))
noncomputable def Nj (code16 : List LS) (x_x5 : Int) (f17 : List Mx) (c23 : List Int) (c24 : Int) (end25 : Int) (end26 : Int) : Option (LW × LR) :=
 chk (code16.length + ([(LS.mk end25 0 0 0 end26)] : List LS).length ≤ 16777216) <|
 MC (fun s=>NA x_x5 f17 s.1 s.2.1 s.2.2.1 s.2.2.2) (c23,c24,code16 ++ ([(LS.mk end25 0 0 0 end26)] : List LS),0)
noncomputable def On (x_x5 : Int) (i2 : Int) (params3 : (List Int)) (c14 : List Int) (c15 : Int) (code16 : List LS) (f17 : List Mx) (n18 : Int) : Option (((List Int) × Int × (List LS) × (List Mx) × Int) ⊕ (LW × LR)) :=
 bif (decide (n18 > 0)) then
  (Ox (LR.mk c14 c15) (LW.mk x_x5 f17 ([])) i2 params3).bind fun r19 =>
  chk (code16.length + r19.1.length ≤ 16777216) <|
  (Mc r19.2 9).bind fun r20 =>
  bif (r20.1 == 7) then
   (Mc r20.2 4).bind fun r21 =>
   chk ((code16 ++ r19.1).length + ([(LS.mk 21 r21.1 (-1) 0 0)] : List LS).length ≤ 16777216) <|
   cnt (r21.2.list,r21.2.at_,(code16 ++ r19.1) ++ ([(LS.mk 21 r21.1 (-1) 0 0)] : List LS),f17,IntKind.i64.wrap (n18 - 1))
  else
   bif (r20.1 == 8) then
    (Mc r20.2 3).bind fun r22 =>
    bif (r22.1 == 2) then
     chk ((code16 ++ r19.1).length + ([(LS.mk 20 (-1) 0 0 0)] : List LS).length ≤ 16777216) <|
     cnt (r22.2.list,r22.2.at_,(code16 ++ r19.1) ++ ([(LS.mk 20 (-1) 0 0 0)] : List LS),f17,IntKind.i64.wrap (n18 - 1))
    else
     cnt (r22.2.list,r22.2.at_,code16 ++ r19.1,f17,IntKind.i64.wrap (n18 - 1))
   else
    cnt (r20.2.list,r20.2.at_,code16 ++ r19.1,f17,IntKind.i64.wrap (n18 - 1))
 else
  lft (
   (Mc (LR.mk c14 c15) 12).bind fun r27 =>
   bif (r27.1 == 11) then
    (NU r27.2).bind fun r28 =>
    Nj code16 x_x5 f17 r28.2.list r28.2.at_ 24 r28.1
   else
    Nj code16 x_x5 f17 r27.2.list r27.2.at_ 23 0)
noncomputable def Om (r6 : (List Mx) × LR) (most4 : Int) (x_x5 : Int) (i2 : Int) (params3 : (List Int)) (c7 : List Int) (c8 : Int) (code9 : List LS) (s10 : Int) : Option (((List Int) × Int × (List LS) × Int) ⊕ (LW × LR)) :=
 bif (decide (s10 < (r6.1.length : Int))) then
  (Mc (LR.mk c7 c8) 4).bind fun r11 =>
  bif (decide (r11.1 < 3)) then
   (Mc r11.2 4).bind fun r12 =>
   chk (code9.length + ([(LS.mk 16 s10 r12.1 0 0)] : List LS).length ≤ 16777216) <|
   cnt (r12.2.list,r12.2.at_,code9 ++ ([(LS.mk 16 s10 r12.1 0 0)] : List LS),IntKind.i64.wrap (s10 + 1))
  else
   cnt (r11.2.list,r11.2.at_,code9,IntKind.i64.wrap (s10 + 1))
 else
  lft (
   (Mc (LR.mk c7 c8) (IntKind.i64.wrap (most4 + 1))).bind fun r13 =>
   MC (fun s=>On x_x5 i2 params3 s.1 s.2.1 s.2.2.1 s.2.2.2.1 s.2.2.2.2) (r13.2.list,r13.2.at_,code9,r6.1,r13.1))
noncomputable def Ny (c1 : LR) (i2 : Int) (params3 : (List Int)) (most4 : Int) : Option (LW × LR) :=
 (ixO params3 i2).bind fun x_x5 =>
 (Oc c1 6).bind fun r6 =>
 MC (fun s=>Om r6 most4 x_x5 i2 params3 s.1 s.2.1 s.2.2.1 s.2.2.2) (r6.2.list,r6.2.at_,([] : List LS),0)

noncomputable def Ov (most3 : Int) (c10 : List Int) (c11 : Int) (p12 : List LW) (i13 : Int) (params14 : List Int) : Option (((List Int) × Int × (List LW) × Int × (List Int)) ⊕ (OB × LR)) :=
 bif (decide (i13 < (params14.length : Int))) then
  chk (([] : List LW).length + p12.length ≤ 16777216) <|
  (Ny (LR.mk c10 c11) i13 params14 most3).bind fun r15 =>
  chk ((([] : List LW) ++ p12).length + ([r15.1] : List LW).length ≤ 16777216) <|
  cnt (r15.2.list,r15.2.at_,(([] : List LW) ++ p12) ++ ([r15.1] : List LW),IntKind.i64.wrap (i13 + 1),params14)
 else
  lft (some ((OB.mk p12),(LR.mk c10 c11)))
noncomputable def Ou (most3 : Int) (c5 : List Int) (c6 : Int) (params7 : List Int) (n8 : Int) : Option (((List Int) × Int × (List Int) × Int) ⊕ (OB × LR)) :=
 bif (decide (n8 > 0)) then
  (Mc (LR.mk c5 c6) 4).bind fun r9 =>
  chk (params7.length + ([r9.1] : List Int).length ≤ 16777216) <|
  cnt (r9.2.list,r9.2.at_,params7 ++ ([r9.1] : List Int),IntKind.i64.wrap (n8 - 1))
 else
  lft (MC (fun s=>Ov most3 s.1 s.2.1 s.2.2.1 s.2.2.2.1 s.2.2.2.2) (c5,c6,[],0,params7))
noncomputable def NH (c1 : LR) (funcs2 : Int) (most3 : Int) : Option (OB × LR) :=
 (Mc c1 funcs2).bind fun r4 =>
 MC (fun s=>Ou most3 s.1 s.2.1 s.2.2.1 s.2.2.2) (r4.2.list,r4.2.at_,([0] : List Int),r4.1)

noncomputable def Nt (x_x3 : LS) (k2 : Int) (x4 : Bool) : Option ((List Int)) :=
 bif x4 then
  some ([] : List Int)
 else
  bif (x_x3.Op == 21) then
   bif (decide (x_x3.B < (IntKind.i64.wrap (k2 + 1)))) then
    some ([x_x3.B,IntKind.i64.wrap (k2 + 1)] : List Int)
   else
    bif (decide (x_x3.B > (IntKind.i64.wrap (k2 + 1)))) then
     some ([IntKind.i64.wrap (k2 + 1),x_x3.B] : List Int)
    else
     some ([IntKind.i64.wrap (k2 + 1)] : List Int)
  else
   some ([IntKind.i64.wrap (k2 + 1)] : List Int)
noncomputable def Sr (f1 : LW) (k2 : Int) : Option ((List Int)) :=
 (ixO f1.Code k2).bind fun x_x3 =>
 bif (x_x3.Op == 20) then
  some ([x_x3.A] : List Int)
 else
  bif (x_x3.Op == 23) then
   Nt x_x3 k2 (x_x3.Op == 23)
  else
   Nt x_x3 k2 (x_x3.Op == 24)
noncomputable def RH (f1 : LW) (k2 : Int) : Option ((List Int)) :=
 bif (decide (k2 < 0)) then
  some ([] : List Int)
 else
  bif (decide (k2 ≥ (f1.Code.length : Int))) then
   some ([] : List Int)
  else
   Sr f1 k2

noncomputable def Px (x1 : LS) : Option (Bool) :=
 bif (x1.Op == 16) then
  some true
 else
  some (x1.Op == 17)

noncomputable def Qy (x1 : LS) : Option (Int × Bool) :=
 (Px x1).bind fun r2 =>
 bif r2 then
  some (x1.A,true)
 else
  some (0,false)

noncomputable def NW (s1 : (List Int)) (n2 : Int) (out3 : List Int) (i4 : Int) : Option (((List Int) × Int) ⊕ ((List Int))) :=
 bif (decide (i4 < (s1.length : Int))) then
  (ixO s1 i4).bind fun x_x5 =>
  bif (x_x5 != n2) then
   (ixO s1 i4).bind fun x_x6 =>
   chk (out3.length + ([x_x6] : List Int).length ≤ 16777216) <|
   cnt (out3 ++ ([x_x6] : List Int),IntKind.i64.wrap (i4 + 1))
  else
   cnt (out3,IntKind.i64.wrap (i4 + 1))
 else
  lft (some out3)
noncomputable def Qa (s1 : (List Int)) (n2 : Int) : Option ((List Int)) :=
 MC (fun s=>NW s1 n2 s.1 s.2) (([] : List Int),0)

noncomputable def Qt (x1 : LS) : Option ((List Int)) :=
 bif (x1.Op == 15) then
  some ([x1.B] : List Int)
 else
  bif (x1.Op == 17) then
   some ([x1.B] : List Int)
  else
   some ([] : List Int)

noncomputable def RG (n1 : Int) : Option (Bool) :=
 bif (decide (n1 ≥ 0)) then
  some (decide (n1 < 512))
 else
  some false

noncomputable def NV (s1 : (List Int)) (i6 : Int) (out7 : List Int) (done8 : Bool) : Option (((List Int) × Bool × Int) ⊕ ((List Int))) :=
 (ixO s1 i6).bind fun x_x12 =>
 chk (out7.length + ([x_x12] : List Int).length ≤ 16777216) <|
 cnt (out7 ++ ([x_x12] : List Int),done8,IntKind.i64.wrap (i6 + 1))
noncomputable def Ot (s1 : (List Int)) (i6 : Int) (n2 : Int) (out4 : List Int) (done5 : Bool) (x9 : Bool) : Option (((List Int) × Bool × Int) ⊕ ((List Int))) :=
 bif x9 then
  (ixO s1 i6).bind fun x_x11 =>
  bif (decide (x_x11 > n2)) then
   chk (out4.length + ([n2] : List Int).length ≤ 16777216) <|
   NV s1 i6 (out4 ++ ([n2] : List Int)) true
  else
   NV s1 i6 out4 true
 else
  NV s1 i6 out4 done5
noncomputable def Ns (s1 : (List Int)) (n2 : Int) (out4 : List Int) (done5 : Bool) (i6 : Int) : Option (((List Int) × Bool × Int) ⊕ ((List Int))) :=
 bif (decide (i6 < (s1.length : Int))) then
  bif (!done5) then
   (ixO s1 i6).bind fun x_x10 =>
   Ot s1 i6 n2 out4 done5 (decide (x_x10 ≥ n2))
  else
   Ot s1 i6 n2 out4 done5 false
 else
  lft (
   bif (!done5) then
    chk (out4.length + ([n2] : List Int).length ≤ 16777216) <|
    some (out4 ++ ([n2] : List Int))
   else
    some out4)
noncomputable def Qk (s1 : (List Int)) (n2 : Int) : Option ((List Int)) :=
 (RG n2).bind fun r3 =>
 MC (fun s=>Ns s1 n2 s.1 s.2.1 s.2.2) (([] : List Int),(!r3),0)

noncomputable def OP (b2 : (List Int)) (out3 : List Int) (i4 : Int) : Option (((List Int) × Int) ⊕ ((List Int))) :=
 bif (decide (i4 < (b2.length : Int))) then
  (ixO b2 i4).bind fun x_x5 =>
  (Qk out3 x_x5).bind fun r6 =>
  cnt (r6,IntKind.i64.wrap (i4 + 1))
 else
  lft (some out3)
noncomputable def OM (a1 : (List Int)) (b2 : (List Int)) : Option ((List Int)) :=
 chk (([] : List Int).length + a1.length ≤ 16777216) <|
 MC (fun s=>OP b2 s.1 s.2) (([] : List Int) ++ a1,0)

noncomputable def TY (x1 : LS) (out2 : (List Int)) : Option ((List Int)) :=
 (Qy x1).bind fun r3 =>
 bif r3.2 then
  (Qa out2 r3.1).bind fun r4 =>
  (Qt x1).bind fun r5 =>
  (OM r4 r5).bind fun r6 =>
  some r6
 else
  (Qt x1).bind fun r7 =>
  (OM out2 r7).bind fun r8 =>
  some r8

noncomputable def Su (k4 : Int) (x5 : List (List Int)) : Option (((List (List Int)) × Int) ⊕ (Mg)) :=
 cnt (x5,IntKind.i64.wrap (k4 + 1))
noncomputable def Pn (r6 : (List Int)) (k4 : Int) (f1 : LW) (l2 : Mg) (x7 : List (List Int)) (i8 : Int) : Option (((List (List Int)) × Int) ⊕ (((List (List Int)) × Int) ⊕ (Mg))) :=
 bif (decide (i8 < (r6.length : Int))) then
  chk (0 ≤ i8 ∧ i8 < r6.length) <|
  ((r6)[i8.toNat]?).bind fun next_e9 =>
  chk (0 ≤ k4 ∧ k4 < x7.length) <|
  ((x7)[k4.toNat]?).bind fun x_e10 =>
  (ixO f1.Code next_e9).bind fun x_x11 =>
  (ixO l2.Out next_e9).bind fun x_x12 =>
  (TY x_x11 x_x12).bind fun r13 =>
  (OM x_e10 r13).bind fun r14 =>
  chk (0 ≤ k4 ∧ k4 < x7.length) <|
  ((x7)[k4.toNat]?).bind fun _ =>
  cnt (x7.set k4.toNat r14,IntKind.i64.wrap (i8 + 1))
 else
  lft (Su k4 x7)
noncomputable def Pm (f1 : LW) (l2 : Mg) (x3 : List (List Int)) (k4 : Int) : Option (((List (List Int)) × Int) ⊕ (Mg)) :=
 bif (decide (k4 < (f1.Code.length : Int))) then
  (RH f1 k4).bind fun r6 =>
  MC (fun s=>Pn r6 k4 f1 l2 s.1 s.2) (x3,0)
 else
  lft (some (Mg.mk x3))
noncomputable def RJ (f1 : LW) (l2 : Mg) : Option (Mg) :=
 chk (0 ≤ (f1.Code.length : Int) ∧ (f1.Code.length : Int) ≤ 16777216) <|
 MC (fun s=>Pm f1 l2 s.1 s.2) (List.replicate (f1.Code.length : Int).toNat ([] : (List Int)),0)

noncomputable def OE (a1 : (List Int)) (b2 : (List Int)) (i3 : Int) : Option ((Int) ⊕ (Bool)) :=
 bif (decide (i3 < (a1.length : Int))) then
  (ixO a1 i3).bind fun x_x4 =>
  (ixO b2 i3).bind fun x_x5 =>
  bif (x_x4 != x_x5) then
   lft (some false)
  else
   cnt (IntKind.i64.wrap (i3 + 1))
 else
  lft (some true)
noncomputable def RE (a1 : (List Int)) (b2 : (List Int)) : Option (Bool) :=
 bif ((a1.length : Int) != (b2.length : Int)) then
  some false
 else
  MC (fun s=>OE a1 b2 s) 0

noncomputable def NG (a1 : (List (List Int))) (b2 : (List (List Int))) (i3 : Int) : Option ((Int) ⊕ (Bool)) :=
 bif (decide (i3 < (a1.length : Int))) then
  (ixO a1 i3).bind fun x_x4 =>
  (ixO b2 i3).bind fun x_x5 =>
  (RE x_x4 x_x5).bind fun r6 =>
  bif (!r6) then
   lft (some false)
  else
   cnt (IntKind.i64.wrap (i3 + 1))
 else
  lft (some true)
noncomputable def Pl (a1 : (List (List Int))) (b2 : (List (List Int))) : Option (Bool) :=
 bif ((a1.length : Int) != (b2.length : Int)) then
  some false
 else
  MC (fun s=>NG a1 b2 s) 0

noncomputable def Oo (a1 : Mg) (b2 : Mg) : Option (Bool) :=
 (Pl a1.Out b2.Out).bind fun r3 =>
 some r3

noncomputable def RI (f1 : LW) (l2 : List (List Int)) : Option (((List (List Int))) ⊕ (Mg)) :=
 (RJ f1 (Mg.mk l2)).bind fun r3 =>
 (Oo r3 (Mg.mk l2)).bind fun r4 =>
 bif r4 then
  lft (some (Mg.mk l2))
 else
  cnt r3.Out
noncomputable def QG (f1 : LW) : Option (Mg) :=
 chk (0 ≤ (f1.Code.length : Int) ∧ (f1.Code.length : Int) ≤ 16777216) <|
 MC (fun s=>RI f1 s) (List.replicate (f1.Code.length : Int).toNat ([] : (List Int)))

noncomputable def Pc (n8 : Int) (c9 : List Int) (c10 : Int) (x11 : List (List Int)) : Option (((List Int) × Int × (List (List Int)) × Int) ⊕ (Mg × LR)) :=
 cnt (c9,c10,x11,IntKind.i64.wrap (n8 - 1))
noncomputable def Pa (r12 : Int × LR) (n8 : Int) (x13 : List (List Int)) (k14 : Int) : Option (((List (List Int)) × Int) ⊕ (((List Int) × Int × (List (List Int)) × Int) ⊕ (Mg × LR))) :=
 bif (decide (k14 < (x13.length : Int))) then
  chk (0 ≤ k14 ∧ k14 < x13.length) <|
  ((x13)[k14.toNat]?).bind fun x_e15 =>
  (Qk x_e15 r12.1).bind fun r16 =>
  chk (0 ≤ k14 ∧ k14 < x13.length) <|
  ((x13)[k14.toNat]?).bind fun _ =>
  cnt (x13.set k14.toNat r16,IntKind.i64.wrap (k14 + 1))
 else
  lft (Pc n8 r12.2.list r12.2.at_ x13)
noncomputable def Pb (c5 : List Int) (c6 : Int) (f2 : LW) (n8 : Int) (x7 : List (List Int)) : Option (((List Int) × Int × (List (List Int)) × Int) ⊕ (Mg × LR)) :=
 (Mc (LR.mk c5 c6) (f2.Slots.length : Int)).bind fun r12 =>
 MC (fun s=>Pa r12 n8 s.1 s.2) (x7,0)
noncomputable def OZ (f2 : LW) (c5 : List Int) (c6 : Int) (x7 : List (List Int)) (n8 : Int) : Option (((List Int) × Int × (List (List Int)) × Int) ⊕ (Mg × LR)) :=
 bif (decide (n8 > 0)) then
  bif (decide ((f2.Slots.length : Int) > 0)) then
   Pb c5 c6 f2 n8 x7
  else
   lft (some ((Mg.mk x7),(LR.mk c5 c6)))
 else
  lft (some ((Mg.mk x7),(LR.mk c5 c6)))
noncomputable def Ob (c1 : LR) (f2 : LW) : Option (Mg × LR) :=
 (QG f2).bind fun r3 =>
 chk (([] : List (List Int)).length + r3.Out.length ≤ 16777216) <|
 (Mc c1 3).bind fun r4 =>
 MC (fun s=>OZ f2 s.1 s.2.1 s.2.2.1 s.2.2.2) (r4.2.list,r4.2.at_,([] : List (List Int)) ++ r3.Out,r4.1)

noncomputable def QE (codes1 : (List Int)) : Option (LW × Mg × LR) :=
 (TL codes1 250).bind fun r2 =>
 (NH r2 3 16).bind fun r3 =>
 (Mc r3.2 (r3.1.Funcs.length : Int)).bind fun r4 =>
 (ixO r3.1.Funcs r4.1).bind fun x_x5 =>
 (Ob r4.2 x_x5).bind fun r6 =>
 some (x_x5,r6.1,r6.2)

noncomputable def PT (r4 : (List Int)) (f1 : LW) (l2 : Mg) (x5 : Int) (s6 : List Int) : Option ((Int × (List Int)) ⊕ ((List Int))) :=
 bif (decide (x5 < (r4.length : Int))) then
  chk (0 ≤ x5 ∧ x5 < r4.length) <|
  ((r4)[x5.toNat]?).bind fun x_e7 =>
  (ixO f1.Code x_e7).bind fun x_x8 =>
  (ixO l2.Out x_e7).bind fun x_x9 =>
  (Rl x_x8 x_x9).bind fun r10 =>
  (Nz s6 r10).bind fun r11 =>
  cnt (IntKind.i64.wrap (x5 + 1),r11)
 else
  lft (some s6)
noncomputable def Of (f1 : LW) (l2 : Mg) (k3 : Int) : Option ((List Int)) :=
 (Qi f1 k3).bind fun r4 =>
 MC (fun s=>PT r4 f1 l2 s.1 s.2) (0,([] : List Int))

noncomputable def Qs (f1 : LW) (l2 : Mg) (x3 : List (List Int)) (x4 : Int) : Option (((List (List Int)) × Int) ⊕ (Mg)) :=
 bif (decide (x4 < (f1.Code.length : Int))) then
  (Of f1 l2 x4).bind fun r5 =>
  chk (x3.length + ([r5] : List (List Int)).length ≤ 16777216) <|
  cnt (x3 ++ ([r5] : List (List Int)),IntKind.i64.wrap (x4 + 1))
 else
  lft (some (Mg.mk x3))
noncomputable def NF (f1 : LW) (l2 : Mg) : Option (Mg) :=
 MC (fun s=>Qs f1 l2 s.1 s.2) (([] : List (List Int)),0)

noncomputable def PZ (s1 : (List Int)) (n2 : Int) (i3 : Int) : Option ((Int) ⊕ (Bool)) :=
 bif (decide (i3 < (s1.length : Int))) then
  (ixO s1 i3).bind fun x_x4 =>
  bif (x_x4 == n2) then
   lft (some true)
  else
   cnt (IntKind.i64.wrap (i3 + 1))
 else
  lft (some false)
noncomputable def SP (s1 : (List Int)) (n2 : Int) : Option (Bool) :=
 MC (fun s=>PZ s1 n2 s) 0

noncomputable def Og (a1 : (List Int)) (b2 : (List Int)) (out3 : List Int) (i4 : Int) : Option (((List Int) × Int) ⊕ ((List Int))) :=
 bif (decide (i4 < (a1.length : Int))) then
  (ixO a1 i4).bind fun x_x5 =>
  (SP b2 x_x5).bind fun r6 =>
  bif (!r6) then
   (ixO a1 i4).bind fun x_x7 =>
   chk (out3.length + ([x_x7] : List Int).length ≤ 16777216) <|
   cnt (out3 ++ ([x_x7] : List Int),IntKind.i64.wrap (i4 + 1))
  else
   cnt (out3,IntKind.i64.wrap (i4 + 1))
 else
  lft (some out3)
noncomputable def QF (a1 : (List Int)) (b2 : (List Int)) : Option ((List Int)) :=
 MC (fun s=>Og a1 b2 s.1 s.2) (([] : List Int),0)

noncomputable def Qb (a1 : (List Int)) (b2 : (List Int)) : Option (Bool) :=
 (QF a1 b2).bind fun r3 =>
 some ((r3.length : Int) == 0)

noncomputable def MZ (r3 : LW × Mg × LR) (r4 : Mg) (l11 : List (List Int)) (n12 : Int) : Option (((List (List Int)) × Int) ⊕ (Bool)) :=
 bif (decide (n12 ≤ (IntKind.i64.wrap ((r3.1.Code.length : Int) * (r3.1.Slots.length : Int))))) then
  (NF r3.1 (Mg.mk l11)).bind fun r13 =>
  bif ((r13.Out.length : Int) != (r3.1.Code.length : Int)) then
   lft (some false)
  else
   cnt (r13.Out,IntKind.i64.wrap (n12 + 1))
 else
  lft (
   (Oo (Mg.mk l11) r4).bind fun r14 =>
   some r14)
noncomputable def MY (r3 : LW × Mg × LR) (r4 : Mg) (k7 : Int) : Option ((Int) ⊕ (Bool)) :=
 bif (decide (k7 < (r3.1.Code.length : Int))) then
  (ixO r4.Out k7).bind fun x_x8 =>
  (ixO r3.2.1.Out k7).bind fun x_x9 =>
  (Qb x_x8 x_x9).bind fun r10 =>
  bif (!r10) then
   lft (some false)
  else
   cnt (IntKind.i64.wrap (k7 + 1))
 else
  lft (
   chk (0 ≤ (r3.1.Code.length : Int) ∧ (r3.1.Code.length : Int) ≤ 16777216) <|
   MC (fun s=>MZ r3 r4 s.1 s.2) (List.replicate (r3.1.Code.length : Int).toNat ([] : (List Int)),0))
noncomputable def Na (r3 : LW × Mg × LR) (r4 : Mg) : Option (Bool) :=
 MC (fun s=>MY r3 r4 s) 0
noncomputable def MJ (codes1 : (List Int)) : Option (Bool) :=
 (QD).bind fun r2 =>
 bif (!r2) then
  some false
 else
  (QE codes1).bind fun r3 =>
  (Oe r3.1).bind fun r4 =>
  bif ((r4.Out.length : Int) != (r3.1.Code.length : Int)) then
   some false
  else
   (NF r3.1 r4).bind fun r5 =>
   (Oo r5 r4).bind fun r6 =>
   bif (!r6) then
    some false
   else
    Na r3 r4

end Go.Proofs.YtcelninhkmhjkaaDoor
