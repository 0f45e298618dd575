/-
 The programs on typed data; written by a program (dx.py).
-/
import Derived.Test.YtcelninhkmhjkaaDoorDxT
namespace Go.Proofs.YtcelninhkmhjkaaDoor
open Go Go.Dw Go.Proofs
set_option maxRecDepth 100000
noncomputable def PC (op1 : Int) : Option (Bool) :=
 bif (op1 == 20) then
  some true
 else
  bif (op1 == 23) then
   some true
  else
   some (op1 == 24)

noncomputable def QC (x_x3 : Lv) (l4 : List Int) : Option ((List Int)) :=
 bif (x_x3.Op == 20) then
  chk (l4.length + ([x_x3.A] : List Int).length ≤ 16777216) <|
  chk ((l4 ++ ([x_x3.A] : List Int)).length < 4611686018427387904) <|
  chk ((MP (l4 ++ ([x_x3.A] : List Int))).length < 4611686018427387904) <|
  some (Lib.compact (MP (l4 ++ ([x_x3.A] : List Int))))
 else
  bif (x_x3.Op == 21) then
   chk (l4.length + ([x_x3.B] : List Int).length ≤ 16777216) <|
   chk ((l4 ++ ([x_x3.B] : List Int)).length < 4611686018427387904) <|
   chk ((MP (l4 ++ ([x_x3.B] : List Int))).length < 4611686018427387904) <|
   some (Lib.compact (MP (l4 ++ ([x_x3.B] : List Int))))
  else
   chk (l4.length < 4611686018427387904) <|
   chk ((MP l4).length < 4611686018427387904) <|
   some (Lib.compact (MP l4))
noncomputable def So (f1 : LA) (k2 : Int) : Option ((List Int)) :=
 (ixO f1.Code k2).bind fun x_x3 =>
 (PC x_x3.Op).bind fun r5 =>
 bif (!r5) then
  chk (([] : List Int).length + ([IntKind.i64.wrap (k2 + 1)] : List Int).length ≤ 16777216) <|
  QC x_x3 (([] : List Int) ++ ([IntKind.i64.wrap (k2 + 1)] : List Int))
 else
  QC x_x3 ([] : List Int)
noncomputable def QB (f1 : LA) (k2 : Int) : Option ((List Int)) :=
 bif (decide (k2 < 0)) then
  some ([] : List Int)
 else
  bif (decide (k2 ≥ (f1.Code.length : Int))) then
   some ([] : List Int)
  else
   So f1 k2

noncomputable def QS (r4 : (List Int)) (x3 : Int) (l5 : List (List Int)) (x6 : Int) : Option (((List (List Int)) × Int) ⊕ (((List (List Int)) × Int) ⊕ ((List (List Int))))) :=
 bif (decide (x6 < (r4.length : Int))) then
  chk (0 ≤ x6 ∧ x6 < r4.length) <|
  ((r4)[x6.toNat]?).bind fun x_e7 =>
  chk (0 ≤ x_e7 ∧ x_e7 < l5.length) <|
  ((l5)[x_e7.toNat]?).bind fun l_e8 =>
  chk (l_e8.length + ([x3] : List Int).length ≤ 16777216) <|
  chk (0 ≤ x_e7 ∧ x_e7 < l5.length) <|
  cnt (l5.set x_e7.toNat (l_e8 ++ ([x3] : List Int)),IntKind.i64.wrap (x6 + 1))
 else
  lft (cnt (l5,IntKind.i64.wrap (x3 + 1)))
noncomputable def QQ (f1 : LA) (l2 : List (List Int)) (x3 : Int) : Option (((List (List Int)) × Int) ⊕ ((List (List Int)))) :=
 bif (decide (x3 < (f1.Code.length : Int))) then
  (QB f1 x3).bind fun r4 =>
  Mj (fun s=>QS r4 x3 s.1 s.2) (l2,0)
 else
  lft (some l2)
noncomputable def Pl (f1 : LA) : Option ((List (List Int))) :=
 chk (0 ≤ (f1.Code.length : Int) ∧ (f1.Code.length : Int) ≤ 16777216) <|
 Mj (fun s=>QQ f1 s.1 s.2) (List.replicate (f1.Code.length : Int).toNat ([] : (List Int)),0)

noncomputable def Ol (x1 : Lv) : Option (Int × Bool) :=
 bif (x1.Op == 16) then
  bif (x1.Op == 16) then
   some (x1.A,true)
  else
   some (0,false)
 else
  bif (x1.Op == 17) then
   some (x1.A,true)
  else
   some (0,false)

noncomputable def ND (n1 : Int) : Option (Bool) :=
 bif (decide (n1 ≥ 0)) then
  some (decide (n1 < 512))
 else
  some false

noncomputable def MT (s1 : Ly) (n2 : Int) (in3 : Bool) : Option (Ly) :=
 chk (0 ≤ ((IntKind.u64.wrap (n2)).tmod 64)) <|
 (ND n2).bind fun r4 =>
 bif (!r4) then
  some s1
 else
  bif in3 then
   chk (0 ≤ (IntKind.i64.wrap (n2.tdiv 64)) ∧ (IntKind.i64.wrap (n2.tdiv 64)) < 8) <|
   ((s1.toList)[(IntKind.i64.wrap (n2.tdiv 64)).toNat]?).bind fun s_e5 =>
   chk (0 ≤ (IntKind.i64.wrap (n2.tdiv 64)) ∧ (IntKind.i64.wrap (n2.tdiv 64)) < 8) <|
   ((s1.toList)[(IntKind.i64.wrap (n2.tdiv 64)).toNat]?).bind fun _ =>
   some (s1.set ((IntKind.i64.wrap (n2.tdiv 64)).toNat) (IntKind.u64.wrap ((BitVec.ofInt IntKind.u64.bits s_e5 ||| BitVec.ofInt IntKind.u64.bits (IntKind.u64.wrap (1 * 2 ^ (Nat.min ((IntKind.u64.wrap (n2)).tmod 64).toNat IntKind.u64.bits)))).toNat)))
  else
   chk (0 ≤ (IntKind.i64.wrap (n2.tdiv 64)) ∧ (IntKind.i64.wrap (n2.tdiv 64)) < 8) <|
   ((s1.toList)[(IntKind.i64.wrap (n2.tdiv 64)).toNat]?).bind fun s_e7 =>
   chk (0 ≤ (IntKind.i64.wrap (n2.tdiv 64)) ∧ (IntKind.i64.wrap (n2.tdiv 64)) < 8) <|
   ((s1.toList)[(IntKind.i64.wrap (n2.tdiv 64)).toNat]?).bind fun _ =>
   some (s1.set ((IntKind.i64.wrap (n2.tdiv 64)).toNat) (IntKind.u64.wrap ((BitVec.ofInt IntKind.u64.bits s_e7 &&& ~~~ BitVec.ofInt IntKind.u64.bits (IntKind.u64.wrap (1 * 2 ^ (Nat.min ((IntKind.u64.wrap (n2)).tmod 64).toNat IntKind.u64.bits)))).toNat)))

noncomputable def PI (l1 : (List Int)) (x2 : Ly) (x3 : Int) : Option ((Ly × Int) ⊕ (Ly)) :=
 bif (decide (x3 < (l1.length : Int))) then
  (ixO l1 x3).bind fun x_x4 =>
  (MT x2 x_x4 true).bind fun r5 =>
  cnt (r5,IntKind.i64.wrap (x3 + 1))
 else
  lft (some x2)
noncomputable def Nk (l1 : (List Int)) : Option (Ly) :=
 Mj (fun s=>PI l1 s.1 s.2) ((Ly.mk 0 0 0 0 0 0 0 0),0)

noncomputable def NN (x3 : Int) (l5 : List Int) (x6 : Int) : Option (((List Int) × Int) ⊕ (((List Int) × Int) ⊕ ((List Int) × Ly))) :=
 bif (x6 != 0) then
  (Wu x6).bind fun r7 =>
  chk (l5.length + ([IntKind.i64.wrap ((IntKind.i64.wrap (64 * x3)) + r7)] : List Int).length ≤ 16777216) <|
  cnt (l5 ++ ([IntKind.i64.wrap ((IntKind.i64.wrap (64 * x3)) + r7)] : List Int),IntKind.u64.wrap ((BitVec.ofInt IntKind.u64.bits x6 &&& BitVec.ofInt IntKind.u64.bits (IntKind.u64.wrap (x6 - 1))).toNat))
 else
  lft (cnt (l5,IntKind.i64.wrap (x3 + 1)))
noncomputable def NM (s1 : Ly) (l2 : List Int) (x3 : Int) : Option (((List Int) × Int) ⊕ ((List Int) × Ly)) :=
 bif (decide (x3 < 8)) then
  chk (0 ≤ x3 ∧ x3 < 8) <|
  ((s1.toList)[x3.toNat]?).bind fun s_e4 =>
  Mj (fun s=>NN x3 s.1 s.2) (l2,s_e4)
 else
  lft (some (l2,s1))
noncomputable def MD (s1 : Ly) : Option ((List Int) × Ly) :=
 Mj (fun s=>NM s1 s.1 s.2) (([] : List Int),0)

noncomputable def Oc (s1 : (List Int)) (n2 : Int) : Option ((List Int)) :=
 (Nk s1).bind fun r3 =>
 (MT r3 n2 false).bind fun r4 =>
 (MD r4).bind fun r5 =>
 some r5.1

noncomputable def Pk (x1 : Lv) : Option ((List Int)) :=
 bif (x1.Op == 15) then
  bif (x1.Op == 15) then
   some ([x1.B] : List Int)
  else
   some ([] : List Int)
 else
  bif (x1.Op == 17) then
   some ([x1.B] : List Int)
  else
   some ([] : List Int)

noncomputable def PG (l1 : (List Int)) : Option ((List Int)) :=
 (Nk l1).bind fun r2 =>
 (MD r2).bind fun r3 =>
 some r3.1

noncomputable def Ok (x1 : Int) (y2 : Int) : Option (Int) :=
 some (IntKind.u64.wrap ((BitVec.ofInt IntKind.u64.bits x1 ||| BitVec.ofInt IntKind.u64.bits y2).toNat))

noncomputable def MA (s1 : Ly) (t2 : Ly) (x3 : Ly) (x4 : Int) : Option ((Ly × Int) ⊕ (Ly × Ly × Ly)) :=
 bif (decide (x4 < 8)) then
  chk (0 ≤ x4 ∧ x4 < 8) <|
  ((s1.toList)[x4.toNat]?).bind fun s_e5 =>
  chk (0 ≤ x4 ∧ x4 < 8) <|
  ((t2.toList)[x4.toNat]?).bind fun t_e6 =>
  (Ok s_e5 t_e6).bind fun r7 =>
  chk (0 ≤ x4 ∧ x4 < 8) <|
  ((x3.toList)[x4.toNat]?).bind fun _ =>
  cnt ((x3.set x4.toNat r7),IntKind.i64.wrap (x4 + 1))
 else
  lft (some (x3,s1,t2))
noncomputable def Mx (s1 : Ly) (t2 : Ly) : Option (Ly × Ly × Ly) :=
 Mj (fun s=>MA s1 t2 s.1 s.2) ((Ly.mk 0 0 0 0 0 0 0 0),0)

noncomputable def Nx (a1 : (List Int)) (b2 : (List Int)) : Option ((List Int)) :=
 (Nk a1).bind fun r3 =>
 (Nk b2).bind fun r4 =>
 (Mx r3 r4).bind fun r5 =>
 (MD r5.1).bind fun r6 =>
 some r6.1

noncomputable def RW (x1 : Lv) (out2 : (List Int)) : Option ((List Int)) :=
 (Ol x1).bind fun r3 =>
 bif r3.2 then
  (Oc out2 r3.1).bind fun r4 =>
  (Pk x1).bind fun r5 =>
  (PG r5).bind fun r6 =>
  (Nx r4 r6).bind fun r7 =>
  some r7
 else
  (Pk x1).bind fun r8 =>
  (PG r8).bind fun r9 =>
  (Nx out2 r9).bind fun r10 =>
  some r10

noncomputable def Na (s11 : (List Int)) (s22 : (List Int)) (x3 : Int) : Option ((Int) ⊕ (Bool)) :=
 bif (decide (x3 < (s11.length : Int))) then
  (ixO s11 x3).bind fun x_x4 =>
  (ixO s22 x3).bind fun x_x5 =>
  bif (x_x4 != x_x5) then
   lft (some false)
  else
   cnt (IntKind.i64.wrap (x3 + 1))
 else
  lft (some true)
noncomputable def ML (s11 : (List Int)) (s22 : (List Int)) : Option (Bool) :=
 bif ((s11.length : Int) != (s22.length : Int)) then
  some false
 else
  Mj (fun s=>Na s11 s22 s) 0

noncomputable def Oh (x5 : Int) (x6 : List (Int × Bool)) (x7 : List Int) : Option (((List (Int × Bool)) × (List Int) × Int) ⊕ (LK)) :=
 cnt (x6,x7,IntKind.i64.wrap (x5 + 1))
noncomputable def NF (x27 : Int) (x29 : List (Int × Bool)) (x30 : List Int) : Option (((List (Int × Bool)) × (List Int) × Int) ⊕ (((List (List Int)) × (List (Int × Bool)) × (List Int)) ⊕ (LK))) :=
 cnt (x29,x30,IntKind.i64.wrap (x27 + 1))
noncomputable def Ps (x_x24 : (List Int)) (x8 : List (List Int)) (x_e11 : Int) (x12 : List Int) (x25 : List (Int × Bool)) (x26 : List Int) (x27 : Int) : Option (((List (Int × Bool)) × (List Int) × Int) ⊕ (((List (List Int)) × (List (Int × Bool)) × (List Int)) ⊕ (LK))) :=
 bif (decide (x27 < (x_x24.length : Int))) then
  (ixO x_x24 x27).bind fun x_x28 =>
  bif (!(MC false x_x28 x25)) then
   chk (x26.length + ([x_x28] : List Int).length ≤ 16777216) <|
   NF x27 (Nh x_x28 true x25) (x26 ++ ([x_x28] : List Int))
  else
   NF x27 x25 x26
 else
  lft (cnt (x8.set x_e11.toNat x12,x25,x26))
noncomputable def Pt (x_e11 : Int) (x8 : List (List Int)) (x9 : List (Int × Bool)) (x10 : List Int) (r2 : (List (List Int))) (x12 : List Int) : Option (((List (List Int)) × (List (Int × Bool)) × (List Int)) ⊕ (LK)) :=
 chk (0 ≤ x_e11 ∧ x_e11 < x8.length) <|
 ((x8)[x_e11.toNat]?).bind fun x_e21 =>
 (ML x12 x_e21).bind fun r22 =>
 bif r22 then
  cnt (x8,MM x_e11 x9,x10.take ((IntKind.i64.wrap ((x10.length : Int) - 1)).toNat))
 else
  chk (0 ≤ x_e11 ∧ x_e11 < x8.length) <|
  ((x8)[x_e11.toNat]?).bind fun _ =>
  (ixO r2 x_e11).bind fun x_x24 =>
  Mj (fun s=>Ps x_x24 x8 x_e11 x12 s.1 s.2.1 s.2.2) (MM x_e11 x9,x10.take ((IntKind.i64.wrap ((x10.length : Int) - 1)).toNat),0)
noncomputable def Pr (r13 : (List Int)) (f1 : LA) (x8 : List (List Int)) (x_e11 : Int) (x9 : List (Int × Bool)) (x10 : List Int) (r2 : (List (List Int))) (x14 : Int) (s15 : List Int) : Option ((Int × (List Int)) ⊕ (((List (List Int)) × (List (Int × Bool)) × (List Int)) ⊕ (LK))) :=
 bif (decide (x14 < (r13.length : Int))) then
  chk (0 ≤ x14 ∧ x14 < r13.length) <|
  ((r13)[x14.toNat]?).bind fun x_e16 =>
  (ixO f1.Code x_e16).bind fun x_x17 =>
  chk (0 ≤ x_e16 ∧ x_e16 < x8.length) <|
  ((x8)[x_e16.toNat]?).bind fun x_e18 =>
  (RW x_x17 x_e18).bind fun r19 =>
  (Nx s15 r19).bind fun r20 =>
  cnt (IntKind.i64.wrap (x14 + 1),r20)
 else
  lft (Pt x_e11 x8 x9 x10 r2 s15)
noncomputable def Pq (f1 : LA) (r2 : (List (List Int))) (x8 : List (List Int)) (x9 : List (Int × Bool)) (x10 : List Int) : Option (((List (List Int)) × (List (Int × Bool)) × (List Int)) ⊕ (LK)) :=
 bif (decide ((x10.length : Int) > 0)) then
  chk (0 ≤ (IntKind.i64.wrap ((x10.length : Int) - 1)) ∧ (IntKind.i64.wrap ((x10.length : Int) - 1)) < x10.length) <|
  ((x10)[(IntKind.i64.wrap ((x10.length : Int) - 1)).toNat]?).bind fun x_e11 =>
  chk (0 ≤ (IntKind.i64.wrap ((x10.length : Int) - 1)) ∧ (IntKind.i64.wrap ((x10.length : Int) - 1)) ≤ x10.length) <|
  (QB f1 x_e11).bind fun r13 =>
  Mj (fun s=>Pr r13 f1 x8 x_e11 x9 x10 r2 s.1 s.2) (0,([] : List Int))
 else
  lft (some (LK.mk x8))
noncomputable def Pp (f1 : LA) (r2 : (List (List Int))) (x3 : List (Int × Bool)) (x4 : List Int) (x5 : Int) : Option (((List (Int × Bool)) × (List Int) × Int) ⊕ (LK)) :=
 bif (decide (x5 < (f1.Code.length : Int))) then
  bif (!(MC false x5 x3)) then
   chk (x4.length + ([x5] : List Int).length ≤ 16777216) <|
   Oh x5 (Nh x5 true x3) (x4 ++ ([x5] : List Int))
  else
   Oh x5 x3 x4
 else
  lft (Mj (fun s=>Pq f1 r2 s.1 s.2.1 s.2.2) (List.replicate (f1.Code.length : Int).toNat ([] : (List Int)),x3,x4))
noncomputable def NK (f1 : LA) : Option (LK) :=
 chk (0 ≤ (f1.Code.length : Int) ∧ (f1.Code.length : Int) ≤ 16777216) <|
 (Pl f1).bind fun r2 =>
 Mj (fun s=>Pp f1 r2 s.1 s.2.1 s.2.2) (([] : List (Int × Bool)),([] : List Int),0)

noncomputable def PX  : Option (Bool) :=
 (NK (LA.mk 0 ([(LS.mk 8 8)] : List LS) ([(Lv.mk 16 0 0 0 0),(Lv.mk 15 0 0 0 0),(Lv.mk 23 0 0 0 0)] : List Lv))).bind fun r1 =>
 bif ((r1.Out.length : Int) == 3) then
  (ixO r1.Out 0).bind fun x_x2 =>
  some ((x_x2.length : Int) == 1)
 else
  some false

noncomputable def SO (list1 : (List Int)) (limit2 : Int) : Option (Ed) :=
 chk (0 ≤ (Sv (list1.length : Int) limit2) ∧ (Sv (list1.length : Int) limit2) ≤ list1.length) <|
 some (Ed.mk (list1.take (Sv (list1.length : Int) limit2).toNat) 0)

noncomputable def OU (c1 : Ed) : Option (Bool × Ed) :=
 some ((decide (c1.at_ < (c1.list.length : Int))),c1)

noncomputable def OW (n2 : Int) (c3 : List Int) (c4 : Int) : Option (Int × Ed) :=
 (ixO c3 c4).bind fun x_x6 =>
 some (IntKind.i64.wrap ((IntKind.i64.wrap ((IntKind.i64.wrap (x_x6)) * n2)).tdiv 256),(Ed.mk c3 (IntKind.i64.wrap (c4 + 1))))
noncomputable def LF (c1 : Ed) (n2 : Int) : Option (Int × Ed) :=
 (OU c1).bind fun r5 =>
 bif (!r5.1) then
  some (0,r5.2)
 else
  bif (decide (n2 < 1)) then
   some (0,r5.2)
  else
   OW n2 r5.2.list r5.2.at_

noncomputable def NW (c1 : Ed) : Option (LS × Ed) :=
 (LF c1 7).bind fun r2 =>
 chk (0 ≤ r2.1 ∧ r2.1 < ([8,4,8,1,2,16,8] : List Int).length) <|
 ((([8,4,8,1,2,16,8] : List Int))[r2.1.toNat]?).bind fun x_e3 =>
 (LF r2.2 8).bind fun r4 =>
 chk (0 ≤ r4.1 ∧ r4.1 < ([8,4,1,8,16,2,32,64] : List Int).length) <|
 ((([8,4,1,8,16,2,32,64] : List Int))[r4.1.toNat]?).bind fun x_e5 =>
 some ((LS.mk x_e3 x_e5),r4.2)

noncomputable def OC (c4 : List Int) (c5 : Int) (l6 : List LS) (n7 : Int) : Option (((List Int) × Int × (List LS) × Int) ⊕ ((List LS) × Ed)) :=
 bif (decide (n7 > 0)) then
  (NW (Ed.mk c4 c5)).bind fun r8 =>
  chk (l6.length + ([r8.1] : List LS).length ≤ 16777216) <|
  cnt (r8.2.list,r8.2.at_,l6 ++ ([r8.1] : List LS),IntKind.i64.wrap (n7 - 1))
 else
  lft (some (l6,(Ed.mk c4 c5)))
noncomputable def NJ (c1 : Ed) (most2 : Int) : Option ((List LS) × Ed) :=
 (LF c1 (IntKind.i64.wrap (most2 + 1))).bind fun r3 =>
 Mj (fun s=>OC s.1 s.2.1 s.2.2.1 s.2.2.2) (r3.2.list,r3.2.at_,([] : List LS),r3.1)

noncomputable def OY (f2 : LA) (s3 : Int) (c1 : Ed) (l4 : List Int) (k5 : Int) : Option (((List Int) × Int) ⊕ (Int × Ed)) :=
 bif (decide (k5 < (f2.Slots.length : Int))) then
  (ixO f2.Slots k5).bind fun x_x6 =>
  (ixO f2.Slots s3).bind fun x_x7 =>
  bif (x_x6.Size == x_x7.Size) then
   chk (l4.length + ([k5] : List Int).length ≤ 16777216) <|
   cnt (l4 ++ ([k5] : List Int),IntKind.i64.wrap (k5 + 1))
  else
   cnt (l4,IntKind.i64.wrap (k5 + 1))
 else
  lft (
   (LF c1 (l4.length : Int)).bind fun r8 =>
   chk (0 ≤ r8.1 ∧ r8.1 < l4.length) <|
   ((l4)[r8.1.toNat]?).bind fun l_e9 =>
   some (l_e9,r8.2))
noncomputable def NY (c1 : Ed) (f2 : LA) (s3 : Int) : Option (Int × Ed) :=
 Mj (fun s=>OY f2 s3 c1 s.1 s.2) (([] : List Int),0)

noncomputable def NA (c1 : Ed) : Option (Int × Ed) :=
 (LF c1 6).bind fun r2 =>
 bif (r2.1 == 0) then
  (LF r2.2 3).bind fun r3 =>
  some (IntKind.u64.wrap (18446744073709551615 - (IntKind.u64.wrap (r3.1))),r3.2)
 else
  bif (r2.1 == 1) then
   (LF r2.2 64).bind fun r4 =>
   chk (0 ≤ r4.1) <|
   some (IntKind.u64.wrap (1 * 2 ^ (Nat.min r4.1.toNat IntKind.u64.bits)),r4.2)
  else
   bif (r2.1 == 2) then
    some (0,r2.2)
   else
    (LF r2.2 256).bind fun r5 =>
    some (IntKind.u64.wrap (r5.1),r5.2)

noncomputable def OX (params4 : (List Int)) (i3 : Int) (r23 : Int × Ed) (c24 : List Int) (c25 : Int) (out26 : List Lv) (a27 : Int) : Option (((List Int) × Int × (List Lv) × Int) ⊕ ((List Lv) × Ed)) :=
 (ixO params4 (IntKind.i64.wrap ((IntKind.i64.wrap (i3 + 1)) + r23.1))).bind fun x_x28 =>
 bif (decide (a27 < x_x28)) then
  (LF (Ed.mk c24 c25) 8).bind fun r29 =>
  bif (decide (r29.1 < 7)) then
   (LF r29.2 4).bind fun r30 =>
   chk (out26.length + ([(Lv.mk 18 a27 r30.1 0 0)] : List Lv).length ≤ 16777216) <|
   cnt (r30.2.list,r30.2.at_,out26 ++ ([(Lv.mk 18 a27 r30.1 0 0)] : List Lv),IntKind.i64.wrap (a27 + 1))
  else
   cnt (r29.2.list,r29.2.at_,out26,IntKind.i64.wrap (a27 + 1))
 else
  lft (
   chk (out26.length + ([(Lv.mk 22 (IntKind.i64.wrap ((IntKind.i64.wrap (i3 + 1)) + r23.1)) 0 0 0)] : List Lv).length ≤ 16777216) <|
   some (out26 ++ ([(Lv.mk 22 (IntKind.i64.wrap ((IntKind.i64.wrap (i3 + 1)) + r23.1)) 0 0 0)] : List Lv),(Ed.mk c24 c25)))
noncomputable def Qy (r5 : Int × Ed) (r6 : Int × Ed) : Option ((List Lv) × Ed) :=
 some (([(Lv.mk 14 r5.1 0 0 0)] : List Lv),r6.2)
noncomputable def Ns (r6 : Int × Ed) (params4 : (List Int)) (i3 : Int) (r5 : Int × Ed) (x22 : Bool) : Option ((List Lv) × Ed) :=
 bif x22 then
  (LF r6.2 (IntKind.i64.wrap ((IntKind.i64.wrap ((params4.length : Int) - i3)) - 1))).bind fun r23 =>
  Mj (fun s=>OX params4 i3 r23 s.1 s.2.1 s.2.2.1 s.2.2.2) (r23.2.list,r23.2.at_,([] : List Lv),0)
 else
  Qy r5 r6
noncomputable def Nr (r6 : Int × Ed) (f2 : LA) (r5 : Int × Ed) (params4 : (List Int)) (i3 : Int) (x20 : Bool) : Option ((List Lv) × Ed) :=
 bif x20 then
  (LF r6.2 f2.Params).bind fun r21 =>
  some (([(Lv.mk 19 r5.1 r21.1 0 0)] : List Lv),r21.2)
 else
  bif (decide (r6.1 ≥ 17)) then
   Ns r6 params4 i3 r5 (decide ((IntKind.i64.wrap (i3 + 1)) < (params4.length : Int)))
  else
   Ns r6 params4 i3 r5 false
noncomputable def Nq (r6 : Int × Ed) (f2 : LA) (r5 : Int × Ed) (params4 : (List Int)) (i3 : Int) (x11 : Bool) : Option ((List Lv) × Ed) :=
 bif x11 then
  (LF r6.2 (f2.Slots.length : Int)).bind fun r12 =>
  (NY r12.2 f2 r12.1).bind fun r13 =>
  some (([(Lv.mk 17 r13.1 r12.1 0 0)] : List Lv),r13.2)
 else
  bif (decide (r6.1 < 11)) then
   (NA r6.2).bind fun r14 =>
   some (([(Lv.mk 0 r5.1 0 0 r14.1)] : List Lv),r14.2)
  else
   bif (decide (r6.1 < 13)) then
    (LF r6.2 10).bind fun r15 =>
    (LF r15.2 4).bind fun r16 =>
    (LF r16.2 8).bind fun r17 =>
    some (([(Lv.mk (IntKind.i64.wrap (2 + r15.1)) r5.1 r16.1 r17.1 0)] : List Lv),r17.2)
   else
    bif (decide (r6.1 < 15)) then
     some (([(Lv.mk 14 r5.1 0 0 0)] : List Lv),r6.2)
    else
     bif (r6.1 == 15) then
      (LF r6.2 3).bind fun r18 =>
      chk (0 ≤ r18.1 ∧ r18.1 < ([13,12,1] : List Int).length) <|
      ((([13,12,1] : List Int))[r18.1.toNat]?).bind fun x_e19 =>
      some (([(Lv.mk x_e19 r5.1 0 0 0)] : List Lv),r18.2)
     else
      bif (r6.1 == 16) then
       Nr r6 f2 r5 params4 i3 (decide (f2.Params > 0))
      else
       Nr r6 f2 r5 params4 i3 false
noncomputable def Np (r6 : Int × Ed) (f2 : LA) (r5 : Int × Ed) (params4 : (List Int)) (i3 : Int) (x9 : Bool) : Option ((List Lv) × Ed) :=
 bif x9 then
  (LF r6.2 (f2.Slots.length : Int)).bind fun r10 =>
  some (([(Lv.mk 15 r5.1 r10.1 0 0)] : List Lv),r10.2)
 else
  bif (decide (r6.1 < 9)) then
   Nq r6 f2 r5 params4 i3 (decide ((f2.Slots.length : Int) > 0))
  else
   Nq r6 f2 r5 params4 i3 false
noncomputable def Nn (r6 : Int × Ed) (f2 : LA) (r5 : Int × Ed) (params4 : (List Int)) (i3 : Int) (x7 : Bool) : Option ((List Lv) × Ed) :=
 bif x7 then
  (LF r6.2 (f2.Slots.length : Int)).bind fun r8 =>
  some (([(Lv.mk 16 r8.1 r5.1 0 0)] : List Lv),r8.2)
 else
  bif (decide (r6.1 < 6)) then
   Np r6 f2 r5 params4 i3 (decide ((f2.Slots.length : Int) > 0))
  else
   Np r6 f2 r5 params4 i3 false
noncomputable def NX (c1 : Ed) (f2 : LA) (i3 : Int) (params4 : (List Int)) : Option ((List Lv) × Ed) :=
 (LF c1 4).bind fun r5 =>
 (LF r5.2 20).bind fun r6 =>
 bif (decide (r6.1 < 3)) then
  Nn r6 f2 r5 params4 i3 (decide ((f2.Slots.length : Int) > 0))
 else
  Nn r6 f2 r5 params4 i3 false

noncomputable def Ng (k32 : Int) (code31 : List Lv) (r33 : Int × Ed) (to34 : Int) (x35 : Bool) : Option (((List Int) × Int × (List Lv) × Int) ⊕ (LA × Ed)) :=
 bif x35 then
  chk (0 ≤ k32 ∧ k32 < code31.length) <|
  ((code31)[k32.toNat]?).bind fun code_o38 =>
  cnt (r33.2.list,r33.2.at_,code31.set k32.toNat (Lv.mk code_o38.Op to34 code_o38.B code_o38.C code_o38.Imm),IntKind.i64.wrap (k32 + 1))
 else
  chk (0 ≤ k32 ∧ k32 < code31.length) <|
  ((code31)[k32.toNat]?).bind fun code_e39 =>
  bif (code_e39.Op == 21) then
   chk (0 ≤ k32 ∧ k32 < code31.length) <|
   ((code31)[k32.toNat]?).bind fun code_e40 =>
   bif (decide (code_e40.B < 0)) then
    chk (0 ≤ k32 ∧ k32 < code31.length) <|
    ((code31)[k32.toNat]?).bind fun code_o41 =>
    cnt (r33.2.list,r33.2.at_,code31.set k32.toNat (Lv.mk code_o41.Op code_o41.A to34 code_o41.C code_o41.Imm),IntKind.i64.wrap (k32 + 1))
   else
    cnt (r33.2.list,r33.2.at_,code31,IntKind.i64.wrap (k32 + 1))
  else
   cnt (r33.2.list,r33.2.at_,code31,IntKind.i64.wrap (k32 + 1))
noncomputable def Mu (k32 : Int) (code31 : List Lv) (r33 : Int × Ed) (to34 : Int) : Option (((List Int) × Int × (List Lv) × Int) ⊕ (LA × Ed)) :=
 chk (0 ≤ k32 ∧ k32 < code31.length) <|
 ((code31)[k32.toNat]?).bind fun code_e36 =>
 bif (code_e36.Op == 20) then
  chk (0 ≤ k32 ∧ k32 < code31.length) <|
  ((code31)[k32.toNat]?).bind fun code_e37 =>
  Ng k32 code31 r33 to34 (decide (code_e37.A < 0))
 else
  Ng k32 code31 r33 to34 false
noncomputable def Nf (x_x5 : Int) (f17 : List LS) (c29 : List Int) (c30 : Int) (code31 : List Lv) (k32 : Int) : Option (((List Int) × Int × (List Lv) × Int) ⊕ (LA × Ed)) :=
 bif (decide (k32 < (code31.length : Int))) then
  (LF (Ed.mk c29 c30) 8).bind fun r33 =>
  bif (decide ((IntKind.i64.wrap ((IntKind.i64.wrap (k32 + r33.1)) - 2)) < 0)) then
   Mu k32 code31 r33 (IntKind.i64.wrap ((code31.length : Int) - 1))
  else
   bif (decide ((IntKind.i64.wrap ((IntKind.i64.wrap (k32 + r33.1)) - 2)) ≥ (code31.length : Int))) then
    Mu k32 code31 r33 (IntKind.i64.wrap ((code31.length : Int) - 1))
   else
    Mu k32 code31 r33 (IntKind.i64.wrap ((IntKind.i64.wrap (k32 + r33.1)) - 2))
 else
  lft (some ((LA.mk x_x5 f17 code31),(Ed.mk c29 c30)))
noncomputable def MN (code16 : List Lv) (x_x5 : Int) (f17 : List LS) (c23 : List Int) (c24 : Int) (end25 : Int) (end26 : Int) : Option (LA × Ed) :=
 chk (code16.length + ([(Lv.mk end25 0 0 0 end26)] : List Lv).length ≤ 16777216) <|
 Mj (fun s=>Nf x_x5 f17 s.1 s.2.1 s.2.2.1 s.2.2.2) (c23,c24,code16 ++ ([(Lv.mk end25 0 0 0 end26)] : List Lv),0)
noncomputable def NQ (x_x5 : Int) (i2 : Int) (params3 : (List Int)) (c14 : List Int) (c15 : Int) (code16 : List Lv) (f17 : List LS) (n18 : Int) : Option (((List Int) × Int × (List Lv) × (List LS) × Int) ⊕ (LA × Ed)) :=
 bif (decide (n18 > 0)) then
  (NX (Ed.mk c14 c15) (LA.mk x_x5 f17 ([])) i2 params3).bind fun r19 =>
  chk (code16.length + r19.1.length ≤ 16777216) <|
  (LF r19.2 9).bind fun r20 =>
  bif (r20.1 == 7) then
   (LF r20.2 4).bind fun r21 =>
   chk ((code16 ++ r19.1).length + ([(Lv.mk 21 r21.1 (-1) 0 0)] : List Lv).length ≤ 16777216) <|
   cnt (r21.2.list,r21.2.at_,(code16 ++ r19.1) ++ ([(Lv.mk 21 r21.1 (-1) 0 0)] : List Lv),f17,IntKind.i64.wrap (n18 - 1))
  else
   bif (r20.1 == 8) then
    (LF r20.2 3).bind fun r22 =>
    bif (r22.1 == 2) then
     chk ((code16 ++ r19.1).length + ([(Lv.mk 20 (-1) 0 0 0)] : List Lv).length ≤ 16777216) <|
     cnt (r22.2.list,r22.2.at_,(code16 ++ r19.1) ++ ([(Lv.mk 20 (-1) 0 0 0)] : List Lv),f17,IntKind.i64.wrap (n18 - 1))
    else
     cnt (r22.2.list,r22.2.at_,code16 ++ r19.1,f17,IntKind.i64.wrap (n18 - 1))
   else
    cnt (r20.2.list,r20.2.at_,code16 ++ r19.1,f17,IntKind.i64.wrap (n18 - 1))
 else
  lft (
   (LF (Ed.mk c14 c15) 12).bind fun r27 =>
   bif (r27.1 == 11) then
    (NA r27.2).bind fun r28 =>
    MN code16 x_x5 f17 r28.2.list r28.2.at_ 24 r28.1
   else
    MN code16 x_x5 f17 r27.2.list r27.2.at_ 23 0)
noncomputable def NP (r6 : (List LS) × Ed) (most4 : Int) (x_x5 : Int) (i2 : Int) (params3 : (List Int)) (c7 : List Int) (c8 : Int) (code9 : List Lv) (s10 : Int) : Option (((List Int) × Int × (List Lv) × Int) ⊕ (LA × Ed)) :=
 bif (decide (s10 < (r6.1.length : Int))) then
  (LF (Ed.mk c7 c8) 4).bind fun r11 =>
  bif (decide (r11.1 < 3)) then
   (LF r11.2 4).bind fun r12 =>
   chk (code9.length + ([(Lv.mk 16 s10 r12.1 0 0)] : List Lv).length ≤ 16777216) <|
   cnt (r12.2.list,r12.2.at_,code9 ++ ([(Lv.mk 16 s10 r12.1 0 0)] : List Lv),IntKind.i64.wrap (s10 + 1))
  else
   cnt (r11.2.list,r11.2.at_,code9,IntKind.i64.wrap (s10 + 1))
 else
  lft (
   (LF (Ed.mk c7 c8) (IntKind.i64.wrap (most4 + 1))).bind fun r13 =>
   Mj (fun s=>NQ x_x5 i2 params3 s.1 s.2.1 s.2.2.1 s.2.2.2.1 s.2.2.2.2) (r13.2.list,r13.2.at_,code9,r6.1,r13.1))
noncomputable def Nc (c1 : Ed) (i2 : Int) (params3 : (List Int)) (most4 : Int) : Option (LA × Ed) :=
 (ixO params3 i2).bind fun x_x5 =>
 (NJ c1 6).bind fun r6 =>
 Mj (fun s=>NP r6 most4 x_x5 i2 params3 s.1 s.2.1 s.2.2.1 s.2.2.2) (r6.2.list,r6.2.at_,([] : List Lv),0)

noncomputable def NV (most3 : Int) (c10 : List Int) (c11 : Int) (p12 : List LA) (i13 : Int) (params14 : List Int) : Option (((List Int) × Int × (List LA) × Int × (List Int)) ⊕ (Oa × Ed)) :=
 bif (decide (i13 < (params14.length : Int))) then
  chk (([] : List LA).length + p12.length ≤ 16777216) <|
  (Nc (Ed.mk c10 c11) i13 params14 most3).bind fun r15 =>
  chk ((([] : List LA) ++ p12).length + ([r15.1] : List LA).length ≤ 16777216) <|
  cnt (r15.2.list,r15.2.at_,(([] : List LA) ++ p12) ++ ([r15.1] : List LA),IntKind.i64.wrap (i13 + 1),params14)
 else
  lft (some ((Oa.mk p12),(Ed.mk c10 c11)))
noncomputable def NU (most3 : Int) (c5 : List Int) (c6 : Int) (params7 : List Int) (n8 : Int) : Option (((List Int) × Int × (List Int) × Int) ⊕ (Oa × Ed)) :=
 bif (decide (n8 > 0)) then
  (LF (Ed.mk c5 c6) 4).bind fun r9 =>
  chk (params7.length + ([r9.1] : List Int).length ≤ 16777216) <|
  cnt (r9.2.list,r9.2.at_,params7 ++ ([r9.1] : List Int),IntKind.i64.wrap (n8 - 1))
 else
  lft (Mj (fun s=>NV most3 s.1 s.2.1 s.2.2.1 s.2.2.2.1 s.2.2.2.2) (c5,c6,[],0,params7))
noncomputable def Nm (c1 : Ed) (funcs2 : Int) (most3 : Int) : Option (Oa × Ed) :=
 (LF c1 funcs2).bind fun r4 =>
 Mj (fun s=>NU most3 s.1 s.2.1 s.2.2.1 s.2.2.2) (r4.2.list,r4.2.at_,([0] : List Int),r4.1)

noncomputable def MY (x_x3 : Lv) (k2 : Int) (x4 : Bool) : Option ((List Int)) :=
 bif x4 then
  some ([] : List Int)
 else
  bif (x_x3.Op == 21) then
   bif (decide (x_x3.B < (IntKind.i64.wrap (k2 + 1)))) then
    some ([x_x3.B,IntKind.i64.wrap (k2 + 1)] : List Int)
   else
    bif (decide (x_x3.B > (IntKind.i64.wrap (k2 + 1)))) then
     some ([IntKind.i64.wrap (k2 + 1),x_x3.B] : List Int)
    else
     some ([IntKind.i64.wrap (k2 + 1)] : List Int)
  else
   some ([IntKind.i64.wrap (k2 + 1)] : List Int)
noncomputable def RG (f1 : LA) (k2 : Int) : Option ((List Int)) :=
 (ixO f1.Code k2).bind fun x_x3 =>
 bif (x_x3.Op == 20) then
  some ([x_x3.A] : List Int)
 else
  bif (x_x3.Op == 23) then
   MY x_x3 k2 (x_x3.Op == 23)
  else
   MY x_x3 k2 (x_x3.Op == 24)
noncomputable def QX (f1 : LA) (k2 : Int) : Option ((List Int)) :=
 bif (decide (k2 < 0)) then
  some ([] : List Int)
 else
  bif (decide (k2 ≥ (f1.Code.length : Int))) then
   some ([] : List Int)
  else
   RG f1 k2

noncomputable def Pb (x1 : Lv) : Option (Bool) :=
 bif (x1.Op == 16) then
  some true
 else
  some (x1.Op == 17)

noncomputable def PT (x1 : Lv) : Option (Int × Bool) :=
 (Pb x1).bind fun r2 =>
 bif r2 then
  some (x1.A,true)
 else
  some (0,false)

noncomputable def NC (s1 : (List Int)) (n2 : Int) (out3 : List Int) (i4 : Int) : Option (((List Int) × Int) ⊕ ((List Int))) :=
 bif (decide (i4 < (s1.length : Int))) then
  (ixO s1 i4).bind fun x_x5 =>
  bif (x_x5 != n2) then
   (ixO s1 i4).bind fun x_x6 =>
   chk (out3.length + ([x_x6] : List Int).length ≤ 16777216) <|
   cnt (out3 ++ ([x_x6] : List Int),IntKind.i64.wrap (i4 + 1))
  else
   cnt (out3,IntKind.i64.wrap (i4 + 1))
 else
  lft (some out3)
noncomputable def PA (s1 : (List Int)) (n2 : Int) : Option ((List Int)) :=
 Mj (fun s=>NC s1 n2 s.1 s.2) (([] : List Int),0)

noncomputable def PO (x1 : Lv) : Option ((List Int)) :=
 bif (x1.Op == 15) then
  some ([x1.B] : List Int)
 else
  bif (x1.Op == 17) then
   some ([x1.B] : List Int)
  else
   some ([] : List Int)

noncomputable def QW (n1 : Int) : Option (Bool) :=
 bif (decide (n1 ≥ 0)) then
  some (decide (n1 < 512))
 else
  some false

noncomputable def NB (s1 : (List Int)) (i6 : Int) (out7 : List Int) (done8 : Bool) : Option (((List Int) × Bool × Int) ⊕ ((List Int))) :=
 (ixO s1 i6).bind fun x_x12 =>
 chk (out7.length + ([x_x12] : List Int).length ≤ 16777216) <|
 cnt (out7 ++ ([x_x12] : List Int),done8,IntKind.i64.wrap (i6 + 1))
noncomputable def NS (s1 : (List Int)) (i6 : Int) (n2 : Int) (out4 : List Int) (done5 : Bool) (x9 : Bool) : Option (((List Int) × Bool × Int) ⊕ ((List Int))) :=
 bif x9 then
  (ixO s1 i6).bind fun x_x11 =>
  bif (decide (x_x11 > n2)) then
   chk (out4.length + ([n2] : List Int).length ≤ 16777216) <|
   NB s1 i6 (out4 ++ ([n2] : List Int)) true
  else
   NB s1 i6 out4 true
 else
  NB s1 i6 out4 done5
noncomputable def MU (s1 : (List Int)) (n2 : Int) (out4 : List Int) (done5 : Bool) (i6 : Int) : Option (((List Int) × Bool × Int) ⊕ ((List Int))) :=
 bif (decide (i6 < (s1.length : Int))) then
  bif (!done5) then
   (ixO s1 i6).bind fun x_x10 =>
   NS s1 i6 n2 out4 done5 (decide (x_x10 ≥ n2))
  else
   NS s1 i6 n2 out4 done5 false
 else
  lft (
   bif (!done5) then
    chk (out4.length + ([n2] : List Int).length ≤ 16777216) <|
    some (out4 ++ ([n2] : List Int))
   else
    some out4)
noncomputable def PH (s1 : (List Int)) (n2 : Int) : Option ((List Int)) :=
 (QW n2).bind fun r3 =>
 Mj (fun s=>MU s1 n2 s.1 s.2.1 s.2.2) (([] : List Int),(!r3),0)

noncomputable def Om (b2 : (List Int)) (out3 : List Int) (i4 : Int) : Option (((List Int) × Int) ⊕ ((List Int))) :=
 bif (decide (i4 < (b2.length : Int))) then
  (ixO b2 i4).bind fun x_x5 =>
  (PH out3 x_x5).bind fun r6 =>
  cnt (r6,IntKind.i64.wrap (i4 + 1))
 else
  lft (some out3)
noncomputable def Oj (a1 : (List Int)) (b2 : (List Int)) : Option ((List Int)) :=
 chk (([] : List Int).length + a1.length ≤ 16777216) <|
 Mj (fun s=>Om b2 s.1 s.2) (([] : List Int) ++ a1,0)

noncomputable def Tb (x1 : Lv) (out2 : (List Int)) : Option ((List Int)) :=
 (PT x1).bind fun r3 =>
 bif r3.2 then
  (PA out2 r3.1).bind fun r4 =>
  (PO x1).bind fun r5 =>
  (Oj r4 r5).bind fun r6 =>
  some r6
 else
  (PO x1).bind fun r7 =>
  (Oj out2 r7).bind fun r8 =>
  some r8

noncomputable def RH (k4 : Int) (x5 : List (List Int)) : Option (((List (List Int)) × Int) ⊕ (LK)) :=
 cnt (x5,IntKind.i64.wrap (k4 + 1))
noncomputable def OQ (r6 : (List Int)) (k4 : Int) (f1 : LA) (l2 : LK) (x7 : List (List Int)) (i8 : Int) : Option (((List (List Int)) × Int) ⊕ (((List (List Int)) × Int) ⊕ (LK))) :=
 bif (decide (i8 < (r6.length : Int))) then
  chk (0 ≤ i8 ∧ i8 < r6.length) <|
  ((r6)[i8.toNat]?).bind fun next_e9 =>
  chk (0 ≤ k4 ∧ k4 < x7.length) <|
  ((x7)[k4.toNat]?).bind fun x_e10 =>
  (ixO f1.Code next_e9).bind fun x_x11 =>
  (ixO l2.Out next_e9).bind fun x_x12 =>
  (Tb x_x11 x_x12).bind fun r13 =>
  (Oj x_e10 r13).bind fun r14 =>
  chk (0 ≤ k4 ∧ k4 < x7.length) <|
  ((x7)[k4.toNat]?).bind fun _ =>
  cnt (x7.set k4.toNat r14,IntKind.i64.wrap (i8 + 1))
 else
  lft (RH k4 x7)
noncomputable def OP (f1 : LA) (l2 : LK) (x3 : List (List Int)) (k4 : Int) : Option (((List (List Int)) × Int) ⊕ (LK)) :=
 bif (decide (k4 < (f1.Code.length : Int))) then
  (QX f1 k4).bind fun r6 =>
  Mj (fun s=>OQ r6 k4 f1 l2 s.1 s.2) (x3,0)
 else
  lft (some (LK.mk x3))
noncomputable def QZ (f1 : LA) (l2 : LK) : Option (LK) :=
 chk (0 ≤ (f1.Code.length : Int) ∧ (f1.Code.length : Int) ≤ 16777216) <|
 Mj (fun s=>OP f1 l2 s.1 s.2) (List.replicate (f1.Code.length : Int).toNat ([] : (List Int)),0)

noncomputable def Oe (a1 : (List Int)) (b2 : (List Int)) (i3 : Int) : Option ((Int) ⊕ (Bool)) :=
 bif (decide (i3 < (a1.length : Int))) then
  (ixO a1 i3).bind fun x_x4 =>
  (ixO b2 i3).bind fun x_x5 =>
  bif (x_x4 != x_x5) then
   lft (some false)
  else
   cnt (IntKind.i64.wrap (i3 + 1))
 else
  lft (some true)
noncomputable def QU (a1 : (List Int)) (b2 : (List Int)) : Option (Bool) :=
 bif ((a1.length : Int) != (b2.length : Int)) then
  some false
 else
  Mj (fun s=>Oe a1 b2 s) 0

noncomputable def Nl (a1 : (List (List Int))) (b2 : (List (List Int))) (i3 : Int) : Option ((Int) ⊕ (Bool)) :=
 bif (decide (i3 < (a1.length : Int))) then
  (ixO a1 i3).bind fun x_x4 =>
  (ixO b2 i3).bind fun x_x5 =>
  (QU x_x4 x_x5).bind fun r6 =>
  bif (!r6) then
   lft (some false)
  else
   cnt (IntKind.i64.wrap (i3 + 1))
 else
  lft (some true)
noncomputable def OO (a1 : (List (List Int))) (b2 : (List (List Int))) : Option (Bool) :=
 bif ((a1.length : Int) != (b2.length : Int)) then
  some false
 else
  Mj (fun s=>Nl a1 b2 s) 0

noncomputable def Oi (a1 : LK) (b2 : LK) : Option (Bool) :=
 (OO a1.Out b2.Out).bind fun r3 =>
 some r3

noncomputable def QY (f1 : LA) (l2 : List (List Int)) : Option (((List (List Int))) ⊕ (LK)) :=
 (QZ f1 (LK.mk l2)).bind fun r3 =>
 (Oi r3 (LK.mk l2)).bind fun r4 =>
 bif r4 then
  lft (some (LK.mk l2))
 else
  cnt r3.Out
noncomputable def Pm (f1 : LA) : Option (LK) :=
 chk (0 ≤ (f1.Code.length : Int) ∧ (f1.Code.length : Int) ≤ 16777216) <|
 Mj (fun s=>QY f1 s) (List.replicate (f1.Code.length : Int).toNat ([] : (List Int)))

noncomputable def OB (n8 : Int) (c9 : List Int) (c10 : Int) (x11 : List (List Int)) : Option (((List Int) × Int × (List (List Int)) × Int) ⊕ (LK × Ed)) :=
 cnt (c9,c10,x11,IntKind.i64.wrap (n8 - 1))
noncomputable def Oz (r12 : Int × Ed) (n8 : Int) (x13 : List (List Int)) (k14 : Int) : Option (((List (List Int)) × Int) ⊕ (((List Int) × Int × (List (List Int)) × Int) ⊕ (LK × Ed))) :=
 bif (decide (k14 < (x13.length : Int))) then
  chk (0 ≤ k14 ∧ k14 < x13.length) <|
  ((x13)[k14.toNat]?).bind fun x_e15 =>
  (PH x_e15 r12.1).bind fun r16 =>
  chk (0 ≤ k14 ∧ k14 < x13.length) <|
  ((x13)[k14.toNat]?).bind fun _ =>
  cnt (x13.set k14.toNat r16,IntKind.i64.wrap (k14 + 1))
 else
  lft (OB n8 r12.2.list r12.2.at_ x13)
noncomputable def OA (c5 : List Int) (c6 : Int) (f2 : LA) (n8 : Int) (x7 : List (List Int)) : Option (((List Int) × Int × (List (List Int)) × Int) ⊕ (LK × Ed)) :=
 (LF (Ed.mk c5 c6) (f2.Slots.length : Int)).bind fun r12 =>
 Mj (fun s=>Oz r12 n8 s.1 s.2) (x7,0)
noncomputable def Oy (f2 : LA) (c5 : List Int) (c6 : Int) (x7 : List (List Int)) (n8 : Int) : Option (((List Int) × Int × (List (List Int)) × Int) ⊕ (LK × Ed)) :=
 bif (decide (n8 > 0)) then
  bif (decide ((f2.Slots.length : Int) > 0)) then
   OA c5 c6 f2 n8 x7
  else
   lft (some ((LK.mk x7),(Ed.mk c5 c6)))
 else
  lft (some ((LK.mk x7),(Ed.mk c5 c6)))
noncomputable def NI (c1 : Ed) (f2 : LA) : Option (LK × Ed) :=
 (Pm f2).bind fun r3 =>
 chk (([] : List (List Int)).length + r3.Out.length ≤ 16777216) <|
 (LF c1 3).bind fun r4 =>
 Mj (fun s=>Oy f2 s.1 s.2.1 s.2.2.1 s.2.2.2) (r4.2.list,r4.2.at_,([] : List (List Int)) ++ r3.Out,r4.1)

noncomputable def PY (codes1 : (List Int)) : Option (LA × LK × Ed) :=
 (SO codes1 250).bind fun r2 =>
 (Nm r2 3 16).bind fun r3 =>
 (LF r3.2 (r3.1.Funcs.length : Int)).bind fun r4 =>
 (ixO r3.1.Funcs r4.1).bind fun x_x5 =>
 (NI r4.2 x_x5).bind fun r6 =>
 some (x_x5,r6.1,r6.2)

noncomputable def LU (s11 : (List (List Int))) (s22 : (List (List Int))) (x3 : Int) : Option ((Int) ⊕ (Bool)) :=
 bif (decide (x3 < (s11.length : Int))) then
  (ixO s11 x3).bind fun x_x4 =>
  (ixO s22 x3).bind fun x_x5 =>
  (ML x_x4 x_x5).bind fun r6 =>
  bif (!r6) then
   lft (some false)
  else
   cnt (IntKind.i64.wrap (x3 + 1))
 else
  lft (some true)
noncomputable def LZ (s11 : (List (List Int))) (s22 : (List (List Int))) : Option (Bool) :=
 bif ((s11.length : Int) != (s22.length : Int)) then
  some false
 else
  Mj (fun s=>LU s11 s22 s) 0

noncomputable def ON (a1 : LK) (b2 : LK) : Option (Bool) :=
 (LZ a1.Out b2.Out).bind fun r3 =>
 some r3

noncomputable def Nd (codes1 : (List Int)) : Option (Bool) :=
 (PX).bind fun r2 =>
 bif (!r2) then
  some false
 else
  (PY codes1).bind fun r3 =>
  (NK r3.1).bind fun r4 =>
  (Pm r3.1).bind fun r5 =>
  (Oi r4 r5).bind fun r6 =>
  bif r6 then
   (ON r4 r5).bind fun r7 =>
   some r7
  else
   some false

end Go.Proofs.YtcelninhkmhjkaaDoor
