/-
 The programs on typed data; written by a program (dx.py).
-/
import Derived.Test.YtcelninhkmhjkaaDoorDxT
namespace Go.Proofs.YtcelninhkmhjkaaDoor
open Go Go.Dw Go.Proofs
set_option maxRecDepth 100000
noncomputable def Lc (n1 : Int) : Option (Bool) :=
 bif (decide (n1 ≥ 0)) then
  some (decide (n1 < 512))
 else
  some false

noncomputable def Mh (s1 : (List Int)) (x2 : Int) : Option ((Int) ⊕ (Bool)) :=
 bif (decide (x2 < (s1.length : Int))) then
  (ixO s1 x2).bind fun x_x3 =>
  (Lc x_x3).bind fun r4 =>
  bif (!r4) then
   lft (some false)
  else
   bif (decide (x2 > 0)) then
    (ixO s1 (IntKind.i64.wrap (x2 - 1))).bind fun x_x5 =>
    bif (decide (x_x3 ≤ x_x5)) then
     lft (some false)
    else
     cnt (IntKind.i64.wrap (x2 + 1))
   else
    cnt (IntKind.i64.wrap (x2 + 1))
 else
  lft (some true)
noncomputable def PK (s1 : (List Int)) : Option (Bool) :=
 Kv (fun s=>Mh s1 s) 0

noncomputable def LQ (s1 : (List Int)) (cap2 : JN) : Option (Bool) :=
 (PK s1).bind fun r3 =>
 bif (!r3) then
  some true
 else
  bif (decide ((s1.length : Int) > 0)) then
   (ixO s1 (IntKind.i64.wrap ((s1.length : Int) - 1))).bind fun x_x4 =>
   some (decide (x_x4 ≥ (cap2.Slots.length : Int)))
  else
   some false

noncomputable def Lm (s1 : (List (List Int))) (f2 : JN) (x3 : Int) : Option ((Int) ⊕ (Int)) :=
 bif (decide (x3 < (s1.length : Int))) then
  (ixO s1 x3).bind fun x_x4 =>
  (LQ x_x4 f2).bind fun r5 =>
  bif r5 then
   lft (some x3)
  else
   cnt (IntKind.i64.wrap (x3 + 1))
 else
  lft (some (-1))
noncomputable def KE (s1 : (List (List Int))) (f2 : JN) : Option (Int) :=
 Kv (fun s=>Lm s1 f2 s) 0

noncomputable def KI (s1 : (List (List Int))) (f2 : JN) : Option (Bool) :=
 (KE s1 f2).bind fun r3 =>
 some (decide (r3 ≥ 0))

noncomputable def Mr (f1 : JN) (l2 : JP) : Option (Bool) :=
 bif ((l2.Out.length : Int) == (f1.Code.length : Int)) then
  (KI l2.Out f1).bind fun r3 =>
  some (!r3)
 else
  some false

noncomputable def PV (l1 : JP) : Option (JP) :=
 some l1

noncomputable def PZ (op1 : Int) : Option (Bool) :=
 bif (op1 == 20) then
  some true
 else
  bif (op1 == 23) then
   some true
  else
   some (op1 == 24)

noncomputable def RI (x_x3 : JK) (l4 : List Int) : Option ((List Int)) :=
 bif (x_x3.Op == 20) then
  chk (l4.length + ([x_x3.A] : List Int).length ≤ 16777216) <|
  chk ((l4 ++ ([x_x3.A] : List Int)).length < 4611686018427387904) <|
  chk ((LK (l4 ++ ([x_x3.A] : List Int))).length < 4611686018427387904) <|
  some (Lib.compact (LK (l4 ++ ([x_x3.A] : List Int))))
 else
  bif (x_x3.Op == 21) then
   chk (l4.length + ([x_x3.B] : List Int).length ≤ 16777216) <|
   chk ((l4 ++ ([x_x3.B] : List Int)).length < 4611686018427387904) <|
   chk ((LK (l4 ++ ([x_x3.B] : List Int))).length < 4611686018427387904) <|
   some (Lib.compact (LK (l4 ++ ([x_x3.B] : List Int))))
  else
   chk (l4.length < 4611686018427387904) <|
   chk ((LK l4).length < 4611686018427387904) <|
   some (Lib.compact (LK l4))
noncomputable def Ue (f1 : JN) (k2 : Int) : Option ((List Int)) :=
 (ixO f1.Code k2).bind fun x_x3 =>
 (PZ x_x3.Op).bind fun r5 =>
 bif (!r5) then
  chk (([] : List Int).length + ([IntKind.i64.wrap (k2 + 1)] : List Int).length ≤ 16777216) <|
  RI x_x3 (([] : List Int) ++ ([IntKind.i64.wrap (k2 + 1)] : List Int))
 else
  RI x_x3 ([] : List Int)
noncomputable def RH (f1 : JN) (k2 : Int) : Option ((List Int)) :=
 bif (decide (k2 < 0)) then
  some ([] : List Int)
 else
  bif (decide (k2 ≥ (f1.Code.length : Int))) then
   some ([] : List Int)
  else
   Ue f1 k2

noncomputable def Nl (j1 : Int) (cap2 : JP) : Option ((List Int)) :=
 (ixO cap2.Out j1).bind fun x_x3 =>
 some x_x3

noncomputable def Ot (x1 : JK) : Option (Int × Bool) :=
 bif (x1.Op == 16) then
  bif (x1.Op == 16) then
   some (x1.A,true)
  else
   some (0,false)
 else
  bif (x1.Op == 17) then
   some (x1.A,true)
  else
   some (0,false)

noncomputable def LW (s1 : JL) (n2 : Int) (in3 : Bool) : Option (JL) :=
 chk (0 ≤ ((IntKind.u64.wrap (n2)).tmod 64)) <|
 (Lc n2).bind fun r4 =>
 bif (!r4) then
  some s1
 else
  bif in3 then
   chk (0 ≤ (IntKind.i64.wrap (n2.tdiv 64)) ∧ (IntKind.i64.wrap (n2.tdiv 64)) < 8) <|
   ((s1.toList)[(IntKind.i64.wrap (n2.tdiv 64)).toNat]?).bind fun s_e5 =>
   chk (0 ≤ (IntKind.i64.wrap (n2.tdiv 64)) ∧ (IntKind.i64.wrap (n2.tdiv 64)) < 8) <|
   ((s1.toList)[(IntKind.i64.wrap (n2.tdiv 64)).toNat]?).bind fun _ =>
   some (s1.set ((IntKind.i64.wrap (n2.tdiv 64)).toNat) (IntKind.u64.wrap ((BitVec.ofInt IntKind.u64.bits s_e5 ||| BitVec.ofInt IntKind.u64.bits (IntKind.u64.wrap (1 * 2 ^ (Nat.min ((IntKind.u64.wrap (n2)).tmod 64).toNat IntKind.u64.bits)))).toNat)))
  else
   chk (0 ≤ (IntKind.i64.wrap (n2.tdiv 64)) ∧ (IntKind.i64.wrap (n2.tdiv 64)) < 8) <|
   ((s1.toList)[(IntKind.i64.wrap (n2.tdiv 64)).toNat]?).bind fun s_e7 =>
   chk (0 ≤ (IntKind.i64.wrap (n2.tdiv 64)) ∧ (IntKind.i64.wrap (n2.tdiv 64)) < 8) <|
   ((s1.toList)[(IntKind.i64.wrap (n2.tdiv 64)).toNat]?).bind fun _ =>
   some (s1.set ((IntKind.i64.wrap (n2.tdiv 64)).toNat) (IntKind.u64.wrap ((BitVec.ofInt IntKind.u64.bits s_e7 &&& ~~~ BitVec.ofInt IntKind.u64.bits (IntKind.u64.wrap (1 * 2 ^ (Nat.min ((IntKind.u64.wrap (n2)).tmod 64).toNat IntKind.u64.bits)))).toNat)))

noncomputable def Ql (l1 : (List Int)) (x2 : JL) (x3 : Int) : Option ((JL × Int) ⊕ (JL)) :=
 bif (decide (x3 < (l1.length : Int))) then
  (ixO l1 x3).bind fun x_x4 =>
  (LW x2 x_x4 true).bind fun r5 =>
  cnt (r5,IntKind.i64.wrap (x3 + 1))
 else
  lft (some x2)
noncomputable def Lt (l1 : (List Int)) : Option (JL) :=
 Kv (fun s=>Ql l1 s.1 s.2) ((JL.mk 0 0 0 0 0 0 0 0),0)

noncomputable def Ny (x3 : Int) (l5 : List Int) (x6 : Int) : Option (((List Int) × Int) ⊕ (((List Int) × Int) ⊕ ((List Int) × JL))) :=
 bif (x6 != 0) then
  (YR x6).bind fun r7 =>
  chk (l5.length + ([IntKind.i64.wrap ((IntKind.i64.wrap (64 * x3)) + r7)] : List Int).length ≤ 16777216) <|
  cnt (l5 ++ ([IntKind.i64.wrap ((IntKind.i64.wrap (64 * x3)) + r7)] : List Int),IntKind.u64.wrap ((BitVec.ofInt IntKind.u64.bits x6 &&& BitVec.ofInt IntKind.u64.bits (IntKind.u64.wrap (x6 - 1))).toNat))
 else
  lft (cnt (l5,IntKind.i64.wrap (x3 + 1)))
noncomputable def Nx (s1 : JL) (l2 : List Int) (x3 : Int) : Option (((List Int) × Int) ⊕ ((List Int) × JL)) :=
 bif (decide (x3 < 8)) then
  chk (0 ≤ x3 ∧ x3 < 8) <|
  ((s1.toList)[x3.toNat]?).bind fun s_e4 =>
  Kv (fun s=>Ny x3 s.1 s.2) (l2,s_e4)
 else
  lft (some (l2,s1))
noncomputable def KW (s1 : JL) : Option ((List Int) × JL) :=
 Kv (fun s=>Nx s1 s.1 s.2) (([] : List Int),0)

noncomputable def Nb (s1 : (List Int)) (n2 : Int) : Option ((List Int)) :=
 (Lt s1).bind fun r3 =>
 (LW r3 n2 false).bind fun r4 =>
 (KW r4).bind fun r5 =>
 some r5.1

noncomputable def PA (x1 : JK) : Option ((List Int)) :=
 bif (x1.Op == 15) then
  bif (x1.Op == 15) then
   some ([x1.B] : List Int)
  else
   some ([] : List Int)
 else
  bif (x1.Op == 17) then
   some ([x1.B] : List Int)
  else
   some ([] : List Int)

noncomputable def Qh (l1 : (List Int)) : Option ((List Int)) :=
 (Lt l1).bind fun r2 =>
 (KW r2).bind fun r3 =>
 some r3.1

noncomputable def Oq (x1 : Int) (y2 : Int) : Option (Int) :=
 some (IntKind.u64.wrap ((BitVec.ofInt IntKind.u64.bits x1 ||| BitVec.ofInt IntKind.u64.bits y2).toNat))

noncomputable def Lk (s1 : JL) (t2 : JL) (x3 : JL) (x4 : Int) : Option ((JL × Int) ⊕ (JL × JL × JL)) :=
 bif (decide (x4 < 8)) then
  chk (0 ≤ x4 ∧ x4 < 8) <|
  ((s1.toList)[x4.toNat]?).bind fun s_e5 =>
  chk (0 ≤ x4 ∧ x4 < 8) <|
  ((t2.toList)[x4.toNat]?).bind fun t_e6 =>
  (Oq s_e5 t_e6).bind fun r7 =>
  chk (0 ≤ x4 ∧ x4 < 8) <|
  ((x3.toList)[x4.toNat]?).bind fun _ =>
  cnt ((x3.set x4.toNat r7),IntKind.i64.wrap (x4 + 1))
 else
  lft (some (x3,s1,t2))
noncomputable def La (s1 : JL) (t2 : JL) : Option (JL × JL × JL) :=
 Kv (fun s=>Lk s1 t2 s.1 s.2) ((JL.mk 0 0 0 0 0 0 0 0),0)

noncomputable def MN (a1 : (List Int)) (b2 : (List Int)) : Option ((List Int)) :=
 (Lt a1).bind fun r3 =>
 (Lt b2).bind fun r4 =>
 (La r3 r4).bind fun r5 =>
 (KW r5.1).bind fun r6 =>
 some r6.1

noncomputable def RG (x1 : JK) (out2 : (List Int)) : Option ((List Int)) :=
 (Ot x1).bind fun r3 =>
 bif r3.2 then
  (Nb out2 r3.1).bind fun r4 =>
  (PA x1).bind fun r5 =>
  (Qh r5).bind fun r6 =>
  (MN r4 r6).bind fun r7 =>
  some r7
 else
  (PA x1).bind fun r8 =>
  (Qh r8).bind fun r9 =>
  (MN out2 r9).bind fun r10 =>
  some r10

noncomputable def Oo (x1 : Int) (y2 : Int) : Option (Int) :=
 some (IntKind.u64.wrap ((BitVec.ofInt IntKind.u64.bits x1 &&& ~~~ BitVec.ofInt IntKind.u64.bits y2).toNat))

noncomputable def Lj (s1 : JL) (t2 : JL) (x3 : JL) (x4 : Int) : Option ((JL × Int) ⊕ (JL × JL × JL)) :=
 bif (decide (x4 < 8)) then
  chk (0 ≤ x4 ∧ x4 < 8) <|
  ((s1.toList)[x4.toNat]?).bind fun s_e5 =>
  chk (0 ≤ x4 ∧ x4 < 8) <|
  ((t2.toList)[x4.toNat]?).bind fun t_e6 =>
  (Oo s_e5 t_e6).bind fun r7 =>
  chk (0 ≤ x4 ∧ x4 < 8) <|
  ((x3.toList)[x4.toNat]?).bind fun _ =>
  cnt ((x3.set x4.toNat r7),IntKind.i64.wrap (x4 + 1))
 else
  lft (some (x3,s1,t2))
noncomputable def KZ (s1 : JL) (t2 : JL) : Option (JL × JL × JL) :=
 Kv (fun s=>Lj s1 t2 s.1 s.2) ((JL.mk 0 0 0 0 0 0 0 0),0)

noncomputable def Oy (a1 : (List Int)) (b2 : (List Int)) : Option ((List Int)) :=
 (Lt a1).bind fun r3 =>
 (Lt b2).bind fun r4 =>
 (KZ r3 r4).bind fun r5 =>
 (KW r5.1).bind fun r6 =>
 some r6.1

noncomputable def LJ (need1 : (List Int)) (cap2 : (List Int)) (cap3 : JP) (cap4 : Int) : Option (Bool × (List Int)) :=
 (ixO cap3.Out cap4).bind fun x_x5 =>
 (Oy need1 x_x5).bind fun r6 =>
 (MN cap2 r6).bind fun r7 =>
 some (true,r7)

noncomputable def Kw (r7 : (List Int)) (f1 : JN) (set3 : JP) (visit5 : JP) (visit6 : Int) (x8 : List Int) (x9 : Int) : Option (((List Int) × Int) ⊕ (Bool × (List Int))) :=
 bif (decide (x9 < (r7.length : Int))) then
  chk (0 ≤ x9 ∧ x9 < r7.length) <|
  ((r7)[x9.toNat]?).bind fun x_e10 =>
  (ixO f1.Code x_e10).bind fun x_x11 =>
  (Nl x_e10 set3).bind fun r12 =>
  (RG x_x11 r12).bind fun r13 =>
  (LJ r13 x8 visit5 visit6).bind fun r14 =>
  bif (!r14.1) then
   lft (some (false,r14.2))
  else
   cnt (r14.2,IntKind.i64.wrap (x9 + 1))
 else
  lft (some (true,x8))
noncomputable def KB (f1 : JN) (k2 : Int) (set3 : JP) (visit4 : (List Int)) (visit5 : JP) (visit6 : Int) : Option (Bool × (List Int)) :=
 (RH f1 k2).bind fun r7 =>
 Kv (fun s=>Kw r7 f1 set3 visit5 visit6 s.1 s.2) (visit4,0)

noncomputable def Pl (f1 : JN) (l2 : JP) (x4 : Int) : Option ((Int) ⊕ (Int × Int × Bool)) :=
 bif (decide (x4 < (f1.Code.length : Int))) then
  (PV l2).bind fun r5 =>
  (KB f1 x4 r5 ([]) l2 x4).bind fun r6 =>
  bif (decide ((r6.2.length : Int) > 0)) then
   (ixO r6.2 0).bind fun x_x7 =>
   lft (some (x4,x_x7,true))
  else
   cnt (IntKind.i64.wrap (x4 + 1))
 else
  lft (some (0,0,false))
noncomputable def MQ (f1 : JN) (l2 : JP) : Option (Int × Int × Bool) :=
 (Mr f1 l2).bind fun r3 =>
 bif (!r3) then
  some (0,0,false)
 else
  Kv (fun s=>Pl f1 l2 s) 0

noncomputable def LI (f1 : JN) (l2 : JP) : Option (Int) :=
 (Mr f1 l2).bind fun r3 =>
 bif (!r3) then
  some 11
 else
  (MQ f1 l2).bind fun r4 =>
  bif r4.2.2 then
   some 11
  else
   some 0

noncomputable def QG  : Option (Bool) :=
 (LI (JN.mk 0 ([(Ko.mk 8 8)] : List Ko) ([(JK.mk 16 0 0 0 0),(JK.mk 15 0 0 0 0),(JK.mk 23 0 0 0 0)] : List JK)) (JP.mk ([([0] : List Int),([] : List Int),([] : List Int)] : List (List Int)))).bind fun r1 =>
 bif (r1 == 0) then
  (LI (JN.mk 0 ([(Ko.mk 8 8)] : List Ko) ([(JK.mk 16 0 0 0 0),(JK.mk 15 0 0 0 0),(JK.mk 23 0 0 0 0)] : List JK)) (JP.mk ([([] : List Int),([] : List Int),([] : List Int)] : List (List Int)))).bind fun r2 =>
  some (r2 == 11)
 else
  some false

noncomputable def UN (list1 : (List Int)) (limit2 : Int) : Option (JJ) :=
 chk (0 ≤ (Uj (list1.length : Int) limit2) ∧ (Uj (list1.length : Int) limit2) ≤ list1.length) <|
 some (JJ.mk (list1.take (Uj (list1.length : Int) limit2).toNat) 0)

noncomputable def Pd (c1 : JJ) : Option (Bool × JJ) :=
 some ((decide (c1.at_ < (c1.list.length : Int))),c1)

noncomputable def Ph (n2 : Int) (c3 : List Int) (c4 : Int) : Option (Int × JJ) :=
 (ixO c3 c4).bind fun x_x6 =>
 some (IntKind.i64.wrap ((IntKind.i64.wrap ((IntKind.i64.wrap (x_x6)) * n2)).tdiv 256),(JJ.mk c3 (IntKind.i64.wrap (c4 + 1))))
noncomputable def JU (c1 : JJ) (n2 : Int) : Option (Int × JJ) :=
 (Pd c1).bind fun r5 =>
 bif (!r5.1) then
  some (0,r5.2)
 else
  bif (decide (n2 < 1)) then
   some (0,r5.2)
  else
   Ph n2 r5.2.list r5.2.at_

noncomputable def NR (c1 : JJ) : Option (Ko × JJ) :=
 (JU c1 7).bind fun r2 =>
 chk (0 ≤ r2.1 ∧ r2.1 < ([8,4,8,1,2,16,8] : List Int).length) <|
 ((([8,4,8,1,2,16,8] : List Int))[r2.1.toNat]?).bind fun x_e3 =>
 (JU r2.2 8).bind fun r4 =>
 chk (0 ≤ r4.1 ∧ r4.1 < ([8,4,1,8,16,2,32,64] : List Int).length) <|
 ((([8,4,1,8,16,2,32,64] : List Int))[r4.1.toNat]?).bind fun x_e5 =>
 some ((Ko.mk x_e3 x_e5),r4.2)

noncomputable def OG (c4 : List Int) (c5 : Int) (l6 : List Ko) (n7 : Int) : Option (((List Int) × Int × (List Ko) × Int) ⊕ ((List Ko) × JJ)) :=
 bif (decide (n7 > 0)) then
  (NR (JJ.mk c4 c5)).bind fun r8 =>
  chk (l6.length + ([r8.1] : List Ko).length ≤ 16777216) <|
  cnt (r8.2.list,r8.2.at_,l6 ++ ([r8.1] : List Ko),IntKind.i64.wrap (n7 - 1))
 else
  lft (some (l6,(JJ.mk c4 c5)))
noncomputable def Nr (c1 : JJ) (most2 : Int) : Option ((List Ko) × JJ) :=
 (JU c1 (IntKind.i64.wrap (most2 + 1))).bind fun r3 =>
 Kv (fun s=>OG s.1 s.2.1 s.2.2.1 s.2.2.2) (r3.2.list,r3.2.at_,([] : List Ko),r3.1)

noncomputable def Pk (f2 : JN) (s3 : Int) (c1 : JJ) (l4 : List Int) (k5 : Int) : Option (((List Int) × Int) ⊕ (Int × JJ)) :=
 bif (decide (k5 < (f2.Slots.length : Int))) then
  (ixO f2.Slots k5).bind fun x_x6 =>
  (ixO f2.Slots s3).bind fun x_x7 =>
  bif (x_x6.Size == x_x7.Size) then
   chk (l4.length + ([k5] : List Int).length ≤ 16777216) <|
   cnt (l4 ++ ([k5] : List Int),IntKind.i64.wrap (k5 + 1))
  else
   cnt (l4,IntKind.i64.wrap (k5 + 1))
 else
  lft (
   (JU c1 (l4.length : Int)).bind fun r8 =>
   chk (0 ≤ r8.1 ∧ r8.1 < l4.length) <|
   ((l4)[r8.1.toNat]?).bind fun l_e9 =>
   some (l_e9,r8.2))
noncomputable def NT (c1 : JJ) (f2 : JN) (s3 : Int) : Option (Int × JJ) :=
 Kv (fun s=>Pk f2 s3 c1 s.1 s.2) (([] : List Int),0)

noncomputable def MP (c1 : JJ) : Option (Int × JJ) :=
 (JU c1 6).bind fun r2 =>
 bif (r2.1 == 0) then
  (JU r2.2 3).bind fun r3 =>
  some (IntKind.u64.wrap (18446744073709551615 - (IntKind.u64.wrap (r3.1))),r3.2)
 else
  bif (r2.1 == 1) then
   (JU r2.2 64).bind fun r4 =>
   chk (0 ≤ r4.1) <|
   some (IntKind.u64.wrap (1 * 2 ^ (Nat.min r4.1.toNat IntKind.u64.bits)),r4.2)
  else
   bif (r2.1 == 2) then
    some (0,r2.2)
   else
    (JU r2.2 256).bind fun r5 =>
    some (IntKind.u64.wrap (r5.1),r5.2)

noncomputable def Pj (params4 : (List Int)) (i3 : Int) (r23 : Int × JJ) (c24 : List Int) (c25 : Int) (out26 : List JK) (a27 : Int) : Option (((List Int) × Int × (List JK) × Int) ⊕ ((List JK) × JJ)) :=
 (ixO params4 (IntKind.i64.wrap ((IntKind.i64.wrap (i3 + 1)) + r23.1))).bind fun x_x28 =>
 bif (decide (a27 < x_x28)) then
  (JU (JJ.mk c24 c25) 8).bind fun r29 =>
  bif (decide (r29.1 < 7)) then
   (JU r29.2 4).bind fun r30 =>
   chk (out26.length + ([(JK.mk 18 a27 r30.1 0 0)] : List JK).length ≤ 16777216) <|
   cnt (r30.2.list,r30.2.at_,out26 ++ ([(JK.mk 18 a27 r30.1 0 0)] : List JK),IntKind.i64.wrap (a27 + 1))
  else
   cnt (r29.2.list,r29.2.at_,out26,IntKind.i64.wrap (a27 + 1))
 else
  lft (
   chk (out26.length + ([(JK.mk 22 (IntKind.i64.wrap ((IntKind.i64.wrap (i3 + 1)) + r23.1)) 0 0 0)] : List JK).length ≤ 16777216) <|
   some (out26 ++ ([(JK.mk 22 (IntKind.i64.wrap ((IntKind.i64.wrap (i3 + 1)) + r23.1)) 0 0 0)] : List JK),(JJ.mk c24 c25)))
noncomputable def RD (r5 : Int × JJ) (r6 : Int × JJ) : Option ((List JK) × JJ) :=
 some (([(JK.mk 14 r5.1 0 0 0)] : List JK),r6.2)
noncomputable def MC (r6 : Int × JJ) (params4 : (List Int)) (i3 : Int) (r5 : Int × JJ) (x22 : Bool) : Option ((List JK) × JJ) :=
 bif x22 then
  (JU r6.2 (IntKind.i64.wrap ((IntKind.i64.wrap ((params4.length : Int) - i3)) - 1))).bind fun r23 =>
  Kv (fun s=>Pj params4 i3 r23 s.1 s.2.1 s.2.2.1 s.2.2.2) (r23.2.list,r23.2.at_,([] : List JK),0)
 else
  RD r5 r6
noncomputable def MB (r6 : Int × JJ) (f2 : JN) (r5 : Int × JJ) (params4 : (List Int)) (i3 : Int) (x20 : Bool) : Option ((List JK) × JJ) :=
 bif x20 then
  (JU r6.2 f2.Params).bind fun r21 =>
  some (([(JK.mk 19 r5.1 r21.1 0 0)] : List JK),r21.2)
 else
  bif (decide (r6.1 ≥ 17)) then
   MC r6 params4 i3 r5 (decide ((IntKind.i64.wrap (i3 + 1)) < (params4.length : Int)))
  else
   MC r6 params4 i3 r5 false
noncomputable def MA (r6 : Int × JJ) (f2 : JN) (r5 : Int × JJ) (params4 : (List Int)) (i3 : Int) (x11 : Bool) : Option ((List JK) × JJ) :=
 bif x11 then
  (JU r6.2 (f2.Slots.length : Int)).bind fun r12 =>
  (NT r12.2 f2 r12.1).bind fun r13 =>
  some (([(JK.mk 17 r13.1 r12.1 0 0)] : List JK),r13.2)
 else
  bif (decide (r6.1 < 11)) then
   (MP r6.2).bind fun r14 =>
   some (([(JK.mk 0 r5.1 0 0 r14.1)] : List JK),r14.2)
  else
   bif (decide (r6.1 < 13)) then
    (JU r6.2 10).bind fun r15 =>
    (JU r15.2 4).bind fun r16 =>
    (JU r16.2 8).bind fun r17 =>
    some (([(JK.mk (IntKind.i64.wrap (2 + r15.1)) r5.1 r16.1 r17.1 0)] : List JK),r17.2)
   else
    bif (decide (r6.1 < 15)) then
     some (([(JK.mk 14 r5.1 0 0 0)] : List JK),r6.2)
    else
     bif (r6.1 == 15) then
      (JU r6.2 3).bind fun r18 =>
      chk (0 ≤ r18.1 ∧ r18.1 < ([13,12,1] : List Int).length) <|
      ((([13,12,1] : List Int))[r18.1.toNat]?).bind fun x_e19 =>
      some (([(JK.mk x_e19 r5.1 0 0 0)] : List JK),r18.2)
     else
      bif (r6.1 == 16) then
       MB r6 f2 r5 params4 i3 (decide (f2.Params > 0))
      else
       MB r6 f2 r5 params4 i3 false
noncomputable def Mz (r6 : Int × JJ) (f2 : JN) (r5 : Int × JJ) (params4 : (List Int)) (i3 : Int) (x9 : Bool) : Option ((List JK) × JJ) :=
 bif x9 then
  (JU r6.2 (f2.Slots.length : Int)).bind fun r10 =>
  some (([(JK.mk 15 r5.1 r10.1 0 0)] : List JK),r10.2)
 else
  bif (decide (r6.1 < 9)) then
   MA r6 f2 r5 params4 i3 (decide ((f2.Slots.length : Int) > 0))
  else
   MA r6 f2 r5 params4 i3 false
noncomputable def My (r6 : Int × JJ) (f2 : JN) (r5 : Int × JJ) (params4 : (List Int)) (i3 : Int) (x7 : Bool) : Option ((List JK) × JJ) :=
 bif x7 then
  (JU r6.2 (f2.Slots.length : Int)).bind fun r8 =>
  some (([(JK.mk 16 r8.1 r5.1 0 0)] : List JK),r8.2)
 else
  bif (decide (r6.1 < 6)) then
   Mz r6 f2 r5 params4 i3 (decide ((f2.Slots.length : Int) > 0))
  else
   Mz r6 f2 r5 params4 i3 false
noncomputable def NS (c1 : JJ) (f2 : JN) (i3 : Int) (params4 : (List Int)) : Option ((List JK) × JJ) :=
 (JU c1 4).bind fun r5 =>
 (JU r5.2 20).bind fun r6 =>
 bif (decide (r6.1 < 3)) then
  My r6 f2 r5 params4 i3 (decide ((f2.Slots.length : Int) > 0))
 else
  My r6 f2 r5 params4 i3 false

noncomputable def Mn (k32 : Int) (code31 : List JK) (r33 : Int × JJ) (to34 : Int) (x35 : Bool) : Option (((List Int) × Int × (List JK) × Int) ⊕ (JN × JJ)) :=
 bif x35 then
  chk (0 ≤ k32 ∧ k32 < code31.length) <|
  ((code31)[k32.toNat]?).bind fun code_o38 =>
  cnt (r33.2.list,r33.2.at_,code31.set k32.toNat (JK.mk code_o38.Op to34 code_o38.B code_o38.C code_o38.Imm),IntKind.i64.wrap (k32 + 1))
 else
  chk (0 ≤ k32 ∧ k32 < code31.length) <|
  ((code31)[k32.toNat]?).bind fun code_e39 =>
  bif (code_e39.Op == 21) then
   chk (0 ≤ k32 ∧ k32 < code31.length) <|
   ((code31)[k32.toNat]?).bind fun code_e40 =>
   bif (decide (code_e40.B < 0)) then
    chk (0 ≤ k32 ∧ k32 < code31.length) <|
    ((code31)[k32.toNat]?).bind fun code_o41 =>
    cnt (r33.2.list,r33.2.at_,code31.set k32.toNat (JK.mk code_o41.Op code_o41.A to34 code_o41.C code_o41.Imm),IntKind.i64.wrap (k32 + 1))
   else
    cnt (r33.2.list,r33.2.at_,code31,IntKind.i64.wrap (k32 + 1))
  else
   cnt (r33.2.list,r33.2.at_,code31,IntKind.i64.wrap (k32 + 1))
noncomputable def KU (k32 : Int) (code31 : List JK) (r33 : Int × JJ) (to34 : Int) : Option (((List Int) × Int × (List JK) × Int) ⊕ (JN × JJ)) :=
 chk (0 ≤ k32 ∧ k32 < code31.length) <|
 ((code31)[k32.toNat]?).bind fun code_e36 =>
 bif (code_e36.Op == 20) then
  chk (0 ≤ k32 ∧ k32 < code31.length) <|
  ((code31)[k32.toNat]?).bind fun code_e37 =>
  Mn k32 code31 r33 to34 (decide (code_e37.A < 0))
 else
  Mn k32 code31 r33 to34 false
noncomputable def Mm (x_x5 : Int) (f17 : List Ko) (c29 : List Int) (c30 : Int) (code31 : List JK) (k32 : Int) : Option (((List Int) × Int × (List JK) × Int) ⊕ (JN × JJ)) :=
 bif (decide (k32 < (code31.length : Int))) then
  (JU (JJ.mk c29 c30) 8).bind fun r33 =>
  bif (decide ((IntKind.i64.wrap ((IntKind.i64.wrap (k32 + r33.1)) - 2)) < 0)) then
   KU k32 code31 r33 (IntKind.i64.wrap ((code31.length : Int) - 1))
  else
   bif (decide ((IntKind.i64.wrap ((IntKind.i64.wrap (k32 + r33.1)) - 2)) ≥ (code31.length : Int))) then
    KU k32 code31 r33 (IntKind.i64.wrap ((code31.length : Int) - 1))
   else
    KU k32 code31 r33 (IntKind.i64.wrap ((IntKind.i64.wrap (k32 + r33.1)) - 2))
 else
  lft (some ((JN.mk x_x5 f17 code31),(JJ.mk c29 c30)))
noncomputable def LF (code16 : List JK) (x_x5 : Int) (f17 : List Ko) (c23 : List Int) (c24 : Int) (end25 : Int) (end26 : Int) : Option (JN × JJ) :=
 chk (code16.length + ([(JK.mk end25 0 0 0 end26)] : List JK).length ≤ 16777216) <|
 Kv (fun s=>Mm x_x5 f17 s.1 s.2.1 s.2.2.1 s.2.2.2) (c23,c24,code16 ++ ([(JK.mk end25 0 0 0 end26)] : List JK),0)
noncomputable def NB (x_x5 : Int) (i2 : Int) (params3 : (List Int)) (c14 : List Int) (c15 : Int) (code16 : List JK) (f17 : List Ko) (n18 : Int) : Option (((List Int) × Int × (List JK) × (List Ko) × Int) ⊕ (JN × JJ)) :=
 bif (decide (n18 > 0)) then
  (NS (JJ.mk c14 c15) (JN.mk x_x5 f17 ([])) i2 params3).bind fun r19 =>
  chk (code16.length + r19.1.length ≤ 16777216) <|
  (JU r19.2 9).bind fun r20 =>
  bif (r20.1 == 7) then
   (JU r20.2 4).bind fun r21 =>
   chk ((code16 ++ r19.1).length + ([(JK.mk 21 r21.1 (-1) 0 0)] : List JK).length ≤ 16777216) <|
   cnt (r21.2.list,r21.2.at_,(code16 ++ r19.1) ++ ([(JK.mk 21 r21.1 (-1) 0 0)] : List JK),f17,IntKind.i64.wrap (n18 - 1))
  else
   bif (r20.1 == 8) then
    (JU r20.2 3).bind fun r22 =>
    bif (r22.1 == 2) then
     chk ((code16 ++ r19.1).length + ([(JK.mk 20 (-1) 0 0 0)] : List JK).length ≤ 16777216) <|
     cnt (r22.2.list,r22.2.at_,(code16 ++ r19.1) ++ ([(JK.mk 20 (-1) 0 0 0)] : List JK),f17,IntKind.i64.wrap (n18 - 1))
    else
     cnt (r22.2.list,r22.2.at_,code16 ++ r19.1,f17,IntKind.i64.wrap (n18 - 1))
   else
    cnt (r20.2.list,r20.2.at_,code16 ++ r19.1,f17,IntKind.i64.wrap (n18 - 1))
 else
  lft (
   (JU (JJ.mk c14 c15) 12).bind fun r27 =>
   bif (r27.1 == 11) then
    (MP r27.2).bind fun r28 =>
    LF code16 x_x5 f17 r28.2.list r28.2.at_ 24 r28.1
   else
    LF code16 x_x5 f17 r27.2.list r27.2.at_ 23 0)
noncomputable def NA (r6 : (List Ko) × JJ) (most4 : Int) (x_x5 : Int) (i2 : Int) (params3 : (List Int)) (c7 : List Int) (c8 : Int) (code9 : List JK) (s10 : Int) : Option (((List Int) × Int × (List JK) × Int) ⊕ (JN × JJ)) :=
 bif (decide (s10 < (r6.1.length : Int))) then
  (JU (JJ.mk c7 c8) 4).bind fun r11 =>
  bif (decide (r11.1 < 3)) then
   (JU r11.2 4).bind fun r12 =>
   chk (code9.length + ([(JK.mk 16 s10 r12.1 0 0)] : List JK).length ≤ 16777216) <|
   cnt (r12.2.list,r12.2.at_,code9 ++ ([(JK.mk 16 s10 r12.1 0 0)] : List JK),IntKind.i64.wrap (s10 + 1))
  else
   cnt (r11.2.list,r11.2.at_,code9,IntKind.i64.wrap (s10 + 1))
 else
  lft (
   (JU (JJ.mk c7 c8) (IntKind.i64.wrap (most4 + 1))).bind fun r13 =>
   Kv (fun s=>NB x_x5 i2 params3 s.1 s.2.1 s.2.2.1 s.2.2.2.1 s.2.2.2.2) (r13.2.list,r13.2.at_,code9,r6.1,r13.1))
noncomputable def Mj (c1 : JJ) (i2 : Int) (params3 : (List Int)) (most4 : Int) : Option (JN × JJ) :=
 (ixO params3 i2).bind fun x_x5 =>
 (Nr c1 6).bind fun r6 =>
 Kv (fun s=>NA r6 most4 x_x5 i2 params3 s.1 s.2.1 s.2.2.1 s.2.2.2) (r6.2.list,r6.2.at_,([] : List JK),0)

noncomputable def NQ (most3 : Int) (c10 : List Int) (c11 : Int) (p12 : List JN) (i13 : Int) (params14 : List Int) : Option (((List Int) × Int × (List JN) × Int × (List Int)) ⊕ (NZ × JJ)) :=
 bif (decide (i13 < (params14.length : Int))) then
  chk (([] : List JN).length + p12.length ≤ 16777216) <|
  (Mj (JJ.mk c10 c11) i13 params14 most3).bind fun r15 =>
  chk ((([] : List JN) ++ p12).length + ([r15.1] : List JN).length ≤ 16777216) <|
  cnt (r15.2.list,r15.2.at_,(([] : List JN) ++ p12) ++ ([r15.1] : List JN),IntKind.i64.wrap (i13 + 1),params14)
 else
  lft (some ((NZ.mk p12),(JJ.mk c10 c11)))
noncomputable def NP (most3 : Int) (c5 : List Int) (c6 : Int) (params7 : List Int) (n8 : Int) : Option (((List Int) × Int × (List Int) × Int) ⊕ (NZ × JJ)) :=
 bif (decide (n8 > 0)) then
  (JU (JJ.mk c5 c6) 4).bind fun r9 =>
  chk (params7.length + ([r9.1] : List Int).length ≤ 16777216) <|
  cnt (r9.2.list,r9.2.at_,params7 ++ ([r9.1] : List Int),IntKind.i64.wrap (n8 - 1))
 else
  lft (Kv (fun s=>NQ most3 s.1 s.2.1 s.2.2.1 s.2.2.2.1 s.2.2.2.2) (c5,c6,[],0,params7))
noncomputable def Mx (c1 : JJ) (funcs2 : Int) (most3 : Int) : Option (NZ × JJ) :=
 (JU c1 funcs2).bind fun r4 =>
 Kv (fun s=>NP most3 s.1 s.2.1 s.2.2.1 s.2.2.2) (r4.2.list,r4.2.at_,([0] : List Int),r4.1)

noncomputable def LZ (x_x3 : JK) (k2 : Int) (x4 : Bool) : Option ((List Int)) :=
 bif x4 then
  some ([] : List Int)
 else
  bif (x_x3.Op == 21) then
   bif (decide (x_x3.B < (IntKind.i64.wrap (k2 + 1)))) then
    some ([x_x3.B,IntKind.i64.wrap (k2 + 1)] : List Int)
   else
    bif (decide (x_x3.B > (IntKind.i64.wrap (k2 + 1)))) then
     some ([IntKind.i64.wrap (k2 + 1),x_x3.B] : List Int)
    else
     some ([IntKind.i64.wrap (k2 + 1)] : List Int)
  else
   some ([IntKind.i64.wrap (k2 + 1)] : List Int)
noncomputable def Tg (f1 : JN) (k2 : Int) : Option ((List Int)) :=
 (ixO f1.Code k2).bind fun x_x3 =>
 bif (x_x3.Op == 20) then
  some ([x_x3.A] : List Int)
 else
  bif (x_x3.Op == 23) then
   LZ x_x3 k2 (x_x3.Op == 23)
  else
   LZ x_x3 k2 (x_x3.Op == 24)
noncomputable def Qs (f1 : JN) (k2 : Int) : Option ((List Int)) :=
 bif (decide (k2 < 0)) then
  some ([] : List Int)
 else
  bif (decide (k2 ≥ (f1.Code.length : Int))) then
   some ([] : List Int)
  else
   Tg f1 k2

noncomputable def Pr (x1 : JK) : Option (Bool) :=
 bif (x1.Op == 16) then
  some true
 else
  some (x1.Op == 17)

noncomputable def QA (x1 : JK) : Option (Int × Bool) :=
 (Pr x1).bind fun r2 =>
 bif r2 then
  some (x1.A,true)
 else
  some (0,false)

noncomputable def MW (s1 : (List Int)) (n2 : Int) (out3 : List Int) (i4 : Int) : Option (((List Int) × Int) ⊕ ((List Int))) :=
 bif (decide (i4 < (s1.length : Int))) then
  (ixO s1 i4).bind fun x_x5 =>
  bif (x_x5 != n2) then
   (ixO s1 i4).bind fun x_x6 =>
   chk (out3.length + ([x_x6] : List Int).length ≤ 16777216) <|
   cnt (out3 ++ ([x_x6] : List Int),IntKind.i64.wrap (i4 + 1))
  else
   cnt (out3,IntKind.i64.wrap (i4 + 1))
 else
  lft (some out3)
noncomputable def NM (s1 : (List Int)) (n2 : Int) : Option ((List Int)) :=
 Kv (fun s=>MW s1 n2 s.1 s.2) (([] : List Int),0)

noncomputable def Qt (x1 : JK) : Option ((List Int)) :=
 bif (x1.Op == 15) then
  some ([x1.B] : List Int)
 else
  bif (x1.Op == 17) then
   some ([x1.B] : List Int)
  else
   some ([] : List Int)

noncomputable def Om (n1 : Int) : Option (Bool) :=
 bif (decide (n1 ≥ 0)) then
  some (decide (n1 < 512))
 else
  some false

noncomputable def MV (s1 : (List Int)) (i6 : Int) (out7 : List Int) (done8 : Bool) : Option (((List Int) × Bool × Int) ⊕ ((List Int))) :=
 (ixO s1 i6).bind fun x_x12 =>
 chk (out7.length + ([x_x12] : List Int).length ≤ 16777216) <|
 cnt (out7 ++ ([x_x12] : List Int),done8,IntKind.i64.wrap (i6 + 1))
noncomputable def NL (s1 : (List Int)) (i6 : Int) (n2 : Int) (out4 : List Int) (done5 : Bool) (x9 : Bool) : Option (((List Int) × Bool × Int) ⊕ ((List Int))) :=
 bif x9 then
  (ixO s1 i6).bind fun x_x11 =>
  bif (decide (x_x11 > n2)) then
   chk (out4.length + ([n2] : List Int).length ≤ 16777216) <|
   MV s1 i6 (out4 ++ ([n2] : List Int)) true
  else
   MV s1 i6 out4 true
 else
  MV s1 i6 out4 done5
noncomputable def LY (s1 : (List Int)) (n2 : Int) (out4 : List Int) (done5 : Bool) (i6 : Int) : Option (((List Int) × Bool × Int) ⊕ ((List Int))) :=
 bif (decide (i6 < (s1.length : Int))) then
  bif (!done5) then
   (ixO s1 i6).bind fun x_x10 =>
   NL s1 i6 n2 out4 done5 (decide (x_x10 ≥ n2))
  else
   NL s1 i6 n2 out4 done5 false
 else
  lft (
   bif (!done5) then
    chk (out4.length + ([n2] : List Int).length ≤ 16777216) <|
    some (out4 ++ ([n2] : List Int))
   else
    some out4)
noncomputable def Pq (s1 : (List Int)) (n2 : Int) : Option ((List Int)) :=
 (Om n2).bind fun r3 =>
 Kv (fun s=>LY s1 n2 s.1 s.2.1 s.2.2) (([] : List Int),(!r3),0)

noncomputable def Ou (b2 : (List Int)) (out3 : List Int) (i4 : Int) : Option (((List Int) × Int) ⊕ ((List Int))) :=
 bif (decide (i4 < (b2.length : Int))) then
  (ixO b2 i4).bind fun x_x5 =>
  (Pq out3 x_x5).bind fun r6 =>
  cnt (r6,IntKind.i64.wrap (i4 + 1))
 else
  lft (some out3)
noncomputable def NC (a1 : (List Int)) (b2 : (List Int)) : Option ((List Int)) :=
 chk (([] : List Int).length + a1.length ≤ 16777216) <|
 Kv (fun s=>Ou b2 s.1 s.2) (([] : List Int) ++ a1,0)

noncomputable def Tw (x1 : JK) (out2 : (List Int)) : Option ((List Int)) :=
 (QA x1).bind fun r3 =>
 bif r3.2 then
  (NM out2 r3.1).bind fun r4 =>
  (Qt x1).bind fun r5 =>
  (NC r4 r5).bind fun r6 =>
  some r6
 else
  (Qt x1).bind fun r7 =>
  (NC out2 r7).bind fun r8 =>
  some r8

noncomputable def Th (k4 : Int) (x5 : List (List Int)) : Option (((List (List Int)) × Int) ⊕ (JP)) :=
 cnt (x5,IntKind.i64.wrap (k4 + 1))
noncomputable def OW (r6 : (List Int)) (k4 : Int) (f1 : JN) (l2 : JP) (x7 : List (List Int)) (i8 : Int) : Option (((List (List Int)) × Int) ⊕ (((List (List Int)) × Int) ⊕ (JP))) :=
 bif (decide (i8 < (r6.length : Int))) then
  chk (0 ≤ i8 ∧ i8 < r6.length) <|
  ((r6)[i8.toNat]?).bind fun next_e9 =>
  chk (0 ≤ k4 ∧ k4 < x7.length) <|
  ((x7)[k4.toNat]?).bind fun x_e10 =>
  (ixO f1.Code next_e9).bind fun x_x11 =>
  (ixO l2.Out next_e9).bind fun x_x12 =>
  (Tw x_x11 x_x12).bind fun r13 =>
  (NC x_e10 r13).bind fun r14 =>
  chk (0 ≤ k4 ∧ k4 < x7.length) <|
  ((x7)[k4.toNat]?).bind fun _ =>
  cnt (x7.set k4.toNat r14,IntKind.i64.wrap (i8 + 1))
 else
  lft (Th k4 x7)
noncomputable def OV (f1 : JN) (l2 : JP) (x3 : List (List Int)) (k4 : Int) : Option (((List (List Int)) × Int) ⊕ (JP)) :=
 bif (decide (k4 < (f1.Code.length : Int))) then
  (Qs f1 k4).bind fun r6 =>
  Kv (fun s=>OW r6 k4 f1 l2 s.1 s.2) (x3,0)
 else
  lft (some (JP.mk x3))
noncomputable def Sc (f1 : JN) (l2 : JP) : Option (JP) :=
 chk (0 ≤ (f1.Code.length : Int) ∧ (f1.Code.length : Int) ≤ 16777216) <|
 Kv (fun s=>OV f1 l2 s.1 s.2) (List.replicate (f1.Code.length : Int).toNat ([] : (List Int)),0)

noncomputable def Oa (a1 : (List Int)) (b2 : (List Int)) (i3 : Int) : Option ((Int) ⊕ (Bool)) :=
 bif (decide (i3 < (a1.length : Int))) then
  (ixO a1 i3).bind fun x_x4 =>
  (ixO b2 i3).bind fun x_x5 =>
  bif (x_x4 != x_x5) then
   lft (some false)
  else
   cnt (IntKind.i64.wrap (i3 + 1))
 else
  lft (some true)
noncomputable def RZ (a1 : (List Int)) (b2 : (List Int)) : Option (Bool) :=
 bif ((a1.length : Int) != (b2.length : Int)) then
  some false
 else
  Kv (fun s=>Oa a1 b2 s) 0

noncomputable def Mv (a1 : (List (List Int))) (b2 : (List (List Int))) (i3 : Int) : Option ((Int) ⊕ (Bool)) :=
 bif (decide (i3 < (a1.length : Int))) then
  (ixO a1 i3).bind fun x_x4 =>
  (ixO b2 i3).bind fun x_x5 =>
  (RZ x_x4 x_x5).bind fun r6 =>
  bif (!r6) then
   lft (some false)
  else
   cnt (IntKind.i64.wrap (i3 + 1))
 else
  lft (some true)
noncomputable def OU (a1 : (List (List Int))) (b2 : (List (List Int))) : Option (Bool) :=
 bif ((a1.length : Int) != (b2.length : Int)) then
  some false
 else
  Kv (fun s=>Mv a1 b2 s) 0

noncomputable def Sa (a1 : JP) (b2 : JP) : Option (Bool) :=
 (OU a1.Out b2.Out).bind fun r3 =>
 some r3

noncomputable def Sb (f1 : JN) (l2 : List (List Int)) : Option (((List (List Int))) ⊕ (JP)) :=
 (Sc f1 (JP.mk l2)).bind fun r3 =>
 (Sa r3 (JP.mk l2)).bind fun r4 =>
 bif r4 then
  lft (some (JP.mk l2))
 else
  cnt r3.Out
noncomputable def QK (f1 : JN) : Option (JP) :=
 chk (0 ≤ (f1.Code.length : Int) ∧ (f1.Code.length : Int) ≤ 16777216) <|
 Kv (fun s=>Sb f1 s) (List.replicate (f1.Code.length : Int).toNat ([] : (List Int)))

noncomputable def Nq (c1 : JJ) : Option (Int × JJ) :=
 (JU c1 12).bind fun r2 =>
 bif (r2.1 == 11) then
  (JU r2.2 (([9223372036854775807,(-9223372036854775808),2147483648,2147483647,(-1),16777216,33554432,1048577,512,80] : List Int).length : Int)).bind fun r3 =>
  chk (0 ≤ r3.1 ∧ r3.1 < ([9223372036854775807,(-9223372036854775808),2147483648,2147483647,(-1),16777216,33554432,1048577,512,80] : List Int).length) <|
  ((([9223372036854775807,(-9223372036854775808),2147483648,2147483647,(-1),16777216,33554432,1048577,512,80] : List Int))[r3.1.toNat]?).bind fun l_e4 =>
  some (l_e4,r3.2)
 else
  (JU r2.2 256).bind fun r5 =>
  (JU r5.2 7).bind fun r6 =>
  chk (0 ≤ r6.1) <|
  some (IntKind.i64.wrap ((r5.1.fdiv (2 ^ (Nat.min r6.1.toNat IntKind.i64.bits))) - (IntKind.i64.wrap (r2.1.tdiv 9))),r6.2)

noncomputable def LX (n12 : Int) (c13 : List Int) (c14 : Int) (x15 : List (List Int)) : Option (((List Int) × Int × (List (List Int)) × Int) ⊕ (JP × JJ)) :=
 cnt (c13,c14,x15,IntKind.i64.wrap (n12 - 1))
noncomputable def Pf (r16 : Int × JJ) (n12 : Int) (r17 : Int × JJ) (x18 : List (List Int)) (k19 : Int) : Option (((List (List Int)) × Int) ⊕ (((List Int) × Int × (List (List Int)) × Int) ⊕ (JP × JJ))) :=
 bif (decide (k19 < (x18.length : Int))) then
  chk (0 ≤ k19 ∧ k19 < x18.length) <|
  ((x18)[k19.toNat]?).bind fun x_e20 =>
  (Pq x_e20 r16.1).bind fun r21 =>
  chk (0 ≤ k19 ∧ k19 < x18.length) <|
  ((x18)[k19.toNat]?).bind fun _ =>
  cnt (x18.set k19.toNat r21,IntKind.i64.wrap (k19 + 1))
 else
  lft (LX n12 r17.2.list r17.2.at_ x18)
noncomputable def Pg (c9 : List Int) (c10 : Int) (f2 : JN) (n12 : Int) (x11 : List (List Int)) : Option (((List Int) × Int × (List (List Int)) × Int) ⊕ (JP × JJ)) :=
 (JU (JJ.mk c9 c10) (f2.Slots.length : Int)).bind fun r16 =>
 (JU r16.2 2).bind fun r17 =>
 bif (r17.1 == 0) then
  Kv (fun s=>Pf r16 n12 r17 s.1 s.2) (x11,0)
 else
  (JU r17.2 (x11.length : Int)).bind fun r23 =>
  (JU r23.2 2).bind fun r24 =>
  bif (r24.1 == 0) then
   chk (0 ≤ r23.1 ∧ r23.1 < x11.length) <|
   ((x11)[r23.1.toNat]?).bind fun x_e25 =>
   (Pq x_e25 r16.1).bind fun r26 =>
   chk (0 ≤ r23.1 ∧ r23.1 < x11.length) <|
   ((x11)[r23.1.toNat]?).bind fun _ =>
   LX n12 r24.2.list r24.2.at_ (x11.set r23.1.toNat r26)
  else
   chk (0 ≤ r23.1 ∧ r23.1 < x11.length) <|
   ((x11)[r23.1.toNat]?).bind fun x_e28 =>
   (NM x_e28 r16.1).bind fun r29 =>
   chk (0 ≤ r23.1 ∧ r23.1 < x11.length) <|
   ((x11)[r23.1.toNat]?).bind fun _ =>
   LX n12 r24.2.list r24.2.at_ (x11.set r23.1.toNat r29)
noncomputable def Mw (c5 : List Int) (c6 : Int) (x7 : List (List Int)) : Option (JP × JJ) :=
 (JU (JJ.mk c5 c6) 12).bind fun r31 =>
 bif (r31.1 == 10) then
  chk (0 ≤ (1 : Int) ∧ (1 : Int) ≤ x7.length) <|
  some ((JP.mk (x7.drop ((1 : Int).toNat))),r31.2)
 else
  bif (r31.1 == 11) then
   (Nq r31.2).bind fun r32 =>
   (Nq r32.2).bind fun r33 =>
   chk (0 ≤ (0 : Int) ∧ (0 : Int) < x7.length) <|
   ((x7)[(0 : Int).toNat]?).bind fun _ =>
   some ((JP.mk (x7.set ((0 : Int).toNat) ([r32.1,r33.1] : List Int))),r33.2)
  else
   some ((JP.mk x7),r31.2)
noncomputable def Pe (f2 : JN) (c9 : List Int) (c10 : Int) (x11 : List (List Int)) (n12 : Int) : Option (((List Int) × Int × (List (List Int)) × Int) ⊕ (JP × JJ)) :=
 bif (decide (n12 > 0)) then
  bif (decide ((f2.Slots.length : Int) > 0)) then
   Pg c9 c10 f2 n12 x11
  else
   lft (Mw c9 c10 x11)
 else
  lft (Mw c9 c10 x11)
noncomputable def NO (c1 : JJ) (f2 : JN) : Option (JP × JJ) :=
 (QK f2).bind fun r3 =>
 (JU c1 3).bind fun r4 =>
 bif (r4.1 == 0) then
  some (r3,r4.2)
 else
  chk (([] : List (List Int)).length + r3.Out.length ≤ 16777216) <|
  (JU r4.2 4).bind fun r8 =>
  Kv (fun s=>Pe f2 s.1 s.2.1 s.2.2.1 s.2.2.2) (r8.2.list,r8.2.at_,([] : List (List Int)) ++ r3.Out,r8.1)

noncomputable def QH (codes1 : (List Int)) : Option (JN × JP × JJ) :=
 (UN codes1 250).bind fun r2 =>
 (Mx r2 3 12).bind fun r3 =>
 (JU r3.2 (r3.1.Funcs.length : Int)).bind fun r4 =>
 (ixO r3.1.Funcs r4.1).bind fun x_x5 =>
 (NO r4.2 x_x5).bind fun r6 =>
 some (x_x5,r6.1,r6.2)

noncomputable def MF (s1 : (List Int)) (i2 : Int) : Option ((Int) ⊕ (Bool)) :=
 bif (decide (i2 < (s1.length : Int))) then
  (ixO s1 i2).bind fun x_x3 =>
  (Om x_x3).bind fun r4 =>
  bif (!r4) then
   lft (some false)
  else
   bif (decide (i2 > 0)) then
    (ixO s1 i2).bind fun x_x5 =>
    (ixO s1 (IntKind.i64.wrap (i2 - 1))).bind fun x_x6 =>
    bif (decide (x_x5 ≤ x_x6)) then
     lft (some false)
    else
     cnt (IntKind.i64.wrap (i2 + 1))
   else
    cnt (IntKind.i64.wrap (i2 + 1))
 else
  lft (some true)
noncomputable def QI (s1 : (List Int)) : Option (Bool) :=
 Kv (fun s=>MF s1 s) 0

noncomputable def Si (l2 : JP) (f1 : JN) (k3 : Int) : Option ((Int) ⊕ (Bool)) :=
 bif (decide (k3 < (l2.Out.length : Int))) then
  (ixO l2.Out k3).bind fun x_x4 =>
  (QI x_x4).bind fun r5 =>
  bif (!r5) then
   lft (some false)
  else
   (ixO l2.Out k3).bind fun x_x6 =>
   bif (decide ((x_x6.length : Int) > 0)) then
    (ixO l2.Out k3).bind fun x_x7 =>
    (ixO x_x7 (IntKind.i64.wrap ((x_x6.length : Int) - 1))).bind fun x_x8 =>
    bif (decide (x_x8 ≥ (f1.Slots.length : Int))) then
     lft (some false)
    else
     cnt (IntKind.i64.wrap (k3 + 1))
   else
    cnt (IntKind.i64.wrap (k3 + 1))
 else
  lft (some true)
noncomputable def PD (f1 : JN) (l2 : JP) : Option (Bool) :=
 bif ((l2.Out.length : Int) != (f1.Code.length : Int)) then
  some false
 else
  Kv (fun s=>Si l2 f1 s) 0

noncomputable def PX (s1 : (List Int)) (n2 : Int) (i3 : Int) : Option ((Int) ⊕ (Bool)) :=
 bif (decide (i3 < (s1.length : Int))) then
  (ixO s1 i3).bind fun x_x4 =>
  bif (x_x4 == n2) then
   lft (some true)
  else
   cnt (IntKind.i64.wrap (i3 + 1))
 else
  lft (some false)
noncomputable def TM (s1 : (List Int)) (n2 : Int) : Option (Bool) :=
 Kv (fun s=>PX s1 n2 s) 0

noncomputable def Ns (a1 : (List Int)) (b2 : (List Int)) (out3 : List Int) (i4 : Int) : Option (((List Int) × Int) ⊕ ((List Int))) :=
 bif (decide (i4 < (a1.length : Int))) then
  (ixO a1 i4).bind fun x_x5 =>
  (TM b2 x_x5).bind fun r6 =>
  bif (!r6) then
   (ixO a1 i4).bind fun x_x7 =>
   chk (out3.length + ([x_x7] : List Int).length ≤ 16777216) <|
   cnt (out3 ++ ([x_x7] : List Int),IntKind.i64.wrap (i4 + 1))
  else
   cnt (out3,IntKind.i64.wrap (i4 + 1))
 else
  lft (some out3)
noncomputable def QJ (a1 : (List Int)) (b2 : (List Int)) : Option ((List Int)) :=
 Kv (fun s=>Ns a1 b2 s.1 s.2) (([] : List Int),0)

noncomputable def Nu (r4 : (List Int)) (f1 : JN) (l2 : JP) (k3 : Int) (out5 : List Int) (i6 : Int) : Option (((List Int) × Int) ⊕ ((List Int))) :=
 bif (decide (i6 < (r4.length : Int))) then
  chk (0 ≤ i6 ∧ i6 < r4.length) <|
  ((r4)[i6.toNat]?).bind fun next_e7 =>
  (ixO f1.Code next_e7).bind fun x_x8 =>
  (ixO l2.Out next_e7).bind fun x_x9 =>
  (Tw x_x8 x_x9).bind fun r10 =>
  (ixO l2.Out k3).bind fun x_x11 =>
  (QJ r10 x_x11).bind fun r12 =>
  (NC out5 r12).bind fun r13 =>
  cnt (r13,IntKind.i64.wrap (i6 + 1))
 else
  lft (some out5)
noncomputable def OX (f1 : JN) (l2 : JP) (k3 : Int) : Option ((List Int)) :=
 (Qs f1 k3).bind fun r4 =>
 Kv (fun s=>Nu r4 f1 l2 k3 s.1 s.2) (([] : List Int),0)

noncomputable def Se (f1 : JN) (l2 : JP) (k4 : Int) : Option ((Int) ⊕ (Int × Int × Bool)) :=
 bif (decide (k4 < (f1.Code.length : Int))) then
  (OX f1 l2 k4).bind fun r5 =>
  bif (decide ((r5.length : Int) > 0)) then
   chk (0 ≤ (0 : Int) ∧ (0 : Int) < r5.length) <|
   ((r5)[(0 : Int).toNat]?).bind fun m_e6 =>
   lft (some (k4,m_e6,true))
  else
   cnt (IntKind.i64.wrap (k4 + 1))
 else
  lft (some (0,0,false))
noncomputable def PC (f1 : JN) (l2 : JP) : Option (Int × Int × Bool) :=
 (PD f1 l2).bind fun r3 =>
 bif (!r3) then
  some (0,0,false)
 else
  Kv (fun s=>Se f1 l2 s) 0

noncomputable def On (f1 : JN) (l2 : JP) : Option (Int) :=
 (PC f1 l2).bind fun r3 =>
 bif r3.2.2 then
  some 11
 else
  (PD f1 l2).bind fun r4 =>
  bif (!r4) then
   some 11
  else
   some 0

noncomputable def KN (j1 : Int) (cap2 : Int) (cap3 : (List Int)) (cap4 : JP) : Option ((List Int)) :=
 bif (j1 == cap2) then
  some cap3
 else
  (ixO cap4.Out j1).bind fun x_x5 =>
  some x_x5

noncomputable def LP (s1 : JL) (n2 : Int) : Option (Bool) :=
 (Lc n2).bind fun r3 =>
 bif r3 then
  chk (0 ≤ (IntKind.i64.wrap (n2.tdiv 64)) ∧ (IntKind.i64.wrap (n2.tdiv 64)) < 8) <|
  ((s1.toList)[(IntKind.i64.wrap (n2.tdiv 64)).toNat]?).bind fun e4 =>
  chk (0 ≤ ((IntKind.u64.wrap (n2)).tmod 64)) <|
  some ((IntKind.u64.wrap ((BitVec.ofInt IntKind.u64.bits (e4.fdiv (2 ^ (Nat.min ((IntKind.u64.wrap (n2)).tmod 64).toNat IntKind.u64.bits))) &&& BitVec.ofInt IntKind.u64.bits 1).toNat)) == 1)
 else
  some false

noncomputable def ND (n1 : Int) (cap2 : JL) : Option (Bool) :=
 (LP cap2 n1).bind fun r3 =>
 some (!r3)

noncomputable def KY (s1 : (List Int)) (f2 : JL) (x3 : Int) : Option ((Int) ⊕ (Int)) :=
 bif (decide (x3 < (s1.length : Int))) then
  (ixO s1 x3).bind fun x_x4 =>
  (ND x_x4 f2).bind fun r5 =>
  bif r5 then
   lft (some x3)
  else
   cnt (IntKind.i64.wrap (x3 + 1))
 else
  lft (some (-1))
noncomputable def Kx (s1 : (List Int)) (f2 : JL) : Option (Int) :=
 Kv (fun s=>KY s1 f2 s) 0

noncomputable def KG (s1 : (List Int)) (f2 : JL) : Option (Bool) :=
 (Kx s1 f2).bind fun r3 =>
 some (decide (r3 ≥ 0))

noncomputable def OT (a1 : (List Int)) (b2 : (List Int)) : Option (Bool) :=
 (Lt b2).bind fun r3 =>
 (KG a1 r3).bind fun r4 =>
 some (!r4)

noncomputable def Lv (need1 : (List Int)) (cap2 : Int) (cap3 : (List Int)) (cap4 : JP) (cap5 : Int) : Option (Bool) :=
 (KN cap5 cap2 cap3 cap4).bind fun r6 =>
 (OT need1 r6).bind fun r7 =>
 some r7

noncomputable def KJ (r10 : (List Int)) (f1 : JN) (set3 : Int) (set4 : (List Int)) (set5 : JP) (visit6 : Int) (visit7 : (List Int)) (visit8 : JP) (visit9 : Int) (x11 : Int) : Option ((Int) ⊕ (Bool)) :=
 bif (decide (x11 < (r10.length : Int))) then
  chk (0 ≤ x11 ∧ x11 < r10.length) <|
  ((r10)[x11.toNat]?).bind fun x_e12 =>
  (ixO f1.Code x_e12).bind fun x_x13 =>
  (KN x_e12 set3 set4 set5).bind fun r14 =>
  (RG x_x13 r14).bind fun r15 =>
  (Lv r15 visit6 visit7 visit8 visit9).bind fun r16 =>
  bif (!r16) then
   lft (some false)
  else
   cnt (IntKind.i64.wrap (x11 + 1))
 else
  lft (some true)
noncomputable def Kz (f1 : JN) (k2 : Int) (set3 : Int) (set4 : (List Int)) (set5 : JP) (visit6 : Int) (visit7 : (List Int)) (visit8 : JP) (visit9 : Int) : Option (Bool) :=
 (RH f1 k2).bind fun r10 =>
 Kv (fun s=>KJ r10 f1 set3 set4 set5 visit6 visit7 visit8 visit9 s) 0

noncomputable def Lz (f1 : JN) (k2 : Int) (set3 : Int) (set4 : (List Int)) (set5 : JP) : Option (Bool) :=
 (Kz f1 k2 set3 set4 set5 set3 set4 set5 k2).bind fun r6 =>
 some r6

noncomputable def Pn (x_x6 : (List Int)) (f1 : JN) (x4 : Int) (l2 : JP) (x7 : Int) (n8 : Int) : Option ((Int × Int) ⊕ ((Int × Int) ⊕ (Int))) :=
 bif (decide (x7 < (x_x6.length : Int))) then
  (ixO x_x6 x7).bind fun x_x9 =>
  (Nb x_x6 x_x9).bind fun r10 =>
  (Lz f1 x4 x4 r10 l2).bind fun r11 =>
  bif r11 then
   cnt (IntKind.i64.wrap (x7 + 1),IntKind.i64.wrap (n8 + 1))
  else
   cnt (IntKind.i64.wrap (x7 + 1),n8)
 else
  lft (cnt (IntKind.i64.wrap (x4 + 1),n8))
noncomputable def Pm (l2 : JP) (f1 : JN) (x4 : Int) (n5 : Int) : Option ((Int × Int) ⊕ (Int)) :=
 bif (decide (x4 < (l2.Out.length : Int))) then
  (ixO l2.Out x4).bind fun x_x6 =>
  Kv (fun s=>Pn x_x6 f1 x4 l2 s.1 s.2) (0,n5)
 else
  lft (some n5)
noncomputable def NU (f1 : JN) (l2 : JP) : Option (Int) :=
 (LI f1 l2).bind fun r3 =>
 bif (r3 != 0) then
  some 0
 else
  Kv (fun s=>Pm l2 f1 s.1 s.2) (0,0)

noncomputable def Sh (k5 : Int) (n6 : Int) : Option ((Int × Int) ⊕ (Int)) :=
 cnt (n6,IntKind.i64.wrap (k5 + 1))
noncomputable def Sg (l2 : JP) (k5 : Int) (f1 : JN) (n7 : Int) (i8 : Int) : Option ((Int × Int) ⊕ ((Int × Int) ⊕ (Int))) :=
 (ixO l2.Out k5).bind fun x_x9 =>
 bif (decide (i8 < (x_x9.length : Int))) then
  chk (([] : List (List Int)).length + l2.Out.length ≤ 16777216) <|
  (ixO l2.Out k5).bind fun x_x10 =>
  (ixO l2.Out k5).bind fun x_x11 =>
  (ixO x_x11 i8).bind fun x_x12 =>
  (NM x_x10 x_x12).bind fun r13 =>
  chk (0 ≤ k5 ∧ k5 < (([] : List (List Int)) ++ l2.Out).length) <|
  ((([] : List (List Int)) ++ l2.Out)[k5.toNat]?).bind fun _ =>
  (On f1 (JP.mk ((([] : List (List Int)) ++ l2.Out).set k5.toNat r13))).bind fun r15 =>
  bif (r15 == 0) then
   cnt (IntKind.i64.wrap (n7 + 1),IntKind.i64.wrap (i8 + 1))
  else
   cnt (n7,IntKind.i64.wrap (i8 + 1))
 else
  lft (Sh k5 n7)
noncomputable def Sf (l2 : JP) (f1 : JN) (n4 : Int) (k5 : Int) : Option ((Int × Int) ⊕ (Int)) :=
 bif (decide (k5 < (l2.Out.length : Int))) then
  Kv (fun s=>Sg l2 k5 f1 s.1 s.2) (n4,0)
 else
  lft (some n4)
noncomputable def QL (f1 : JN) (l2 : JP) : Option (Int) :=
 (On f1 l2).bind fun r3 =>
 bif (r3 != 0) then
  some 0
 else
  Kv (fun s=>Sf l2 f1 s.1 s.2) (0,0)

noncomputable def Ni (r4 : JN × JP × JJ) (raw2 : JP) (x5 : Int) : Option ((Int) ⊕ (Bool)) :=
 bif (decide (x5 < (([r4.2.1,raw2,(JP.mk ([]))] : List JP).length : Int))) then
  chk (0 ≤ x5 ∧ x5 < ([r4.2.1,raw2,(JP.mk ([]))] : List JP).length) <|
  ((([r4.2.1,raw2,(JP.mk ([]))] : List JP))[x5.toNat]?).bind fun x_e6 =>
  (MQ r4.1 x_e6).bind fun r7 =>
  (PC r4.1 x_e6).bind fun r8 =>
  (LI r4.1 x_e6).bind fun r9 =>
  (On r4.1 x_e6).bind fun r10 =>
  bif (r9 != r10) then
   lft (some false)
  else
   bif (r7.1 != r8.1) then
    lft (some false)
   else
    bif (r7.2.1 != r8.2.1) then
     lft (some false)
    else
     bif (!(r7.2.2 == r8.2.2)) then
      lft (some false)
     else
      (NU r4.1 x_e6).bind fun r11 =>
      (QL r4.1 x_e6).bind fun r12 =>
      bif (r11 != r12) then
       lft (some false)
      else
       cnt (IntKind.i64.wrap (x5 + 1))
 else
  lft (some true)
noncomputable def Nj (codes1 : (List Int)) (raw2 : JP) : Option (Bool) :=
 (QH codes1).bind fun r4 =>
 Kv (fun s=>Ni r4 raw2 s) 0
noncomputable def Mc (codes1 : (List Int)) (raw2 : JP) : Option (Bool) :=
 (QG).bind fun r3 =>
 bif (!r3) then
  some (decide ((raw2.Out.length : Int) > 100))
 else
  bif (decide ((raw2.Out.length : Int) > 100)) then
   some (decide ((raw2.Out.length : Int) > 100))
  else
   Nj codes1 raw2

end Go.Proofs.YtcelninhkmhjkaaDoor
