/-
 The programs on typed data; written by a program (dx.py).
-/
import Derived.Test.YtfpgidpffhmadaaGreatDoorDxT
namespace Go.Proofs.YtfpgidpffhmadaaGreatDoor
open Go Go.Dw Go.Proofs
set_option maxRecDepth 100000
noncomputable def Nw (n1 : Int) : Option (Bool) :=
 bif (decide (n1 ≥ 0)) then
  some (decide (n1 < 512))
 else
  some false

noncomputable def Oh (s1 : (List Int)) (x2 : Int) : Option ((Int) ⊕ (Bool)) :=
 bif (decide (x2 < (s1.length : Int))) then
  (ixO s1 x2).bind fun x_x3 =>
  (Nw x_x3).bind fun r4 =>
  bif (!r4) then
   lft (some false)
  else
   bif (decide (x2 > 0)) then
    (ixO s1 (IntKind.i64.wrap (x2 - 1))).bind fun x_x5 =>
    bif (decide (x_x3 ≤ x_x5)) then
     lft (some false)
    else
     cnt (IntKind.i64.wrap (x2 + 1))
   else
    cnt (IntKind.i64.wrap (x2 + 1))
 else
  lft (some true)
noncomputable def RN (s1 : (List Int)) : Option (Bool) :=
 MD (fun s=>Oh s1 s) 0

noncomputable def NT (s1 : (List Int)) (cap2 : LY) : Option (Bool) :=
 (RN s1).bind fun r3 =>
 bif (!r3) then
  some true
 else
  bif (decide ((s1.length : Int) > 0)) then
   (ixO s1 (IntKind.i64.wrap ((s1.length : Int) - 1))).bind fun x_x4 =>
   some (decide (x_x4 ≥ (cap2.Slots.length : Int)))
  else
   some false

noncomputable def Ns (s1 : (List (List Int))) (f2 : LY) (x3 : Int) : Option ((Int) ⊕ (Int)) :=
 bif (decide (x3 < (s1.length : Int))) then
  (ixO s1 x3).bind fun x_x4 =>
  (NT x_x4 f2).bind fun r5 =>
  bif r5 then
   lft (some x3)
  else
   cnt (IntKind.i64.wrap (x3 + 1))
 else
  lft (some (-1))
noncomputable def MS (s1 : (List (List Int))) (f2 : LY) : Option (Int) :=
 MD (fun s=>Ns s1 f2 s) 0

noncomputable def MU (s1 : (List (List Int))) (f2 : LY) : Option (Bool) :=
 (MS s1 f2).bind fun r3 =>
 some (decide (r3 ≥ 0))

noncomputable def Ox (f1 : LY) (l2 : Mf) : Option (Bool) :=
 bif ((l2.Out.length : Int) == (f1.Code.length : Int)) then
  (MU l2.Out f1).bind fun r3 =>
  some (!r3)
 else
  some false

noncomputable def RV (l1 : Mf) : Option (Mf) :=
 some l1

noncomputable def Sd (op1 : Int) : Option (Bool) :=
 bif (op1 == 20) then
  some true
 else
  bif (op1 == 23) then
   some true
  else
   some (op1 == 24)

noncomputable def TT (x_x3 : LU) (l4 : List Int) : Option ((List Int)) :=
 bif (x_x3.Op == 20) then
  chk (l4.length + ([x_x3.A] : List Int).length ≤ 16777216) <|
  chk ((l4 ++ ([x_x3.A] : List Int)).length < 4611686018427387904) <|
  chk ((NL (l4 ++ ([x_x3.A] : List Int))).length < 4611686018427387904) <|
  some (Lib.compact (NL (l4 ++ ([x_x3.A] : List Int))))
 else
  bif (x_x3.Op == 21) then
   chk (l4.length + ([x_x3.B] : List Int).length ≤ 16777216) <|
   chk ((l4 ++ ([x_x3.B] : List Int)).length < 4611686018427387904) <|
   chk ((NL (l4 ++ ([x_x3.B] : List Int))).length < 4611686018427387904) <|
   some (Lib.compact (NL (l4 ++ ([x_x3.B] : List Int))))
  else
   chk (l4.length < 4611686018427387904) <|
   chk ((NL l4).length < 4611686018427387904) <|
   some (Lib.compact (NL l4))
noncomputable def Wo (f1 : LY) (k2 : Int) : Option ((List Int)) :=
 (ixO f1.Code k2).bind fun x_x3 =>
 (Sd x_x3.Op).bind fun r5 =>
 bif (!r5) then
  chk (([] : List Int).length + ([IntKind.i64.wrap (k2 + 1)] : List Int).length ≤ 16777216) <|
  TT x_x3 (([] : List Int) ++ ([IntKind.i64.wrap (k2 + 1)] : List Int))
 else
  TT x_x3 ([] : List Int)
noncomputable def VW (f1 : LY) (k2 : Int) : Option ((List Int)) :=
 bif (decide (k2 < 0)) then
  some ([] : List Int)
 else
  bif (decide (k2 ≥ (f1.Code.length : Int))) then
   some ([] : List Int)
  else
   Wo f1 k2

noncomputable def Pn (j1 : Int) (cap2 : Mf) : Option ((List Int)) :=
 (ixO cap2.Out j1).bind fun x_x3 =>
 some x_x3

noncomputable def OG (x1 : LU) : Option (Int × Bool) :=
 bif (x1.Op == 16) then
  bif (x1.Op == 16) then
   some (x1.A,true)
  else
   some (0,false)
 else
  bif (x1.Op == 17) then
   some (x1.A,true)
  else
   some (0,false)

noncomputable def NX (s1 : LX) (n2 : Int) (in3 : Bool) : Option (LX) :=
 chk (0 ≤ ((IntKind.u64.wrap (n2)).tmod 64)) <|
 (Nw n2).bind fun r4 =>
 bif (!r4) then
  some s1
 else
  bif in3 then
   chk (0 ≤ (IntKind.i64.wrap (n2.tdiv 64)) ∧ (IntKind.i64.wrap (n2.tdiv 64)) < 8) <|
   ((s1.toList)[(IntKind.i64.wrap (n2.tdiv 64)).toNat]?).bind fun s_e5 =>
   chk (0 ≤ (IntKind.i64.wrap (n2.tdiv 64)) ∧ (IntKind.i64.wrap (n2.tdiv 64)) < 8) <|
   ((s1.toList)[(IntKind.i64.wrap (n2.tdiv 64)).toNat]?).bind fun _ =>
   some (s1.set ((IntKind.i64.wrap (n2.tdiv 64)).toNat) (IntKind.u64.wrap ((BitVec.ofInt IntKind.u64.bits s_e5 ||| BitVec.ofInt IntKind.u64.bits (IntKind.u64.wrap (1 * 2 ^ (Nat.min ((IntKind.u64.wrap (n2)).tmod 64).toNat IntKind.u64.bits)))).toNat)))
  else
   chk (0 ≤ (IntKind.i64.wrap (n2.tdiv 64)) ∧ (IntKind.i64.wrap (n2.tdiv 64)) < 8) <|
   ((s1.toList)[(IntKind.i64.wrap (n2.tdiv 64)).toNat]?).bind fun s_e7 =>
   chk (0 ≤ (IntKind.i64.wrap (n2.tdiv 64)) ∧ (IntKind.i64.wrap (n2.tdiv 64)) < 8) <|
   ((s1.toList)[(IntKind.i64.wrap (n2.tdiv 64)).toNat]?).bind fun _ =>
   some (s1.set ((IntKind.i64.wrap (n2.tdiv 64)).toNat) (IntKind.u64.wrap ((BitVec.ofInt IntKind.u64.bits s_e7 &&& ~~~ BitVec.ofInt IntKind.u64.bits (IntKind.u64.wrap (1 * 2 ^ (Nat.min ((IntKind.u64.wrap (n2)).tmod 64).toNat IntKind.u64.bits)))).toNat)))

noncomputable def Sm (l1 : (List Int)) (x2 : LX) (x3 : Int) : Option ((LX × Int) ⊕ (LX)) :=
 bif (decide (x3 < (l1.length : Int))) then
  (ixO l1 x3).bind fun x_x4 =>
  (NX x2 x_x4 true).bind fun r5 =>
  cnt (r5,IntKind.i64.wrap (x3 + 1))
 else
  lft (some x2)
noncomputable def NG (l1 : (List Int)) : Option (LX) :=
 MD (fun s=>Sm l1 s.1 s.2) ((LX.mk 0 0 0 0 0 0 0 0),0)

noncomputable def Pz (x3 : Int) (l5 : List Int) (x6 : Int) : Option (((List Int) × Int) ⊕ (((List Int) × Int) ⊕ ((List Int) × LX))) :=
 bif (x6 != 0) then
  (Abz x6).bind fun r7 =>
  chk (l5.length + ([IntKind.i64.wrap ((IntKind.i64.wrap (64 * x3)) + r7)] : List Int).length ≤ 16777216) <|
  cnt (l5 ++ ([IntKind.i64.wrap ((IntKind.i64.wrap (64 * x3)) + r7)] : List Int),IntKind.u64.wrap ((BitVec.ofInt IntKind.u64.bits x6 &&& BitVec.ofInt IntKind.u64.bits (IntKind.u64.wrap (x6 - 1))).toNat))
 else
  lft (cnt (l5,IntKind.i64.wrap (x3 + 1)))
noncomputable def Py (s1 : LX) (l2 : List Int) (x3 : Int) : Option (((List Int) × Int) ⊕ ((List Int) × LX)) :=
 bif (decide (x3 < 8)) then
  chk (0 ≤ x3 ∧ x3 < 8) <|
  ((s1.toList)[x3.toNat]?).bind fun s_e4 =>
  MD (fun s=>Pz x3 s.1 s.2) (l2,s_e4)
 else
  lft (some (l2,s1))
noncomputable def Nd (s1 : LX) : Option ((List Int) × LX) :=
 MD (fun s=>Py s1 s.1 s.2) (([] : List Int),0)

noncomputable def Qa (s1 : (List Int)) (n2 : Int) : Option ((List Int)) :=
 (NG s1).bind fun r3 =>
 (NX r3 n2 false).bind fun r4 =>
 (Nd r4).bind fun r5 =>
 some r5.1

noncomputable def Ry (x1 : LU) : Option ((List Int)) :=
 bif (x1.Op == 15) then
  bif (x1.Op == 15) then
   some ([x1.B] : List Int)
  else
   some ([] : List Int)
 else
  bif (x1.Op == 17) then
   some ([x1.B] : List Int)
  else
   some ([] : List Int)

noncomputable def Si (l1 : (List Int)) : Option ((List Int)) :=
 (NG l1).bind fun r2 =>
 (Nd r2).bind fun r3 =>
 some r3.1

noncomputable def Qu (x1 : Int) (y2 : Int) : Option (Int) :=
 some (IntKind.u64.wrap ((BitVec.ofInt IntKind.u64.bits x1 ||| BitVec.ofInt IntKind.u64.bits y2).toNat))

noncomputable def Nq (s1 : LX) (t2 : LX) (x3 : LX) (x4 : Int) : Option ((LX × Int) ⊕ (LX × LX × LX)) :=
 bif (decide (x4 < 8)) then
  chk (0 ≤ x4 ∧ x4 < 8) <|
  ((s1.toList)[x4.toNat]?).bind fun s_e5 =>
  chk (0 ≤ x4 ∧ x4 < 8) <|
  ((t2.toList)[x4.toNat]?).bind fun t_e6 =>
  (Qu s_e5 t_e6).bind fun r7 =>
  chk (0 ≤ x4 ∧ x4 < 8) <|
  ((x3.toList)[x4.toNat]?).bind fun _ =>
  cnt ((x3.set x4.toNat r7),IntKind.i64.wrap (x4 + 1))
 else
  lft (some (x3,s1,t2))
noncomputable def Ni (s1 : LX) (t2 : LX) : Option (LX × LX × LX) :=
 MD (fun s=>Nq s1 t2 s.1 s.2) ((LX.mk 0 0 0 0 0 0 0 0),0)

noncomputable def OT (a1 : (List Int)) (b2 : (List Int)) : Option ((List Int)) :=
 (NG a1).bind fun r3 =>
 (NG b2).bind fun r4 =>
 (Ni r3 r4).bind fun r5 =>
 (Nd r5.1).bind fun r6 =>
 some r6.1

noncomputable def VV (x1 : LU) (out2 : (List Int)) : Option ((List Int)) :=
 (OG x1).bind fun r3 =>
 bif r3.2 then
  (Qa out2 r3.1).bind fun r4 =>
  (Ry x1).bind fun r5 =>
  (Si r5).bind fun r6 =>
  (OT r4 r6).bind fun r7 =>
  some r7
 else
  (Ry x1).bind fun r8 =>
  (Si r8).bind fun r9 =>
  (OT out2 r9).bind fun r10 =>
  some r10

noncomputable def Qt (x1 : Int) (y2 : Int) : Option (Int) :=
 some (IntKind.u64.wrap ((BitVec.ofInt IntKind.u64.bits x1 &&& ~~~ BitVec.ofInt IntKind.u64.bits y2).toNat))

noncomputable def Np (s1 : LX) (t2 : LX) (x3 : LX) (x4 : Int) : Option ((LX × Int) ⊕ (LX × LX × LX)) :=
 bif (decide (x4 < 8)) then
  chk (0 ≤ x4 ∧ x4 < 8) <|
  ((s1.toList)[x4.toNat]?).bind fun s_e5 =>
  chk (0 ≤ x4 ∧ x4 < 8) <|
  ((t2.toList)[x4.toNat]?).bind fun t_e6 =>
  (Qt s_e5 t_e6).bind fun r7 =>
  chk (0 ≤ x4 ∧ x4 < 8) <|
  ((x3.toList)[x4.toNat]?).bind fun _ =>
  cnt ((x3.set x4.toNat r7),IntKind.i64.wrap (x4 + 1))
 else
  lft (some (x3,s1,t2))
noncomputable def Nh (s1 : LX) (t2 : LX) : Option (LX × LX × LX) :=
 MD (fun s=>Np s1 t2 s.1 s.2) ((LX.mk 0 0 0 0 0 0 0 0),0)

noncomputable def QB (a1 : (List Int)) (b2 : (List Int)) : Option ((List Int)) :=
 (NG a1).bind fun r3 =>
 (NG b2).bind fun r4 =>
 (Nh r3 r4).bind fun r5 =>
 (Nd r5.1).bind fun r6 =>
 some r6.1

noncomputable def NK (need1 : (List Int)) (cap2 : (List Int)) (cap3 : Mf) (cap4 : Int) : Option (Bool × (List Int)) :=
 (ixO cap3.Out cap4).bind fun x_x5 =>
 (QB need1 x_x5).bind fun r6 =>
 (OT cap2 r6).bind fun r7 =>
 some (true,r7)

noncomputable def MM (r7 : (List Int)) (f1 : LY) (set3 : Mf) (visit5 : Mf) (visit6 : Int) (x8 : List Int) (x9 : Int) : Option (((List Int) × Int) ⊕ (Bool × (List Int))) :=
 bif (decide (x9 < (r7.length : Int))) then
  chk (0 ≤ x9 ∧ x9 < r7.length) <|
  ((r7)[x9.toNat]?).bind fun x_e10 =>
  (ixO f1.Code x_e10).bind fun x_x11 =>
  (Pn x_e10 set3).bind fun r12 =>
  (VV x_x11 r12).bind fun r13 =>
  (NK r13 x8 visit5 visit6).bind fun r14 =>
  bif (!r14.1) then
   lft (some (false,r14.2))
  else
   cnt (r14.2,IntKind.i64.wrap (x9 + 1))
 else
  lft (some (true,x8))
noncomputable def MR (f1 : LY) (k2 : Int) (set3 : Mf) (visit4 : (List Int)) (visit5 : Mf) (visit6 : Int) : Option (Bool × (List Int)) :=
 (VW f1 k2).bind fun r7 =>
 MD (fun s=>MM r7 f1 set3 visit5 visit6 s.1 s.2) (visit4,0)

noncomputable def Ro (f1 : LY) (l2 : Mf) (x4 : Int) : Option ((Int) ⊕ (Int × Int × Bool)) :=
 bif (decide (x4 < (f1.Code.length : Int))) then
  (RV l2).bind fun r5 =>
  (MR f1 x4 r5 ([]) l2 x4).bind fun r6 =>
  bif (decide ((r6.2.length : Int) > 0)) then
   (ixO r6.2 0).bind fun x_x7 =>
   lft (some (x4,x_x7,true))
  else
   cnt (IntKind.i64.wrap (x4 + 1))
 else
  lft (some (0,0,false))
noncomputable def PT (f1 : LY) (l2 : Mf) : Option (Int × Int × Bool) :=
 (Ox f1 l2).bind fun r3 =>
 bif (!r3) then
  some (0,0,false)
 else
  MD (fun s=>Ro f1 l2 s) 0

noncomputable def OW (f1 : LY) (l2 : Mf) : Option (Int) :=
 (Ox f1 l2).bind fun r3 =>
 bif (!r3) then
  some 11
 else
  (PT f1 l2).bind fun r4 =>
  bif r4.2.2 then
   some 11
  else
   some 0

noncomputable def RK (to2 : (List Int)) (f1 : LY) (x3 : Int) : Option ((Int) ⊕ (Bool)) :=
 bif (decide (x3 < (to2.length : Int))) then
  (ixO to2 x3).bind fun x_x4 =>
  bif (decide (x_x4 < 0)) then
   lft (some false)
  else
   bif (decide (x_x4 ≥ (to2.length : Int))) then
    lft (some false)
   else
    (ixO f1.Slots x_x4).bind fun x_x5 =>
    (ixO f1.Slots x3).bind fun x_x6 =>
    bif (x_x5.Size != x_x6.Size) then
     lft (some false)
    else
     (ixO to2 x_x4).bind fun x_x7 =>
     bif (x_x7 != x_x4) then
      lft (some false)
     else
      cnt (IntKind.i64.wrap (x3 + 1))
 else
  lft (some true)
noncomputable def Qv (f1 : LY) (to2 : (List Int)) : Option (Bool) :=
 bif ((to2.length : Int) != (f1.Slots.length : Int)) then
  some false
 else
  MD (fun s=>RK to2 f1 s) 0

noncomputable def QD (x1 : LU) : Option (Bool) :=
 (OG x1).bind fun r2 =>
 some r2.2

noncomputable def SH (f1 : LY) (r2 : ML) (x4 : Int) : Option ((Int) ⊕ (Int)) :=
 bif (decide (x4 < (f1.Code.length : Int))) then
  (ixO f1.Code x4).bind fun x_x5 =>
  (ixO r2.Keep x4).bind fun x_x6 =>
  bif (!x_x6) then
   (QD x_x5).bind fun r7 =>
   bif (!r7) then
    lft (some 12)
   else
    cnt (IntKind.i64.wrap (x4 + 1))
  else
   cnt (IntKind.i64.wrap (x4 + 1))
 else
  lft (some 0)
noncomputable def SI (f1 : LY) (r2 : ML) : Option (Int) :=
 MD (fun s=>SH f1 r2 s) 0
noncomputable def Qe (f1 : LY) (r2 : ML) : Option (Int) :=
 (Qv f1 r2.To).bind fun r3 =>
 bif (!r3) then
  some 12
 else
  bif ((r2.Keep.length : Int) != (f1.Code.length : Int)) then
   some 12
  else
   SI f1 r2

noncomputable def NF (x_x9 : (List Int)) (cap3 : ML) (k1 : Int) (r6 : Int × Bool) (x10 : Int) : Option ((Int) ⊕ (Int × Bool)) :=
 bif (decide (x10 < (x_x9.length : Int))) then
  (ixO x_x9 x10).bind fun x_x11 =>
  (ixO cap3.Keep k1).bind fun x_x12 =>
  bif (x_x12 == (x_x11 != r6.1)) then
   (ixO cap3.To x_x11).bind fun x_x13 =>
   (ixO cap3.To r6.1).bind fun x_x14 =>
   bif (x_x13 == x_x14) then
    lft (some (x_x11,true))
   else
    cnt (IntKind.i64.wrap (x10 + 1))
  else
   cnt (IntKind.i64.wrap (x10 + 1))
 else
  lft (some (0,false))
noncomputable def MT (cap4 : Mf) (k1 : Int) (cap3 : ML) (r6 : Int × Bool) : Option (Int × Bool) :=
 (ixO cap4.Out k1).bind fun x_x9 =>
 MD (fun s=>NF x_x9 cap3 k1 r6 s) 0
noncomputable def MX (k1 : Int) (cap2 : LY) (cap3 : ML) (cap4 : Mf) : Option (Int × Bool) :=
 (ixO cap2.Code k1).bind fun x_x5 =>
 (OG x_x5).bind fun r6 =>
 bif (!r6.2) then
  some (0,false)
 else
  bif (x_x5.Op == 17) then
   (ixO cap3.To x_x5.A).bind fun x_x7 =>
   (ixO cap3.To x_x5.B).bind fun x_x8 =>
   bif (x_x7 == x_x8) then
    some (0,false)
   else
    MT cap4 k1 cap3 r6
  else
   MT cap4 k1 cap3 r6

noncomputable def Qp (f1 : LY) (r3 : ML) (l2 : Mf) (x6 : Int) : Option ((Int) ⊕ (Int × Int × Bool)) :=
 bif (decide (x6 < (f1.Code.length : Int))) then
  (MX x6 f1 r3 l2).bind fun r7 =>
  bif r7.2 then
   lft (some (x6,r7.1,true))
  else
   cnt (IntKind.i64.wrap (x6 + 1))
 else
  lft (some (0,0,false))
noncomputable def Qq (f1 : LY) (r3 : ML) (l2 : Mf) : Option (Int × Int × Bool) :=
 MD (fun s=>Qp f1 r3 l2 s) 0
noncomputable def Pf (f1 : LY) (l2 : Mf) (r3 : ML) : Option (Int × Int × Bool) :=
 (OW f1 l2).bind fun r4 =>
 bif (r4 != 0) then
  some (0,0,false)
 else
  (Qe f1 r3).bind fun r5 =>
  bif (r5 != 0) then
   some (0,0,false)
  else
   Qq f1 r3 l2

noncomputable def OJ (f1 : LY) (l2 : Mf) (r3 : ML) : Option (Int) :=
 (OW f1 l2).bind fun r4 =>
 bif (r4 != 0) then
  some 11
 else
  (Qe f1 r3).bind fun r5 =>
  bif (r5 != 0) then
   some 12
  else
   (Pf f1 l2 r3).bind fun r6 =>
   bif r6.2.2 then
    some 12
   else
    some 0

noncomputable def SV  : Option (Bool) :=
 (OJ (LY.mk 0 ([(Mt.mk 8 8),(Mt.mk 8 8)] : List Mt) ([(LU.mk 16 0 0 0 0),(LU.mk 16 1 0 0 0),(LU.mk 15 0 0 0 0),(LU.mk 23 0 0 0 0)] : List LU)) (Mf.mk ([([0] : List Int),([0] : List Int),([] : List Int),([] : List Int)] : List (List Int))) (ML.mk ([0,1] : List Int) ([true,true,true,true] : List Bool))).bind fun r1 =>
 bif (r1 == 0) then
  (OJ (LY.mk 0 ([(Mt.mk 8 8),(Mt.mk 8 8)] : List Mt) ([(LU.mk 16 0 0 0 0),(LU.mk 16 1 0 0 0),(LU.mk 15 0 0 0 0),(LU.mk 23 0 0 0 0)] : List LU)) (Mf.mk ([([0] : List Int),([0] : List Int),([] : List Int),([] : List Int)] : List (List Int))) (ML.mk ([0,0] : List Int) ([true,true,true,true] : List Bool))).bind fun r2 =>
  some (r2 == 12)
 else
  some false

noncomputable def Xk (list1 : (List Int)) (limit2 : Int) : Option (LV) :=
 chk (0 ≤ (On (list1.length : Int) limit2) ∧ (On (list1.length : Int) limit2) ≤ list1.length) <|
 some (LV.mk (list1.take (On (list1.length : Int) limit2).toNat) 0)

noncomputable def Rj (c1 : LV) : Option (Bool × LV) :=
 some ((decide (c1.at_ < (c1.list.length : Int))),c1)

noncomputable def Rl (n2 : Int) (c3 : List Int) (c4 : Int) : Option (Int × LV) :=
 (ixO c3 c4).bind fun x_x6 =>
 some (IntKind.i64.wrap ((IntKind.i64.wrap ((IntKind.i64.wrap (x_x6)) * n2)).tdiv 256),(LV.mk c3 (IntKind.i64.wrap (c4 + 1))))
noncomputable def Mi (c1 : LV) (n2 : Int) : Option (Int × LV) :=
 (Rj c1).bind fun r5 =>
 bif (!r5.1) then
  some (0,r5.2)
 else
  bif (decide (n2 < 1)) then
   some (0,r5.2)
  else
   Rl n2 r5.2.list r5.2.at_

noncomputable def PN (c1 : LV) : Option (Mt × LV) :=
 (Mi c1 7).bind fun r2 =>
 chk (0 ≤ r2.1 ∧ r2.1 < ([8,4,8,1,2,16,8] : List Int).length) <|
 ((([8,4,8,1,2,16,8] : List Int))[r2.1.toNat]?).bind fun x_e3 =>
 (Mi r2.2 8).bind fun r4 =>
 chk (0 ≤ r4.1 ∧ r4.1 < ([8,4,1,8,16,2,32,64] : List Int).length) <|
 ((([8,4,1,8,16,2,32,64] : List Int))[r4.1.toNat]?).bind fun x_e5 =>
 some ((Mt.mk x_e3 x_e5),r4.2)

noncomputable def QO (c4 : List Int) (c5 : Int) (l6 : List Mt) (n7 : Int) : Option (((List Int) × Int × (List Mt) × Int) ⊕ ((List Mt) × LV)) :=
 bif (decide (n7 > 0)) then
  (PN (LV.mk c4 c5)).bind fun r8 =>
  chk (l6.length + ([r8.1] : List Mt).length ≤ 16777216) <|
  cnt (r8.2.list,r8.2.at_,l6 ++ ([r8.1] : List Mt),IntKind.i64.wrap (n7 - 1))
 else
  lft (some (l6,(LV.mk c4 c5)))
noncomputable def Pr (c1 : LV) (most2 : Int) : Option ((List Mt) × LV) :=
 (Mi c1 (IntKind.i64.wrap (most2 + 1))).bind fun r3 =>
 MD (fun s=>QO s.1 s.2.1 s.2.2.1 s.2.2.2) (r3.2.list,r3.2.at_,([] : List Mt),r3.1)

noncomputable def Rn (f2 : LY) (s3 : Int) (c1 : LV) (l4 : List Int) (k5 : Int) : Option (((List Int) × Int) ⊕ (Int × LV)) :=
 bif (decide (k5 < (f2.Slots.length : Int))) then
  (ixO f2.Slots k5).bind fun x_x6 =>
  (ixO f2.Slots s3).bind fun x_x7 =>
  bif (x_x6.Size == x_x7.Size) then
   chk (l4.length + ([k5] : List Int).length ≤ 16777216) <|
   cnt (l4 ++ ([k5] : List Int),IntKind.i64.wrap (k5 + 1))
  else
   cnt (l4,IntKind.i64.wrap (k5 + 1))
 else
  lft (
   (Mi c1 (l4.length : Int)).bind fun r8 =>
   chk (0 ≤ r8.1 ∧ r8.1 < l4.length) <|
   ((l4)[r8.1.toNat]?).bind fun l_e9 =>
   some (l_e9,r8.2))
noncomputable def PQ (c1 : LV) (f2 : LY) (s3 : Int) : Option (Int × LV) :=
 MD (fun s=>Rn f2 s3 c1 s.1 s.2) (([] : List Int),0)

noncomputable def OV (c1 : LV) : Option (Int × LV) :=
 (Mi c1 6).bind fun r2 =>
 bif (r2.1 == 0) then
  (Mi r2.2 3).bind fun r3 =>
  some (IntKind.u64.wrap (18446744073709551615 - (IntKind.u64.wrap (r3.1))),r3.2)
 else
  bif (r2.1 == 1) then
   (Mi r2.2 64).bind fun r4 =>
   chk (0 ≤ r4.1) <|
   some (IntKind.u64.wrap (1 * 2 ^ (Nat.min r4.1.toNat IntKind.u64.bits)),r4.2)
  else
   bif (r2.1 == 2) then
    some (0,r2.2)
   else
    (Mi r2.2 256).bind fun r5 =>
    some (IntKind.u64.wrap (r5.1),r5.2)

noncomputable def Rm (params4 : (List Int)) (i3 : Int) (r23 : Int × LV) (c24 : List Int) (c25 : Int) (out26 : List LU) (a27 : Int) : Option (((List Int) × Int × (List LU) × Int) ⊕ ((List LU) × LV)) :=
 (ixO params4 (IntKind.i64.wrap ((IntKind.i64.wrap (i3 + 1)) + r23.1))).bind fun x_x28 =>
 bif (decide (a27 < x_x28)) then
  (Mi (LV.mk c24 c25) 8).bind fun r29 =>
  bif (decide (r29.1 < 7)) then
   (Mi r29.2 4).bind fun r30 =>
   chk (out26.length + ([(LU.mk 18 a27 r30.1 0 0)] : List LU).length ≤ 16777216) <|
   cnt (r30.2.list,r30.2.at_,out26 ++ ([(LU.mk 18 a27 r30.1 0 0)] : List LU),IntKind.i64.wrap (a27 + 1))
  else
   cnt (r29.2.list,r29.2.at_,out26,IntKind.i64.wrap (a27 + 1))
 else
  lft (
   chk (out26.length + ([(LU.mk 22 (IntKind.i64.wrap ((IntKind.i64.wrap (i3 + 1)) + r23.1)) 0 0 0)] : List LU).length ≤ 16777216) <|
   some (out26 ++ ([(LU.mk 22 (IntKind.i64.wrap ((IntKind.i64.wrap (i3 + 1)) + r23.1)) 0 0 0)] : List LU),(LV.mk c24 c25)))
noncomputable def TP (r5 : Int × LV) (r6 : Int × LV) : Option ((List LU) × LV) :=
 some (([(LU.mk 14 r5.1 0 0 0)] : List LU),r6.2)
noncomputable def OE (r6 : Int × LV) (params4 : (List Int)) (i3 : Int) (r5 : Int × LV) (x22 : Bool) : Option ((List LU) × LV) :=
 bif x22 then
  (Mi r6.2 (IntKind.i64.wrap ((IntKind.i64.wrap ((params4.length : Int) - i3)) - 1))).bind fun r23 =>
  MD (fun s=>Rm params4 i3 r23 s.1 s.2.1 s.2.2.1 s.2.2.2) (r23.2.list,r23.2.at_,([] : List LU),0)
 else
  TP r5 r6
noncomputable def OD (r6 : Int × LV) (f2 : LY) (r5 : Int × LV) (params4 : (List Int)) (i3 : Int) (x20 : Bool) : Option ((List LU) × LV) :=
 bif x20 then
  (Mi r6.2 f2.Params).bind fun r21 =>
  some (([(LU.mk 19 r5.1 r21.1 0 0)] : List LU),r21.2)
 else
  bif (decide (r6.1 ≥ 17)) then
   OE r6 params4 i3 r5 (decide ((IntKind.i64.wrap (i3 + 1)) < (params4.length : Int)))
  else
   OE r6 params4 i3 r5 false
noncomputable def OC (r6 : Int × LV) (f2 : LY) (r5 : Int × LV) (params4 : (List Int)) (i3 : Int) (x11 : Bool) : Option ((List LU) × LV) :=
 bif x11 then
  (Mi r6.2 (f2.Slots.length : Int)).bind fun r12 =>
  (PQ r12.2 f2 r12.1).bind fun r13 =>
  some (([(LU.mk 17 r13.1 r12.1 0 0)] : List LU),r13.2)
 else
  bif (decide (r6.1 < 11)) then
   (OV r6.2).bind fun r14 =>
   some (([(LU.mk 0 r5.1 0 0 r14.1)] : List LU),r14.2)
  else
   bif (decide (r6.1 < 13)) then
    (Mi r6.2 10).bind fun r15 =>
    (Mi r15.2 4).bind fun r16 =>
    (Mi r16.2 8).bind fun r17 =>
    some (([(LU.mk (IntKind.i64.wrap (2 + r15.1)) r5.1 r16.1 r17.1 0)] : List LU),r17.2)
   else
    bif (decide (r6.1 < 15)) then
     some (([(LU.mk 14 r5.1 0 0 0)] : List LU),r6.2)
    else
     bif (r6.1 == 15) then
      (Mi r6.2 3).bind fun r18 =>
      chk (0 ≤ r18.1 ∧ r18.1 < ([13,12,1] : List Int).length) <|
      ((([13,12,1] : List Int))[r18.1.toNat]?).bind fun x_e19 =>
      some (([(LU.mk x_e19 r5.1 0 0 0)] : List LU),r18.2)
     else
      bif (r6.1 == 16) then
       OD r6 f2 r5 params4 i3 (decide (f2.Params > 0))
      else
       OD r6 f2 r5 params4 i3 false
noncomputable def OB (r6 : Int × LV) (f2 : LY) (r5 : Int × LV) (params4 : (List Int)) (i3 : Int) (x9 : Bool) : Option ((List LU) × LV) :=
 bif x9 then
  (Mi r6.2 (f2.Slots.length : Int)).bind fun r10 =>
  some (([(LU.mk 15 r5.1 r10.1 0 0)] : List LU),r10.2)
 else
  bif (decide (r6.1 < 9)) then
   OC r6 f2 r5 params4 i3 (decide ((f2.Slots.length : Int) > 0))
  else
   OC r6 f2 r5 params4 i3 false
noncomputable def OA (r6 : Int × LV) (f2 : LY) (r5 : Int × LV) (params4 : (List Int)) (i3 : Int) (x7 : Bool) : Option ((List LU) × LV) :=
 bif x7 then
  (Mi r6.2 (f2.Slots.length : Int)).bind fun r8 =>
  some (([(LU.mk 16 r8.1 r5.1 0 0)] : List LU),r8.2)
 else
  bif (decide (r6.1 < 6)) then
   OB r6 f2 r5 params4 i3 (decide ((f2.Slots.length : Int) > 0))
  else
   OB r6 f2 r5 params4 i3 false
noncomputable def PO (c1 : LV) (f2 : LY) (i3 : Int) (params4 : (List Int)) : Option ((List LU) × LV) :=
 (Mi c1 4).bind fun r5 =>
 (Mi r5.2 20).bind fun r6 =>
 bif (decide (r6.1 < 3)) then
  OA r6 f2 r5 params4 i3 (decide ((f2.Slots.length : Int) > 0))
 else
  OA r6 f2 r5 params4 i3 false

noncomputable def Om (k32 : Int) (code31 : List LU) (r33 : Int × LV) (to34 : Int) (x35 : Bool) : Option (((List Int) × Int × (List LU) × Int) ⊕ (LY × LV)) :=
 bif x35 then
  chk (0 ≤ k32 ∧ k32 < code31.length) <|
  ((code31)[k32.toNat]?).bind fun code_o38 =>
  cnt (r33.2.list,r33.2.at_,code31.set k32.toNat (LU.mk code_o38.Op to34 code_o38.B code_o38.C code_o38.Imm),IntKind.i64.wrap (k32 + 1))
 else
  chk (0 ≤ k32 ∧ k32 < code31.length) <|
  ((code31)[k32.toNat]?).bind fun code_e39 =>
  bif (code_e39.Op == 21) then
   chk (0 ≤ k32 ∧ k32 < code31.length) <|
   ((code31)[k32.toNat]?).bind fun code_e40 =>
   bif (decide (code_e40.B < 0)) then
    chk (0 ≤ k32 ∧ k32 < code31.length) <|
    ((code31)[k32.toNat]?).bind fun code_o41 =>
    cnt (r33.2.list,r33.2.at_,code31.set k32.toNat (LU.mk code_o41.Op code_o41.A to34 code_o41.C code_o41.Imm),IntKind.i64.wrap (k32 + 1))
   else
    cnt (r33.2.list,r33.2.at_,code31,IntKind.i64.wrap (k32 + 1))
  else
   cnt (r33.2.list,r33.2.at_,code31,IntKind.i64.wrap (k32 + 1))
noncomputable def Na (k32 : Int) (code31 : List LU) (r33 : Int × LV) (to34 : Int) : Option (((List Int) × Int × (List LU) × Int) ⊕ (LY × LV)) :=
 chk (0 ≤ k32 ∧ k32 < code31.length) <|
 ((code31)[k32.toNat]?).bind fun code_e36 =>
 bif (code_e36.Op == 20) then
  chk (0 ≤ k32 ∧ k32 < code31.length) <|
  ((code31)[k32.toNat]?).bind fun code_e37 =>
  Om k32 code31 r33 to34 (decide (code_e37.A < 0))
 else
  Om k32 code31 r33 to34 false
noncomputable def Ol (x_x5 : Int) (f17 : List Mt) (c29 : List Int) (c30 : Int) (code31 : List LU) (k32 : Int) : Option (((List Int) × Int × (List LU) × Int) ⊕ (LY × LV)) :=
 bif (decide (k32 < (code31.length : Int))) then
  (Mi (LV.mk c29 c30) 8).bind fun r33 =>
  bif (decide ((IntKind.i64.wrap ((IntKind.i64.wrap (k32 + r33.1)) - 2)) < 0)) then
   Na k32 code31 r33 (IntKind.i64.wrap ((code31.length : Int) - 1))
  else
   bif (decide ((IntKind.i64.wrap ((IntKind.i64.wrap (k32 + r33.1)) - 2)) ≥ (code31.length : Int))) then
    Na k32 code31 r33 (IntKind.i64.wrap ((code31.length : Int) - 1))
   else
    Na k32 code31 r33 (IntKind.i64.wrap ((IntKind.i64.wrap (k32 + r33.1)) - 2))
 else
  lft (some ((LY.mk x_x5 f17 code31),(LV.mk c29 c30)))
noncomputable def NI (code16 : List LU) (x_x5 : Int) (f17 : List Mt) (c23 : List Int) (c24 : Int) (end25 : Int) (end26 : Int) : Option (LY × LV) :=
 chk (code16.length + ([(LU.mk end25 0 0 0 end26)] : List LU).length ≤ 16777216) <|
 MD (fun s=>Ol x_x5 f17 s.1 s.2.1 s.2.2.1 s.2.2.2) (c23,c24,code16 ++ ([(LU.mk end25 0 0 0 end26)] : List LU),0)
noncomputable def PD (x_x5 : Int) (i2 : Int) (params3 : (List Int)) (c14 : List Int) (c15 : Int) (code16 : List LU) (f17 : List Mt) (n18 : Int) : Option (((List Int) × Int × (List LU) × (List Mt) × Int) ⊕ (LY × LV)) :=
 bif (decide (n18 > 0)) then
  (PO (LV.mk c14 c15) (LY.mk x_x5 f17 ([])) i2 params3).bind fun r19 =>
  chk (code16.length + r19.1.length ≤ 16777216) <|
  (Mi r19.2 9).bind fun r20 =>
  bif (r20.1 == 7) then
   (Mi r20.2 4).bind fun r21 =>
   chk ((code16 ++ r19.1).length + ([(LU.mk 21 r21.1 (-1) 0 0)] : List LU).length ≤ 16777216) <|
   cnt (r21.2.list,r21.2.at_,(code16 ++ r19.1) ++ ([(LU.mk 21 r21.1 (-1) 0 0)] : List LU),f17,IntKind.i64.wrap (n18 - 1))
  else
   bif (r20.1 == 8) then
    (Mi r20.2 3).bind fun r22 =>
    bif (r22.1 == 2) then
     chk ((code16 ++ r19.1).length + ([(LU.mk 20 (-1) 0 0 0)] : List LU).length ≤ 16777216) <|
     cnt (r22.2.list,r22.2.at_,(code16 ++ r19.1) ++ ([(LU.mk 20 (-1) 0 0 0)] : List LU),f17,IntKind.i64.wrap (n18 - 1))
    else
     cnt (r22.2.list,r22.2.at_,code16 ++ r19.1,f17,IntKind.i64.wrap (n18 - 1))
   else
    cnt (r20.2.list,r20.2.at_,code16 ++ r19.1,f17,IntKind.i64.wrap (n18 - 1))
 else
  lft (
   (Mi (LV.mk c14 c15) 12).bind fun r27 =>
   bif (r27.1 == 11) then
    (OV r27.2).bind fun r28 =>
    NI code16 x_x5 f17 r28.2.list r28.2.at_ 24 r28.1
   else
    NI code16 x_x5 f17 r27.2.list r27.2.at_ 23 0)
noncomputable def PC (r6 : (List Mt) × LV) (most4 : Int) (x_x5 : Int) (i2 : Int) (params3 : (List Int)) (c7 : List Int) (c8 : Int) (code9 : List LU) (s10 : Int) : Option (((List Int) × Int × (List LU) × Int) ⊕ (LY × LV)) :=
 bif (decide (s10 < (r6.1.length : Int))) then
  (Mi (LV.mk c7 c8) 4).bind fun r11 =>
  bif (decide (r11.1 < 3)) then
   (Mi r11.2 4).bind fun r12 =>
   chk (code9.length + ([(LU.mk 16 s10 r12.1 0 0)] : List LU).length ≤ 16777216) <|
   cnt (r12.2.list,r12.2.at_,code9 ++ ([(LU.mk 16 s10 r12.1 0 0)] : List LU),IntKind.i64.wrap (s10 + 1))
  else
   cnt (r11.2.list,r11.2.at_,code9,IntKind.i64.wrap (s10 + 1))
 else
  lft (
   (Mi (LV.mk c7 c8) (IntKind.i64.wrap (most4 + 1))).bind fun r13 =>
   MD (fun s=>PD x_x5 i2 params3 s.1 s.2.1 s.2.2.1 s.2.2.2.1 s.2.2.2.2) (r13.2.list,r13.2.at_,code9,r6.1,r13.1))
noncomputable def Oj (c1 : LV) (i2 : Int) (params3 : (List Int)) (most4 : Int) : Option (LY × LV) :=
 (ixO params3 i2).bind fun x_x5 =>
 (Pr c1 6).bind fun r6 =>
 MD (fun s=>PC r6 most4 x_x5 i2 params3 s.1 s.2.1 s.2.2.1 s.2.2.2) (r6.2.list,r6.2.at_,([] : List LU),0)

noncomputable def PM (most3 : Int) (c10 : List Int) (c11 : Int) (p12 : List LY) (i13 : Int) (params14 : List Int) : Option (((List Int) × Int × (List LY) × Int × (List Int)) ⊕ (PZ × LV)) :=
 bif (decide (i13 < (params14.length : Int))) then
  chk (([] : List LY).length + p12.length ≤ 16777216) <|
  (Oj (LV.mk c10 c11) i13 params14 most3).bind fun r15 =>
  chk ((([] : List LY) ++ p12).length + ([r15.1] : List LY).length ≤ 16777216) <|
  cnt (r15.2.list,r15.2.at_,(([] : List LY) ++ p12) ++ ([r15.1] : List LY),IntKind.i64.wrap (i13 + 1),params14)
 else
  lft (some ((PZ.mk p12),(LV.mk c10 c11)))
noncomputable def PL (most3 : Int) (c5 : List Int) (c6 : Int) (params7 : List Int) (n8 : Int) : Option (((List Int) × Int × (List Int) × Int) ⊕ (PZ × LV)) :=
 bif (decide (n8 > 0)) then
  (Mi (LV.mk c5 c6) 4).bind fun r9 =>
  chk (params7.length + ([r9.1] : List Int).length ≤ 16777216) <|
  cnt (r9.2.list,r9.2.at_,params7 ++ ([r9.1] : List Int),IntKind.i64.wrap (n8 - 1))
 else
  lft (MD (fun s=>PM most3 s.1 s.2.1 s.2.2.1 s.2.2.2.1 s.2.2.2.2) (c5,c6,[],0,params7))
noncomputable def Oz (c1 : LV) (funcs2 : Int) (most3 : Int) : Option (PZ × LV) :=
 (Mi c1 funcs2).bind fun r4 =>
 MD (fun s=>PL most3 s.1 s.2.1 s.2.2.1 s.2.2.2) (r4.2.list,r4.2.at_,([0] : List Int),r4.1)

noncomputable def Ob (x_x3 : LU) (k2 : Int) (x4 : Bool) : Option ((List Int)) :=
 bif x4 then
  some ([] : List Int)
 else
  bif (x_x3.Op == 21) then
   bif (decide (x_x3.B < (IntKind.i64.wrap (k2 + 1)))) then
    some ([x_x3.B,IntKind.i64.wrap (k2 + 1)] : List Int)
   else
    bif (decide (x_x3.B > (IntKind.i64.wrap (k2 + 1)))) then
     some ([IntKind.i64.wrap (k2 + 1),x_x3.B] : List Int)
    else
     some ([IntKind.i64.wrap (k2 + 1)] : List Int)
  else
   some ([IntKind.i64.wrap (k2 + 1)] : List Int)
noncomputable def Vp (f1 : LY) (k2 : Int) : Option ((List Int)) :=
 (ixO f1.Code k2).bind fun x_x3 =>
 bif (x_x3.Op == 20) then
  some ([x_x3.A] : List Int)
 else
  bif (x_x3.Op == 23) then
   Ob x_x3 k2 (x_x3.Op == 23)
  else
   Ob x_x3 k2 (x_x3.Op == 24)
noncomputable def Sz (f1 : LY) (k2 : Int) : Option ((List Int)) :=
 bif (decide (k2 < 0)) then
  some ([] : List Int)
 else
  bif (decide (k2 ≥ (f1.Code.length : Int))) then
   some ([] : List Int)
  else
   Vp f1 k2

noncomputable def PW (x1 : LU) : Option (Bool) :=
 bif (x1.Op == 16) then
  some true
 else
  some (x1.Op == 17)

noncomputable def Ou (x1 : LU) : Option (Int × Bool) :=
 (PW x1).bind fun r2 =>
 bif r2 then
  some (x1.A,true)
 else
  some (0,false)

noncomputable def OY (s1 : (List Int)) (n2 : Int) (out3 : List Int) (i4 : Int) : Option (((List Int) × Int) ⊕ ((List Int))) :=
 bif (decide (i4 < (s1.length : Int))) then
  (ixO s1 i4).bind fun x_x5 =>
  bif (x_x5 != n2) then
   (ixO s1 i4).bind fun x_x6 =>
   chk (out3.length + ([x_x6] : List Int).length ≤ 16777216) <|
   cnt (out3 ++ ([x_x6] : List Int),IntKind.i64.wrap (i4 + 1))
  else
   cnt (out3,IntKind.i64.wrap (i4 + 1))
 else
  lft (some out3)
noncomputable def RZ (s1 : (List Int)) (n2 : Int) : Option ((List Int)) :=
 MD (fun s=>OY s1 n2 s.1 s.2) (([] : List Int),0)

noncomputable def SB (x1 : LU) : Option ((List Int)) :=
 bif (x1.Op == 15) then
  some ([x1.B] : List Int)
 else
  bif (x1.Op == 17) then
   some ([x1.B] : List Int)
  else
   some ([] : List Int)

noncomputable def Qo (n1 : Int) : Option (Bool) :=
 bif (decide (n1 ≥ 0)) then
  some (decide (n1 < 512))
 else
  some false

noncomputable def OX (s1 : (List Int)) (i6 : Int) (out7 : List Int) (done8 : Bool) : Option (((List Int) × Bool × Int) ⊕ ((List Int))) :=
 (ixO s1 i6).bind fun x_x12 =>
 chk (out7.length + ([x_x12] : List Int).length ≤ 16777216) <|
 cnt (out7 ++ ([x_x12] : List Int),done8,IntKind.i64.wrap (i6 + 1))
noncomputable def PJ (s1 : (List Int)) (i6 : Int) (n2 : Int) (out4 : List Int) (done5 : Bool) (x9 : Bool) : Option (((List Int) × Bool × Int) ⊕ ((List Int))) :=
 bif x9 then
  (ixO s1 i6).bind fun x_x11 =>
  bif (decide (x_x11 > n2)) then
   chk (out4.length + ([n2] : List Int).length ≤ 16777216) <|
   OX s1 i6 (out4 ++ ([n2] : List Int)) true
  else
   OX s1 i6 out4 true
 else
  OX s1 i6 out4 done5
noncomputable def NY (s1 : (List Int)) (n2 : Int) (out4 : List Int) (done5 : Bool) (i6 : Int) : Option (((List Int) × Bool × Int) ⊕ ((List Int))) :=
 bif (decide (i6 < (s1.length : Int))) then
  bif (!done5) then
   (ixO s1 i6).bind fun x_x10 =>
   PJ s1 i6 n2 out4 done5 (decide (x_x10 ≥ n2))
  else
   PJ s1 i6 n2 out4 done5 false
 else
  lft (
   bif (!done5) then
    chk (out4.length + ([n2] : List Int).length ≤ 16777216) <|
    some (out4 ++ ([n2] : List Int))
   else
    some out4)
noncomputable def Qr (s1 : (List Int)) (n2 : Int) : Option ((List Int)) :=
 (Qo n2).bind fun r3 =>
 MD (fun s=>NY s1 n2 s.1 s.2.1 s.2.2) (([] : List Int),(!r3),0)

noncomputable def Qw (b2 : (List Int)) (out3 : List Int) (i4 : Int) : Option (((List Int) × Int) ⊕ ((List Int))) :=
 bif (decide (i4 < (b2.length : Int))) then
  (ixO b2 i4).bind fun x_x5 =>
  (Qr out3 x_x5).bind fun r6 =>
  cnt (r6,IntKind.i64.wrap (i4 + 1))
 else
  lft (some out3)
noncomputable def PE (a1 : (List Int)) (b2 : (List Int)) : Option ((List Int)) :=
 chk (([] : List Int).length + a1.length ≤ 16777216) <|
 MD (fun s=>Qw b2 s.1 s.2) (([] : List Int) ++ a1,0)

noncomputable def VG (x1 : LU) (out2 : (List Int)) : Option ((List Int)) :=
 (Ou x1).bind fun r3 =>
 bif r3.2 then
  (RZ out2 r3.1).bind fun r4 =>
  (SB x1).bind fun r5 =>
  (PE r4 r5).bind fun r6 =>
  some r6
 else
  (SB x1).bind fun r7 =>
  (PE out2 r7).bind fun r8 =>
  some r8

noncomputable def Vq (k4 : Int) (x5 : List (List Int)) : Option (((List (List Int)) × Int) ⊕ (Mf)) :=
 cnt (x5,IntKind.i64.wrap (k4 + 1))
noncomputable def Re (r6 : (List Int)) (k4 : Int) (f1 : LY) (l2 : Mf) (x7 : List (List Int)) (i8 : Int) : Option (((List (List Int)) × Int) ⊕ (((List (List Int)) × Int) ⊕ (Mf))) :=
 bif (decide (i8 < (r6.length : Int))) then
  chk (0 ≤ i8 ∧ i8 < r6.length) <|
  ((r6)[i8.toNat]?).bind fun next_e9 =>
  chk (0 ≤ k4 ∧ k4 < x7.length) <|
  ((x7)[k4.toNat]?).bind fun x_e10 =>
  (ixO f1.Code next_e9).bind fun x_x11 =>
  (ixO l2.Out next_e9).bind fun x_x12 =>
  (VG x_x11 x_x12).bind fun r13 =>
  (PE x_e10 r13).bind fun r14 =>
  chk (0 ≤ k4 ∧ k4 < x7.length) <|
  ((x7)[k4.toNat]?).bind fun _ =>
  cnt (x7.set k4.toNat r14,IntKind.i64.wrap (i8 + 1))
 else
  lft (Vq k4 x7)
noncomputable def Rc (f1 : LY) (l2 : Mf) (x3 : List (List Int)) (k4 : Int) : Option (((List (List Int)) × Int) ⊕ (Mf)) :=
 bif (decide (k4 < (f1.Code.length : Int))) then
  (Sz f1 k4).bind fun r6 =>
  MD (fun s=>Re r6 k4 f1 l2 s.1 s.2) (x3,0)
 else
  lft (some (Mf.mk x3))
noncomputable def Us (f1 : LY) (l2 : Mf) : Option (Mf) :=
 chk (0 ≤ (f1.Code.length : Int) ∧ (f1.Code.length : Int) ≤ 16777216) <|
 MD (fun s=>Rc f1 l2 s.1 s.2) (List.replicate (f1.Code.length : Int).toNat ([] : (List Int)),0)

noncomputable def Qb (a1 : (List Int)) (b2 : (List Int)) (i3 : Int) : Option ((Int) ⊕ (Bool)) :=
 bif (decide (i3 < (a1.length : Int))) then
  (ixO a1 i3).bind fun x_x4 =>
  (ixO b2 i3).bind fun x_x5 =>
  bif (x_x4 != x_x5) then
   lft (some false)
  else
   cnt (IntKind.i64.wrap (i3 + 1))
 else
  lft (some true)
noncomputable def Up (a1 : (List Int)) (b2 : (List Int)) : Option (Bool) :=
 bif ((a1.length : Int) != (b2.length : Int)) then
  some false
 else
  MD (fun s=>Qb a1 b2 s) 0

noncomputable def Oy (a1 : (List (List Int))) (b2 : (List (List Int))) (i3 : Int) : Option ((Int) ⊕ (Bool)) :=
 bif (decide (i3 < (a1.length : Int))) then
  (ixO a1 i3).bind fun x_x4 =>
  (ixO b2 i3).bind fun x_x5 =>
  (Up x_x4 x_x5).bind fun r6 =>
  bif (!r6) then
   lft (some false)
  else
   cnt (IntKind.i64.wrap (i3 + 1))
 else
  lft (some true)
noncomputable def Rb (a1 : (List (List Int))) (b2 : (List (List Int))) : Option (Bool) :=
 bif ((a1.length : Int) != (b2.length : Int)) then
  some false
 else
  MD (fun s=>Oy a1 b2 s) 0

noncomputable def Uq (a1 : Mf) (b2 : Mf) : Option (Bool) :=
 (Rb a1.Out b2.Out).bind fun r3 =>
 some r3

noncomputable def Ur (f1 : LY) (l2 : List (List Int)) : Option (((List (List Int))) ⊕ (Mf)) :=
 (Us f1 (Mf.mk l2)).bind fun r3 =>
 (Uq r3 (Mf.mk l2)).bind fun r4 =>
 bif r4 then
  lft (some (Mf.mk l2))
 else
  cnt r3.Out
noncomputable def SY (f1 : LY) : Option (Mf) :=
 chk (0 ≤ (f1.Code.length : Int) ∧ (f1.Code.length : Int) ≤ 16777216) <|
 MD (fun s=>Ur f1 s) (List.replicate (f1.Code.length : Int).toNat ([] : (List Int)))

noncomputable def QN (n8 : Int) (c9 : List Int) (c10 : Int) (x11 : List (List Int)) : Option (((List Int) × Int × (List (List Int)) × Int) ⊕ (Mf × LV)) :=
 cnt (c9,c10,x11,IntKind.i64.wrap (n8 - 1))
noncomputable def QL (r12 : Int × LV) (n8 : Int) (x13 : List (List Int)) (k14 : Int) : Option (((List (List Int)) × Int) ⊕ (((List Int) × Int × (List (List Int)) × Int) ⊕ (Mf × LV))) :=
 bif (decide (k14 < (x13.length : Int))) then
  chk (0 ≤ k14 ∧ k14 < x13.length) <|
  ((x13)[k14.toNat]?).bind fun x_e15 =>
  (Qr x_e15 r12.1).bind fun r16 =>
  chk (0 ≤ k14 ∧ k14 < x13.length) <|
  ((x13)[k14.toNat]?).bind fun _ =>
  cnt (x13.set k14.toNat r16,IntKind.i64.wrap (k14 + 1))
 else
  lft (QN n8 r12.2.list r12.2.at_ x13)
noncomputable def QM (c5 : List Int) (c6 : Int) (f2 : LY) (n8 : Int) (x7 : List (List Int)) : Option (((List Int) × Int × (List (List Int)) × Int) ⊕ (Mf × LV)) :=
 (Mi (LV.mk c5 c6) (f2.Slots.length : Int)).bind fun r12 =>
 MD (fun s=>QL r12 n8 s.1 s.2) (x7,0)
noncomputable def QK (f2 : LY) (c5 : List Int) (c6 : Int) (x7 : List (List Int)) (n8 : Int) : Option (((List Int) × Int × (List (List Int)) × Int) ⊕ (Mf × LV)) :=
 bif (decide (n8 > 0)) then
  bif (decide ((f2.Slots.length : Int) > 0)) then
   QM c5 c6 f2 n8 x7
  else
   lft (some ((Mf.mk x7),(LV.mk c5 c6)))
 else
  lft (some ((Mf.mk x7),(LV.mk c5 c6)))
noncomputable def Pq (c1 : LV) (f2 : LY) : Option (Mf × LV) :=
 (SY f2).bind fun r3 =>
 chk (([] : List (List Int)).length + r3.Out.length ≤ 16777216) <|
 (Mi c1 3).bind fun r4 =>
 MD (fun s=>QK f2 s.1 s.2.1 s.2.2.1 s.2.2.2) (r4.2.list,r4.2.at_,([] : List (List Int)) ++ r3.Out,r4.1)

noncomputable def OH (s1 : (List Int)) (i2 : Int) : Option ((Int) ⊕ (Bool)) :=
 bif (decide (i2 < (s1.length : Int))) then
  (ixO s1 i2).bind fun x_x3 =>
  (Qo x_x3).bind fun r4 =>
  bif (!r4) then
   lft (some false)
  else
   bif (decide (i2 > 0)) then
    (ixO s1 i2).bind fun x_x5 =>
    (ixO s1 (IntKind.i64.wrap (i2 - 1))).bind fun x_x6 =>
    bif (decide (x_x5 ≤ x_x6)) then
     lft (some false)
    else
     cnt (IntKind.i64.wrap (i2 + 1))
   else
    cnt (IntKind.i64.wrap (i2 + 1))
 else
  lft (some true)
noncomputable def SW (s1 : (List Int)) : Option (Bool) :=
 MD (fun s=>OH s1 s) 0

noncomputable def Uu (l2 : Mf) (f1 : LY) (k3 : Int) : Option ((Int) ⊕ (Bool)) :=
 bif (decide (k3 < (l2.Out.length : Int))) then
  (ixO l2.Out k3).bind fun x_x4 =>
  (SW x_x4).bind fun r5 =>
  bif (!r5) then
   lft (some false)
  else
   (ixO l2.Out k3).bind fun x_x6 =>
   bif (decide ((x_x6.length : Int) > 0)) then
    (ixO l2.Out k3).bind fun x_x7 =>
    (ixO x_x7 (IntKind.i64.wrap ((x_x6.length : Int) - 1))).bind fun x_x8 =>
    bif (decide (x_x8 ≥ (f1.Slots.length : Int))) then
     lft (some false)
    else
     cnt (IntKind.i64.wrap (k3 + 1))
   else
    cnt (IntKind.i64.wrap (k3 + 1))
 else
  lft (some true)
noncomputable def RB (f1 : LY) (l2 : Mf) : Option (Bool) :=
 bif ((l2.Out.length : Int) != (f1.Code.length : Int)) then
  some false
 else
  MD (fun s=>Uu l2 f1 s) 0

noncomputable def RY (s1 : (List Int)) (n2 : Int) (i3 : Int) : Option ((Int) ⊕ (Bool)) :=
 bif (decide (i3 < (s1.length : Int))) then
  (ixO s1 i3).bind fun x_x4 =>
  bif (x_x4 == n2) then
   lft (some true)
  else
   cnt (IntKind.i64.wrap (i3 + 1))
 else
  lft (some false)
noncomputable def Sl (s1 : (List Int)) (n2 : Int) : Option (Bool) :=
 MD (fun s=>RY s1 n2 s) 0

noncomputable def Ps (a1 : (List Int)) (b2 : (List Int)) (out3 : List Int) (i4 : Int) : Option (((List Int) × Int) ⊕ ((List Int))) :=
 bif (decide (i4 < (a1.length : Int))) then
  (ixO a1 i4).bind fun x_x5 =>
  (Sl b2 x_x5).bind fun r6 =>
  bif (!r6) then
   (ixO a1 i4).bind fun x_x7 =>
   chk (out3.length + ([x_x7] : List Int).length ≤ 16777216) <|
   cnt (out3 ++ ([x_x7] : List Int),IntKind.i64.wrap (i4 + 1))
  else
   cnt (out3,IntKind.i64.wrap (i4 + 1))
 else
  lft (some out3)
noncomputable def SX (a1 : (List Int)) (b2 : (List Int)) : Option ((List Int)) :=
 MD (fun s=>Ps a1 b2 s.1 s.2) (([] : List Int),0)

noncomputable def Pt (r4 : (List Int)) (f1 : LY) (l2 : Mf) (k3 : Int) (out5 : List Int) (i6 : Int) : Option (((List Int) × Int) ⊕ ((List Int))) :=
 bif (decide (i6 < (r4.length : Int))) then
  chk (0 ≤ i6 ∧ i6 < r4.length) <|
  ((r4)[i6.toNat]?).bind fun next_e7 =>
  (ixO f1.Code next_e7).bind fun x_x8 =>
  (ixO l2.Out next_e7).bind fun x_x9 =>
  (VG x_x8 x_x9).bind fun r10 =>
  (ixO l2.Out k3).bind fun x_x11 =>
  (SX r10 x_x11).bind fun r12 =>
  (PE out5 r12).bind fun r13 =>
  cnt (r13,IntKind.i64.wrap (i6 + 1))
 else
  lft (some out5)
noncomputable def Rf (f1 : LY) (l2 : Mf) (k3 : Int) : Option ((List Int)) :=
 (Sz f1 k3).bind fun r4 =>
 MD (fun s=>Pt r4 f1 l2 k3 s.1 s.2) (([] : List Int),0)

noncomputable def Ut (f1 : LY) (l2 : Mf) (k4 : Int) : Option ((Int) ⊕ (Int × Int × Bool)) :=
 bif (decide (k4 < (f1.Code.length : Int))) then
  (Rf f1 l2 k4).bind fun r5 =>
  bif (decide ((r5.length : Int) > 0)) then
   chk (0 ≤ (0 : Int) ∧ (0 : Int) < r5.length) <|
   ((r5)[(0 : Int).toNat]?).bind fun m_e6 =>
   lft (some (k4,m_e6,true))
  else
   cnt (IntKind.i64.wrap (k4 + 1))
 else
  lft (some (0,0,false))
noncomputable def Ta (f1 : LY) (l2 : Mf) : Option (Int × Int × Bool) :=
 (RB f1 l2).bind fun r3 =>
 bif (!r3) then
  some (0,0,false)
 else
  MD (fun s=>Ut f1 l2 s) 0

noncomputable def SZ (f1 : LY) (l2 : Mf) : Option (Int) :=
 (Ta f1 l2).bind fun r3 =>
 bif r3.2.2 then
  some 11
 else
  (RB f1 l2).bind fun r4 =>
  bif (!r4) then
   some 11
  else
   some 0

noncomputable def OI (r14 : Int × Bool) (out15 : List (List Int)) (x_x19 : Int) (i16 : Int) (x20 : Bool) (x21 : Bool) (x22 : Bool) (x23 : Bool) : Option (((List (List Int)) × Int) ⊕ (((List (List Int)) × Int) ⊕ ((List (List Int)) × Int))) :=
 chk (0 ≤ r14.1 ∧ r14.1 < out15.length) <|
 ((out15)[r14.1.toNat]?).bind fun out_e24 =>
 (Qr out_e24 x_x19).bind fun r25 =>
 chk (0 ≤ x_x19 ∧ x_x19 < out15.length) <|
 ((out15)[x_x19.toNat]?).bind fun out_e26 =>
 (Qr out_e26 r14.1).bind fun r27 =>
 chk (0 ≤ r14.1 ∧ r14.1 < out15.length) <|
 ((out15)[r14.1.toNat]?).bind fun _ =>
 chk (0 ≤ x_x19 ∧ x_x19 < (out15.set r14.1.toNat r25).length) <|
 ((out15.set r14.1.toNat r25)[x_x19.toNat]?).bind fun _ =>
 cnt ((out15.set r14.1.toNat r25).set x_x19.toNat r27,IntKind.i64.wrap (i16 + 1))
noncomputable def Uy (l2 : Mf) (k6 : Int) (i16 : Int) (r14 : Int × Bool) (out15 : List (List Int)) (strict3 : Bool) (x_x13 : LU) : Option (((List (List Int)) × Int) ⊕ (((List (List Int)) × Int) ⊕ ((List (List Int)) × Int))) :=
 (ixO l2.Out k6).bind fun x_x18 =>
 (ixO x_x18 i16).bind fun x_x19 =>
 bif (x_x19 == r14.1) then
  cnt (out15,IntKind.i64.wrap (i16 + 1))
 else
  bif (!strict3) then
   bif (x_x13.Op == 17) then
    bif (x_x13.B == x_x19) then
     cnt (out15,IntKind.i64.wrap (i16 + 1))
    else
     OI r14 out15 x_x19 i16 true (x_x13.Op == 17) true (x_x13.B == x_x19)
   else
    OI r14 out15 x_x19 i16 true (x_x13.Op == 17) false false
  else
   OI r14 out15 x_x19 i16 false false false false
noncomputable def Pu (k6 : Int) (x7 : Int) (x8 : Int) (x9 : Int) (x10 : Int) (x11 : Int) (out12 : List (List Int)) : Option (((List (List Int)) × Int) ⊕ ((List (List Int)) × Int)) :=
 cnt (out12,IntKind.i64.wrap (k6 + 1))
noncomputable def Sc (l2 : Mf) (k6 : Int) (r14 : Int × Bool) (strict3 : Bool) (x_x13 : LU) (out15 : List (List Int)) (i16 : Int) : Option (((List (List Int)) × Int) ⊕ (((List (List Int)) × Int) ⊕ ((List (List Int)) × Int))) :=
 (ixO l2.Out k6).bind fun x_x17 =>
 bif (decide (i16 < (x_x17.length : Int))) then
  bif r14.2 then
   Uy l2 k6 i16 r14 out15 strict3 x_x13
  else
   lft (Pu k6 x_x13.Op x_x13.A x_x13.B x_x13.C x_x13.Imm out15)
 else
  lft (Pu k6 x_x13.Op x_x13.A x_x13.B x_x13.C x_x13.Imm out15)
noncomputable def Qy (l2 : Mf) (k6 : Int) (r14 : Int × Bool) (strict3 : Bool) (x_x13 : LU) (out5 : List (List Int)) : Option (((List (List Int)) × Int) ⊕ ((List (List Int)) × Int)) :=
 MD (fun s=>Sc l2 k6 r14 strict3 x_x13 s.1 s.2) (out5,0)
noncomputable def Ux (f1 : LY) (l2 : Mf) (strict3 : Bool) (out5 : List (List Int)) (k6 : Int) : Option (((List (List Int)) × Int) ⊕ ((List (List Int)) × Int)) :=
 bif (decide (k6 < (f1.Code.length : Int))) then
  (ixO f1.Code k6).bind fun x_x13 =>
  (Ou x_x13).bind fun r14 =>
  bif (x_x13.Op == 17) then
   bif (x_x13.A == x_x13.B) then
    Pu k6 x_x13.Op x_x13.A x_x13.B x_x13.C x_x13.Imm out5
   else
    Qy l2 k6 r14 strict3 x_x13 out5
  else
   Qy l2 k6 r14 strict3 x_x13 out5
 else
  lft (some (out5,0))
noncomputable def Tc (f1 : LY) (l2 : Mf) (strict3 : Bool) : Option ((List (List Int)) × Int) :=
 (SZ f1 l2).bind fun r4 =>
 bif (r4 != 0) then
  some (([] : List (List Int)),r4)
 else
  chk (0 ≤ (f1.Slots.length : Int) ∧ (f1.Slots.length : Int) ≤ 16777216) <|
  MD (fun s=>Ux f1 l2 strict3 s.1 s.2) (List.replicate (f1.Slots.length : Int).toNat ([] : (List Int)),0)

noncomputable def Vi (f1 : LY) (l2 : Mf) : Option ((List (List Int)) × Int) :=
 (Tc f1 l2 false).bind fun r3 =>
 some (r3.1,r3.2)

noncomputable def Sb (k3 : Int) (out4 : List MH) : Option (((List MH) × Int) ⊕ ((List MH))) :=
 cnt (out4,IntKind.i64.wrap (k3 + 1))
noncomputable def Uw (out2 : List MH) (x_x5 : LU) (k3 : Int) (old7 : Bool) (i8 : Int) : Option ((Bool × Int) ⊕ (((List MH) × Int) ⊕ ((List MH)))) :=
 bif (decide (i8 < (out2.length : Int))) then
  bif old7 then
   cnt (true,IntKind.i64.wrap (i8 + 1))
  else
   chk (0 ≤ i8 ∧ i8 < out2.length) <|
   ((out2)[i8.toNat]?).bind fun out_e9 =>
   cnt (((out_e9.a0 == x_x5.A) && ((out_e9.a1 == x_x5.B) && true)),IntKind.i64.wrap (i8 + 1))
 else
  lft (
   bif (!old7) then
    chk (out2.length + ([(MH.mk x_x5.A x_x5.B)] : List MH).length ≤ 16777216) <|
    Sb k3 (out2 ++ ([(MH.mk x_x5.A x_x5.B)] : List MH))
   else
    Sb k3 out2)
noncomputable def Qx (out2 : List MH) (x_x5 : LU) (k3 : Int) (old6 : Bool) : Option (((List MH) × Int) ⊕ ((List MH))) :=
 MD (fun s=>Uw out2 x_x5 k3 s.1 s.2) (old6,0)
noncomputable def Uv (f1 : LY) (out2 : List MH) (k3 : Int) : Option (((List MH) × Int) ⊕ ((List MH))) :=
 bif (decide (k3 < (f1.Code.length : Int))) then
  (ixO f1.Code k3).bind fun x_x5 =>
  bif (x_x5.Op != 17) then
   Qx out2 x_x5 k3 true
  else
   Qx out2 x_x5 k3 (x_x5.A == x_x5.B)
 else
  lft (some out2)
noncomputable def Tb (f1 : LY) : Option ((List MH)) :=
 MD (fun s=>Uv f1 s.1 s.2) (([] : List MH),0)

noncomputable def SG (to1 : (List Int)) (s2 : Int) (out3 : List Int) (t4 : Int) : Option (((List Int) × Int) ⊕ ((List Int))) :=
 bif (decide (t4 < (to1.length : Int))) then
  (ixO to1 t4).bind fun x_x5 =>
  bif (x_x5 == s2) then
   chk (out3.length + ([t4] : List Int).length ≤ 16777216) <|
   cnt (out3 ++ ([t4] : List Int),IntKind.i64.wrap (t4 + 1))
  else
   cnt (out3,IntKind.i64.wrap (t4 + 1))
 else
  lft (some out3)
noncomputable def Qd (to1 : (List Int)) (s2 : Int) : Option ((List Int)) :=
 MD (fun s=>SG to1 s2 s.1 s.2) (([] : List Int),0)

noncomputable def UB (i7 : Int) : Option ((Int) ⊕ (Bool)) :=
 cnt (IntKind.i64.wrap (i7 + 1))
noncomputable def UA (r6 : (List Int)) (i7 : Int) (r5 : (List Int)) (g1 : (List (List Int))) (k8 : Int) : Option ((Int) ⊕ ((Int) ⊕ (Bool))) :=
 bif (decide (k8 < (r6.length : Int))) then
  chk (0 ≤ i7 ∧ i7 < r5.length) <|
  ((r5)[i7.toNat]?).bind fun x_e9 =>
  (ixO g1 x_e9).bind fun x_x10 =>
  chk (0 ≤ k8 ∧ k8 < r6.length) <|
  ((r6)[k8.toNat]?).bind fun y_e11 =>
  (Sl x_x10 y_e11).bind fun r12 =>
  bif r12 then
   lft (lft (some false))
  else
   cnt (IntKind.i64.wrap (k8 + 1))
 else
  lft (UB i7)
noncomputable def Uz (r5 : (List Int)) (r6 : (List Int)) (g1 : (List (List Int))) (i7 : Int) : Option ((Int) ⊕ (Bool)) :=
 bif (decide (i7 < (r5.length : Int))) then
  MD (fun s=>UA r6 i7 r5 g1 s) 0
 else
  lft (some true)
noncomputable def Td (g1 : (List (List Int))) (to2 : (List Int)) (a3 : Int) (b4 : Int) : Option (Bool) :=
 (Qd to2 a3).bind fun r5 =>
 (Qd to2 b4).bind fun r6 =>
 MD (fun s=>Uz r5 r6 g1 s) 0

noncomputable def Pv (s17 : Int) (to16 : List Int) (to_e10 : Int) (to_e12 : Int) (x18 : Bool) : Option (((List Int) × Int) ⊕ (((List Int) × Int) ⊕ ((List Int)))) :=
 bif x18 then
  chk (0 ≤ s17 ∧ s17 < to16.length) <|
  ((to16)[s17.toNat]?).bind fun _ =>
  cnt (to16.set s17.toNat (On to_e10 to_e12),IntKind.i64.wrap (s17 + 1))
 else
  cnt (to16,IntKind.i64.wrap (s17 + 1))
noncomputable def NZ (i7 : Int) (to8 : List Int) : Option (((List Int) × Int) ⊕ ((List Int))) :=
 cnt (to8,IntKind.i64.wrap (i7 + 1))
noncomputable def SE (to_e10 : Int) (to_e12 : Int) (i7 : Int) (to16 : List Int) (s17 : Int) : Option (((List Int) × Int) ⊕ (((List Int) × Int) ⊕ ((List Int)))) :=
 bif (decide (s17 < (to16.length : Int))) then
  chk (0 ≤ s17 ∧ s17 < to16.length) <|
  ((to16)[s17.toNat]?).bind fun to_e19 =>
  bif (to_e19 == to_e10) then
   Pv s17 to16 to_e10 to_e12 true
  else
   chk (0 ≤ s17 ∧ s17 < to16.length) <|
   ((to16)[s17.toNat]?).bind fun to_e20 =>
   Pv s17 to16 to_e10 to_e12 (to_e20 == to_e12)
 else
  lft (NZ i7 to16)
noncomputable def SF (to_e10 : Int) (to_e12 : Int) (i7 : Int) (to6 : List Int) (x13 : Bool) (x14 : Bool) : Option (((List Int) × Int) ⊕ ((List Int))) :=
 MD (fun s=>SE to_e10 to_e12 i7 s.1 s.2) (to6,0)
noncomputable def SD (r5 : (List MH)) (g2 : (List (List Int))) (to6 : List Int) (i7 : Int) : Option (((List Int) × Int) ⊕ ((List Int))) :=
 bif (decide (i7 < (r5.length : Int))) then
  chk (0 ≤ i7 ∧ i7 < r5.length) <|
  ((r5)[i7.toNat]?).bind fun moves_e9 =>
  chk (0 ≤ moves_e9.a0 ∧ moves_e9.a0 < to6.length) <|
  ((to6)[moves_e9.a0.toNat]?).bind fun to_e10 =>
  chk (0 ≤ i7 ∧ i7 < r5.length) <|
  ((r5)[i7.toNat]?).bind fun moves_e11 =>
  chk (0 ≤ moves_e11.a1 ∧ moves_e11.a1 < to6.length) <|
  ((to6)[moves_e11.a1.toNat]?).bind fun to_e12 =>
  bif (to_e10 == to_e12) then
   NZ i7 to6
  else
   (Td g2 to6 to_e10 to_e12).bind fun r15 =>
   bif (!r15) then
    NZ i7 to6
   else
    SF to_e10 to_e12 i7 to6 r15 (!r15)
 else
  lft (some to6)
noncomputable def SC (f1 : LY) (g2 : (List (List Int))) (to3 : List Int) (s4 : Int) : Option (((List Int) × Int) ⊕ ((List Int))) :=
 bif (decide (s4 < (f1.Slots.length : Int))) then
  chk (to3.length + ([s4] : List Int).length ≤ 16777216) <|
  cnt (to3 ++ ([s4] : List Int),IntKind.i64.wrap (s4 + 1))
 else
  lft (
   (Tb f1).bind fun r5 =>
   MD (fun s=>SD r5 g2 s.1 s.2) (to3,0))
noncomputable def Rg (f1 : LY) (g2 : (List (List Int))) : Option ((List Int)) :=
 MD (fun s=>SC f1 g2 s.1 s.2) (([] : List Int),0)

noncomputable def UE (f1 : LY) (l2 : Mf) (k3 : Int) : Option (Bool) :=
 (ixO f1.Code k3).bind fun x_x4 =>
 (Ou x_x4).bind fun r5 =>
 bif r5.2 then
  (ixO l2.Out k3).bind fun x_x6 =>
  (Sl x_x6 r5.1).bind fun r7 =>
  some (!r7)
 else
  some false

noncomputable def Vs (f1 : LY) (l2 : Mf) (to3 : (List Int)) (out4 : List Bool) (k5 : Int) : Option (((List Bool) × Int) ⊕ ((List Bool))) :=
 bif (decide (k5 < (f1.Code.length : Int))) then
  (ixO f1.Code k5).bind fun x_x6 =>
  (UE f1 l2 k5).bind fun r7 =>
  bif (!r7) then
   bif (x_x6.Op == 17) then
    (ixO to3 x_x6.A).bind fun x_x8 =>
    (ixO to3 x_x6.B).bind fun x_x9 =>
    chk (out4.length + ([(!(x_x8 == x_x9))] : List Bool).length ≤ 16777216) <|
    cnt (out4 ++ ([(!(x_x8 == x_x9))] : List Bool),IntKind.i64.wrap (k5 + 1))
   else
    chk (out4.length + ([true] : List Bool).length ≤ 16777216) <|
    cnt (out4 ++ ([true] : List Bool),IntKind.i64.wrap (k5 + 1))
  else
   chk (out4.length + ([false] : List Bool).length ≤ 16777216) <|
   cnt (out4 ++ ([false] : List Bool),IntKind.i64.wrap (k5 + 1))
 else
  lft (some out4)
noncomputable def UC (f1 : LY) (l2 : Mf) (to3 : (List Int)) : Option ((List Bool)) :=
 MD (fun s=>Vs f1 l2 to3 s.1 s.2) (([] : List Bool),0)

noncomputable def MQ (codes1 : (List Int)) : Option (Bool) :=
 (SV).bind fun r2 =>
 bif (!r2) then
  some false
 else
  (Xk codes1 300).bind fun r3 =>
  (Oz r3 3 16).bind fun r4 =>
  (Mi r4.2 (r4.1.Funcs.length : Int)).bind fun r5 =>
  (ixO r4.1.Funcs r5.1).bind fun x_x6 =>
  (Pq r5.2 x_x6).bind fun r7 =>
  (Vi x_x6 r7.1).bind fun r8 =>
  (Rg x_x6 r8.1).bind fun r9 =>
  bif (r8.2 == 0) then
   (UC x_x6 r7.1 r9).bind fun r10 =>
   (OJ x_x6 r7.1 (ML.mk r9 r10)).bind fun r11 =>
   some (r11 == 0)
  else
   some false

end Go.Proofs.YtfpgidpffhmadaaGreatDoor
