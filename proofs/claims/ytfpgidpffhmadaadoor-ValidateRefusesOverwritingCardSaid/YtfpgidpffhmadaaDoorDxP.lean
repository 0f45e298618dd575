/-
 The programs on typed data; written by a program (dx.py).
-/
import Derived.Test.YtfpgidpffhmadaaDoorDxT
namespace Go.Proofs.YtfpgidpffhmadaaDoor
open Go Go.Dw Go.Proofs
set_option maxRecDepth 100000
noncomputable def Nw (n1 : Int) : Option (Bool) :=
 bif (decide (n1 ≥ 0)) then
  some (decide (n1 < 512))
 else
  some false

noncomputable def Oe (s1 : (List Int)) (x2 : Int) : Option ((Int) ⊕ (Bool)) :=
 bif (decide (x2 < (s1.length : Int))) then
  (ixO s1 x2).bind fun x_x3 =>
  (Nw x_x3).bind fun r4 =>
  bif (!r4) then
   lft (some false)
  else
   bif (decide (x2 > 0)) then
    (ixO s1 (IntKind.i64.wrap (x2 - 1))).bind fun x_x5 =>
    bif (decide (x_x3 ≤ x_x5)) then
     lft (some false)
    else
     cnt (IntKind.i64.wrap (x2 + 1))
   else
    cnt (IntKind.i64.wrap (x2 + 1))
 else
  lft (some true)
noncomputable def Rx (s1 : (List Int)) : Option (Bool) :=
 ME (fun s=>Oe s1 s) 0

noncomputable def NP (s1 : (List Int)) (cap2 : LX) : Option (Bool) :=
 (Rx s1).bind fun r3 =>
 bif (!r3) then
  some true
 else
  bif (decide ((s1.length : Int) > 0)) then
   (ixO s1 (IntKind.i64.wrap ((s1.length : Int) - 1))).bind fun x_x4 =>
   some (decide (x_x4 ≥ (cap2.Slots.length : Int)))
  else
   some false

noncomputable def Nm (s1 : (List (List Int))) (f2 : LX) (x3 : Int) : Option ((Int) ⊕ (Int)) :=
 bif (decide (x3 < (s1.length : Int))) then
  (ixO s1 x3).bind fun x_x4 =>
  (NP x_x4 f2).bind fun r5 =>
  bif r5 then
   lft (some x3)
  else
   cnt (IntKind.i64.wrap (x3 + 1))
 else
  lft (some (-1))
noncomputable def MO (s1 : (List (List Int))) (f2 : LX) : Option (Int) :=
 ME (fun s=>Nm s1 f2 s) 0

noncomputable def MS (s1 : (List (List Int))) (f2 : LX) : Option (Bool) :=
 (MO s1 f2).bind fun r3 =>
 some (decide (r3 ≥ 0))

noncomputable def Ot (f1 : LX) (l2 : Me) : Option (Bool) :=
 bif ((l2.Out.length : Int) == (f1.Code.length : Int)) then
  (MS l2.Out f1).bind fun r3 =>
  some (!r3)
 else
  some false

noncomputable def RF (l1 : Me) : Option (Me) :=
 some l1

noncomputable def RL (op1 : Int) : Option (Bool) :=
 bif (op1 == 20) then
  some true
 else
  bif (op1 == 23) then
   some true
  else
   some (op1 == 24)

noncomputable def Tx (x_x3 : LS) (l4 : List Int) : Option ((List Int)) :=
 bif (x_x3.Op == 20) then
  chk (l4.length + ([x_x3.A] : List Int).length ≤ 16777216) <|
  chk ((l4 ++ ([x_x3.A] : List Int)).length < 4611686018427387904) <|
  chk ((NI (l4 ++ ([x_x3.A] : List Int))).length < 4611686018427387904) <|
  some (Lib.compact (NI (l4 ++ ([x_x3.A] : List Int))))
 else
  bif (x_x3.Op == 21) then
   chk (l4.length + ([x_x3.B] : List Int).length ≤ 16777216) <|
   chk ((l4 ++ ([x_x3.B] : List Int)).length < 4611686018427387904) <|
   chk ((NI (l4 ++ ([x_x3.B] : List Int))).length < 4611686018427387904) <|
   some (Lib.compact (NI (l4 ++ ([x_x3.B] : List Int))))
  else
   chk (l4.length < 4611686018427387904) <|
   chk ((NI l4).length < 4611686018427387904) <|
   some (Lib.compact (NI l4))
noncomputable def VC (f1 : LX) (k2 : Int) : Option ((List Int)) :=
 (ixO f1.Code k2).bind fun x_x3 =>
 (RL x_x3.Op).bind fun r5 =>
 bif (!r5) then
  chk (([] : List Int).length + ([IntKind.i64.wrap (k2 + 1)] : List Int).length ≤ 16777216) <|
  Tx x_x3 (([] : List Int) ++ ([IntKind.i64.wrap (k2 + 1)] : List Int))
 else
  Tx x_x3 ([] : List Int)
noncomputable def Vi (f1 : LX) (k2 : Int) : Option ((List Int)) :=
 bif (decide (k2 < 0)) then
  some ([] : List Int)
 else
  bif (decide (k2 ≥ (f1.Code.length : Int))) then
   some ([] : List Int)
  else
   VC f1 k2

noncomputable def Pd (j1 : Int) (cap2 : Me) : Option ((List Int)) :=
 (ixO cap2.Out j1).bind fun x_x3 =>
 some x_x3

noncomputable def OB (x1 : LS) : Option (Int × Bool) :=
 bif (x1.Op == 16) then
  bif (x1.Op == 16) then
   some (x1.A,true)
  else
   some (0,false)
 else
  bif (x1.Op == 17) then
   some (x1.A,true)
  else
   some (0,false)

noncomputable def NS (s1 : LW) (n2 : Int) (in3 : Bool) : Option (LW) :=
 chk (0 ≤ ((IntKind.u64.wrap (n2)).tmod 64)) <|
 (Nw n2).bind fun r4 =>
 bif (!r4) then
  some s1
 else
  bif in3 then
   chk (0 ≤ (IntKind.i64.wrap (n2.tdiv 64)) ∧ (IntKind.i64.wrap (n2.tdiv 64)) < 8) <|
   ((s1.toList)[(IntKind.i64.wrap (n2.tdiv 64)).toNat]?).bind fun s_e5 =>
   chk (0 ≤ (IntKind.i64.wrap (n2.tdiv 64)) ∧ (IntKind.i64.wrap (n2.tdiv 64)) < 8) <|
   ((s1.toList)[(IntKind.i64.wrap (n2.tdiv 64)).toNat]?).bind fun _ =>
   some (s1.set ((IntKind.i64.wrap (n2.tdiv 64)).toNat) (IntKind.u64.wrap ((BitVec.ofInt IntKind.u64.bits s_e5 ||| BitVec.ofInt IntKind.u64.bits (IntKind.u64.wrap (1 * 2 ^ (Nat.min ((IntKind.u64.wrap (n2)).tmod 64).toNat IntKind.u64.bits)))).toNat)))
  else
   chk (0 ≤ (IntKind.i64.wrap (n2.tdiv 64)) ∧ (IntKind.i64.wrap (n2.tdiv 64)) < 8) <|
   ((s1.toList)[(IntKind.i64.wrap (n2.tdiv 64)).toNat]?).bind fun s_e7 =>
   chk (0 ≤ (IntKind.i64.wrap (n2.tdiv 64)) ∧ (IntKind.i64.wrap (n2.tdiv 64)) < 8) <|
   ((s1.toList)[(IntKind.i64.wrap (n2.tdiv 64)).toNat]?).bind fun _ =>
   some (s1.set ((IntKind.i64.wrap (n2.tdiv 64)).toNat) (IntKind.u64.wrap ((BitVec.ofInt IntKind.u64.bits s_e7 &&& ~~~ BitVec.ofInt IntKind.u64.bits (IntKind.u64.wrap (1 * 2 ^ (Nat.min ((IntKind.u64.wrap (n2)).tmod 64).toNat IntKind.u64.bits)))).toNat)))

noncomputable def RW (l1 : (List Int)) (x2 : LW) (x3 : Int) : Option ((LW × Int) ⊕ (LW)) :=
 bif (decide (x3 < (l1.length : Int))) then
  (ixO l1 x3).bind fun x_x4 =>
  (NS x2 x_x4 true).bind fun r5 =>
  cnt (r5,IntKind.i64.wrap (x3 + 1))
 else
  lft (some x2)
noncomputable def NC (l1 : (List Int)) : Option (LW) :=
 ME (fun s=>RW l1 s.1 s.2) ((LW.mk 0 0 0 0 0 0 0 0),0)

noncomputable def Pp (x3 : Int) (l5 : List Int) (x6 : Int) : Option (((List Int) × Int) ⊕ (((List Int) × Int) ⊕ ((List Int) × LW))) :=
 bif (x6 != 0) then
  (AaA x6).bind fun r7 =>
  chk (l5.length + ([IntKind.i64.wrap ((IntKind.i64.wrap (64 * x3)) + r7)] : List Int).length ≤ 16777216) <|
  cnt (l5 ++ ([IntKind.i64.wrap ((IntKind.i64.wrap (64 * x3)) + r7)] : List Int),IntKind.u64.wrap ((BitVec.ofInt IntKind.u64.bits x6 &&& BitVec.ofInt IntKind.u64.bits (IntKind.u64.wrap (x6 - 1))).toNat))
 else
  lft (cnt (l5,IntKind.i64.wrap (x3 + 1)))
noncomputable def Po (s1 : LW) (l2 : List Int) (x3 : Int) : Option (((List Int) × Int) ⊕ ((List Int) × LW)) :=
 bif (decide (x3 < 8)) then
  chk (0 ≤ x3 ∧ x3 < 8) <|
  ((s1.toList)[x3.toNat]?).bind fun s_e4 =>
  ME (fun s=>Pp x3 s.1 s.2) (l2,s_e4)
 else
  lft (some (l2,s1))
noncomputable def Na (s1 : LW) : Option ((List Int) × LW) :=
 ME (fun s=>Po s1 s.1 s.2) (([] : List Int),0)

noncomputable def PQ (s1 : (List Int)) (n2 : Int) : Option ((List Int)) :=
 (NC s1).bind fun r3 =>
 (NS r3 n2 false).bind fun r4 =>
 (Na r4).bind fun r5 =>
 some r5.1

noncomputable def Rm (x1 : LS) : Option ((List Int)) :=
 bif (x1.Op == 15) then
  bif (x1.Op == 15) then
   some ([x1.B] : List Int)
  else
   some ([] : List Int)
 else
  bif (x1.Op == 17) then
   some ([x1.B] : List Int)
  else
   some ([] : List Int)

noncomputable def RT (l1 : (List Int)) : Option ((List Int)) :=
 (NC l1).bind fun r2 =>
 (Na r2).bind fun r3 =>
 some r3.1

noncomputable def Ql (x1 : Int) (y2 : Int) : Option (Int) :=
 some (IntKind.u64.wrap ((BitVec.ofInt IntKind.u64.bits x1 ||| BitVec.ofInt IntKind.u64.bits y2).toNat))

noncomputable def Nj (s1 : LW) (t2 : LW) (x3 : LW) (x4 : Int) : Option ((LW × Int) ⊕ (LW × LW × LW)) :=
 bif (decide (x4 < 8)) then
  chk (0 ≤ x4 ∧ x4 < 8) <|
  ((s1.toList)[x4.toNat]?).bind fun s_e5 =>
  chk (0 ≤ x4 ∧ x4 < 8) <|
  ((t2.toList)[x4.toNat]?).bind fun t_e6 =>
  (Ql s_e5 t_e6).bind fun r7 =>
  chk (0 ≤ x4 ∧ x4 < 8) <|
  ((x3.toList)[x4.toNat]?).bind fun _ =>
  cnt ((x3.set x4.toNat r7),IntKind.i64.wrap (x4 + 1))
 else
  lft (some (x3,s1,t2))
noncomputable def Nd (s1 : LW) (t2 : LW) : Option (LW × LW × LW) :=
 ME (fun s=>Nj s1 t2 s.1 s.2) ((LW.mk 0 0 0 0 0 0 0 0),0)

noncomputable def OL (a1 : (List Int)) (b2 : (List Int)) : Option ((List Int)) :=
 (NC a1).bind fun r3 =>
 (NC b2).bind fun r4 =>
 (Nd r3 r4).bind fun r5 =>
 (Na r5.1).bind fun r6 =>
 some r6.1

noncomputable def Vh (x1 : LS) (out2 : (List Int)) : Option ((List Int)) :=
 (OB x1).bind fun r3 =>
 bif r3.2 then
  (PQ out2 r3.1).bind fun r4 =>
  (Rm x1).bind fun r5 =>
  (RT r5).bind fun r6 =>
  (OL r4 r6).bind fun r7 =>
  some r7
 else
  (Rm x1).bind fun r8 =>
  (RT r8).bind fun r9 =>
  (OL out2 r9).bind fun r10 =>
  some r10

noncomputable def Qk (x1 : Int) (y2 : Int) : Option (Int) :=
 some (IntKind.u64.wrap ((BitVec.ofInt IntKind.u64.bits x1 &&& ~~~ BitVec.ofInt IntKind.u64.bits y2).toNat))

noncomputable def Ni (s1 : LW) (t2 : LW) (x3 : LW) (x4 : Int) : Option ((LW × Int) ⊕ (LW × LW × LW)) :=
 bif (decide (x4 < 8)) then
  chk (0 ≤ x4 ∧ x4 < 8) <|
  ((s1.toList)[x4.toNat]?).bind fun s_e5 =>
  chk (0 ≤ x4 ∧ x4 < 8) <|
  ((t2.toList)[x4.toNat]?).bind fun t_e6 =>
  (Qk s_e5 t_e6).bind fun r7 =>
  chk (0 ≤ x4 ∧ x4 < 8) <|
  ((x3.toList)[x4.toNat]?).bind fun _ =>
  cnt ((x3.set x4.toNat r7),IntKind.i64.wrap (x4 + 1))
 else
  lft (some (x3,s1,t2))
noncomputable def Nc (s1 : LW) (t2 : LW) : Option (LW × LW × LW) :=
 ME (fun s=>Ni s1 t2 s.1 s.2) ((LW.mk 0 0 0 0 0 0 0 0),0)

noncomputable def Qs (a1 : (List Int)) (b2 : (List Int)) : Option ((List Int)) :=
 (NC a1).bind fun r3 =>
 (NC b2).bind fun r4 =>
 (Nc r3 r4).bind fun r5 =>
 (Na r5.1).bind fun r6 =>
 some r6.1

noncomputable def NH (need1 : (List Int)) (cap2 : (List Int)) (cap3 : Me) (cap4 : Int) : Option (Bool × (List Int)) :=
 (ixO cap3.Out cap4).bind fun x_x5 =>
 (Qs need1 x_x5).bind fun r6 =>
 (OL cap2 r6).bind fun r7 =>
 some (true,r7)

noncomputable def MJ (r7 : (List Int)) (f1 : LX) (set3 : Me) (visit5 : Me) (visit6 : Int) (x8 : List Int) (x9 : Int) : Option (((List Int) × Int) ⊕ (Bool × (List Int))) :=
 bif (decide (x9 < (r7.length : Int))) then
  chk (0 ≤ x9 ∧ x9 < r7.length) <|
  ((r7)[x9.toNat]?).bind fun x_e10 =>
  (ixO f1.Code x_e10).bind fun x_x11 =>
  (Pd x_e10 set3).bind fun r12 =>
  (Vh x_x11 r12).bind fun r13 =>
  (NH r13 x8 visit5 visit6).bind fun r14 =>
  bif (!r14.1) then
   lft (some (false,r14.2))
  else
   cnt (r14.2,IntKind.i64.wrap (x9 + 1))
 else
  lft (some (true,x8))
noncomputable def MN (f1 : LX) (k2 : Int) (set3 : Me) (visit4 : (List Int)) (visit5 : Me) (visit6 : Int) : Option (Bool × (List Int)) :=
 (Vi f1 k2).bind fun r7 =>
 ME (fun s=>MJ r7 f1 set3 visit5 visit6 s.1 s.2) (visit4,0)

noncomputable def Re (f1 : LX) (l2 : Me) (x4 : Int) : Option ((Int) ⊕ (Int × Int × Bool)) :=
 bif (decide (x4 < (f1.Code.length : Int))) then
  (RF l2).bind fun r5 =>
  (MN f1 x4 r5 ([]) l2 x4).bind fun r6 =>
  bif (decide ((r6.2.length : Int) > 0)) then
   (ixO r6.2 0).bind fun x_x7 =>
   lft (some (x4,x_x7,true))
  else
   cnt (IntKind.i64.wrap (x4 + 1))
 else
  lft (some (0,0,false))
noncomputable def PG (f1 : LX) (l2 : Me) : Option (Int × Int × Bool) :=
 (Ot f1 l2).bind fun r3 =>
 bif (!r3) then
  some (0,0,false)
 else
  ME (fun s=>Re f1 l2 s) 0

noncomputable def OO (f1 : LX) (l2 : Me) : Option (Int) :=
 (Ot f1 l2).bind fun r3 =>
 bif (!r3) then
  some 11
 else
  (PG f1 l2).bind fun r4 =>
  bif r4.2.2 then
   some 11
  else
   some 0

noncomputable def Ru (to2 : (List Int)) (f1 : LX) (x3 : Int) : Option ((Int) ⊕ (Bool)) :=
 bif (decide (x3 < (to2.length : Int))) then
  (ixO to2 x3).bind fun x_x4 =>
  bif (decide (x_x4 < 0)) then
   lft (some false)
  else
   bif (decide (x_x4 ≥ (to2.length : Int))) then
    lft (some false)
   else
    (ixO f1.Slots x_x4).bind fun x_x5 =>
    (ixO f1.Slots x3).bind fun x_x6 =>
    bif (x_x5.Size != x_x6.Size) then
     lft (some false)
    else
     (ixO to2 x_x4).bind fun x_x7 =>
     bif (x_x7 != x_x4) then
      lft (some false)
     else
      cnt (IntKind.i64.wrap (x3 + 1))
 else
  lft (some true)
noncomputable def Qm (f1 : LX) (to2 : (List Int)) : Option (Bool) :=
 bif ((to2.length : Int) != (f1.Slots.length : Int)) then
  some false
 else
  ME (fun s=>Ru to2 f1 s) 0

noncomputable def Qu (x1 : LS) : Option (Bool) :=
 (OB x1).bind fun r2 =>
 some r2.2

noncomputable def Sk (f1 : LX) (r2 : MD) (x4 : Int) : Option ((Int) ⊕ (Int)) :=
 bif (decide (x4 < (f1.Code.length : Int))) then
  (ixO f1.Code x4).bind fun x_x5 =>
  (ixO r2.Keep x4).bind fun x_x6 =>
  bif (!x_x6) then
   (Qu x_x5).bind fun r7 =>
   bif (!r7) then
    lft (some 12)
   else
    cnt (IntKind.i64.wrap (x4 + 1))
  else
   cnt (IntKind.i64.wrap (x4 + 1))
 else
  lft (some 0)
noncomputable def Sl (f1 : LX) (r2 : MD) : Option (Int) :=
 ME (fun s=>Sk f1 r2 s) 0
noncomputable def PT (f1 : LX) (r2 : MD) : Option (Int) :=
 (Qm f1 r2.To).bind fun r3 =>
 bif (!r3) then
  some 12
 else
  bif ((r2.Keep.length : Int) != (f1.Code.length : Int)) then
   some 12
  else
   Sl f1 r2

noncomputable def NB (x_x9 : (List Int)) (cap3 : MD) (k1 : Int) (r6 : Int × Bool) (x10 : Int) : Option ((Int) ⊕ (Int × Bool)) :=
 bif (decide (x10 < (x_x9.length : Int))) then
  (ixO x_x9 x10).bind fun x_x11 =>
  (ixO cap3.Keep k1).bind fun x_x12 =>
  bif (x_x12 == (x_x11 != r6.1)) then
   (ixO cap3.To x_x11).bind fun x_x13 =>
   (ixO cap3.To r6.1).bind fun x_x14 =>
   bif (x_x13 == x_x14) then
    lft (some (x_x11,true))
   else
    cnt (IntKind.i64.wrap (x10 + 1))
  else
   cnt (IntKind.i64.wrap (x10 + 1))
 else
  lft (some (0,false))
noncomputable def MQ (cap4 : Me) (k1 : Int) (cap3 : MD) (r6 : Int × Bool) : Option (Int × Bool) :=
 (ixO cap4.Out k1).bind fun x_x9 =>
 ME (fun s=>NB x_x9 cap3 k1 r6 s) 0
noncomputable def MU (k1 : Int) (cap2 : LX) (cap3 : MD) (cap4 : Me) : Option (Int × Bool) :=
 (ixO cap2.Code k1).bind fun x_x5 =>
 (OB x_x5).bind fun r6 =>
 bif (!r6.2) then
  some (0,false)
 else
  bif (x_x5.Op == 17) then
   (ixO cap3.To x_x5.A).bind fun x_x7 =>
   (ixO cap3.To x_x5.B).bind fun x_x8 =>
   bif (x_x7 == x_x8) then
    some (0,false)
   else
    MQ cap4 k1 cap3 r6
  else
   MQ cap4 k1 cap3 r6

noncomputable def Qg (f1 : LX) (r3 : MD) (l2 : Me) (x6 : Int) : Option ((Int) ⊕ (Int × Int × Bool)) :=
 bif (decide (x6 < (f1.Code.length : Int))) then
  (MU x6 f1 r3 l2).bind fun r7 =>
  bif r7.2 then
   lft (some (x6,r7.1,true))
  else
   cnt (IntKind.i64.wrap (x6 + 1))
 else
  lft (some (0,0,false))
noncomputable def Qh (f1 : LX) (r3 : MD) (l2 : Me) : Option (Int × Int × Bool) :=
 ME (fun s=>Qg f1 r3 l2 s) 0
noncomputable def OV (f1 : LX) (l2 : Me) (r3 : MD) : Option (Int × Int × Bool) :=
 (OO f1 l2).bind fun r4 =>
 bif (r4 != 0) then
  some (0,0,false)
 else
  (PT f1 r3).bind fun r5 =>
  bif (r5 != 0) then
   some (0,0,false)
  else
   Qh f1 r3 l2

noncomputable def Oc (f1 : LX) (l2 : Me) (r3 : MD) : Option (Int) :=
 (OO f1 l2).bind fun r4 =>
 bif (r4 != 0) then
  some 11
 else
  (PT f1 r3).bind fun r5 =>
  bif (r5 != 0) then
   some 12
  else
   (OV f1 l2 r3).bind fun r6 =>
   bif r6.2.2 then
    some 12
   else
    some 0

noncomputable def Sx  : Option (Bool) :=
 (Oc (LX.mk 0 ([(Mq.mk 8 8),(Mq.mk 8 8)] : List Mq) ([(LS.mk 16 0 0 0 0),(LS.mk 16 1 0 0 0),(LS.mk 15 0 0 0 0),(LS.mk 23 0 0 0 0)] : List LS)) (Me.mk ([([0] : List Int),([0] : List Int),([] : List Int),([] : List Int)] : List (List Int))) (MD.mk ([0,1] : List Int) ([true,true,true,true] : List Bool))).bind fun r1 =>
 bif (r1 == 0) then
  (Oc (LX.mk 0 ([(Mq.mk 8 8),(Mq.mk 8 8)] : List Mq) ([(LS.mk 16 0 0 0 0),(LS.mk 16 1 0 0 0),(LS.mk 15 0 0 0 0),(LS.mk 23 0 0 0 0)] : List LS)) (Me.mk ([([0] : List Int),([0] : List Int),([] : List Int),([] : List Int)] : List (List Int))) (MD.mk ([0,0] : List Int) ([true,true,true,true] : List Bool))).bind fun r2 =>
  some (r2 == 12)
 else
  some false

noncomputable def Ws (list1 : (List Int)) (limit2 : Int) : Option (LU) :=
 chk (0 ≤ (VF (list1.length : Int) limit2) ∧ (VF (list1.length : Int) limit2) ≤ list1.length) <|
 some (LU.mk (list1.take (VF (list1.length : Int) limit2).toNat) 0)

noncomputable def QY (c1 : LU) : Option (Bool × LU) :=
 some ((decide (c1.at_ < (c1.list.length : Int))),c1)

noncomputable def Ra (n2 : Int) (c3 : List Int) (c4 : Int) : Option (Int × LU) :=
 (ixO c3 c4).bind fun x_x6 =>
 some (IntKind.i64.wrap ((IntKind.i64.wrap ((IntKind.i64.wrap (x_x6)) * n2)).tdiv 256),(LU.mk c3 (IntKind.i64.wrap (c4 + 1))))
noncomputable def Mh (c1 : LU) (n2 : Int) : Option (Int × LU) :=
 (QY c1).bind fun r5 =>
 bif (!r5.1) then
  some (0,r5.2)
 else
  bif (decide (n2 < 1)) then
   some (0,r5.2)
  else
   Ra n2 r5.2.list r5.2.at_

noncomputable def PC (c1 : LU) : Option (Mq × LU) :=
 (Mh c1 7).bind fun r2 =>
 chk (0 ≤ r2.1 ∧ r2.1 < ([8,4,8,1,2,16,8] : List Int).length) <|
 ((([8,4,8,1,2,16,8] : List Int))[r2.1.toNat]?).bind fun x_e3 =>
 (Mh r2.2 8).bind fun r4 =>
 chk (0 ≤ r4.1 ∧ r4.1 < ([8,4,1,8,16,2,32,64] : List Int).length) <|
 ((([8,4,1,8,16,2,32,64] : List Int))[r4.1.toNat]?).bind fun x_e5 =>
 some ((Mq.mk x_e3 x_e5),r4.2)

noncomputable def QD (c4 : List Int) (c5 : Int) (l6 : List Mq) (n7 : Int) : Option (((List Int) × Int × (List Mq) × Int) ⊕ ((List Mq) × LU)) :=
 bif (decide (n7 > 0)) then
  (PC (LU.mk c4 c5)).bind fun r8 =>
  chk (l6.length + ([r8.1] : List Mq).length ≤ 16777216) <|
  cnt (r8.2.list,r8.2.at_,l6 ++ ([r8.1] : List Mq),IntKind.i64.wrap (n7 - 1))
 else
  lft (some (l6,(LU.mk c4 c5)))
noncomputable def Ph (c1 : LU) (most2 : Int) : Option ((List Mq) × LU) :=
 (Mh c1 (IntKind.i64.wrap (most2 + 1))).bind fun r3 =>
 ME (fun s=>QD s.1 s.2.1 s.2.2.1 s.2.2.2) (r3.2.list,r3.2.at_,([] : List Mq),r3.1)

noncomputable def Rc (f2 : LX) (s3 : Int) (c1 : LU) (l4 : List Int) (k5 : Int) : Option (((List Int) × Int) ⊕ (Int × LU)) :=
 bif (decide (k5 < (f2.Slots.length : Int))) then
  (ixO f2.Slots k5).bind fun x_x6 =>
  (ixO f2.Slots s3).bind fun x_x7 =>
  bif (x_x6.Size == x_x7.Size) then
   chk (l4.length + ([k5] : List Int).length ≤ 16777216) <|
   cnt (l4 ++ ([k5] : List Int),IntKind.i64.wrap (k5 + 1))
  else
   cnt (l4,IntKind.i64.wrap (k5 + 1))
 else
  lft (
   (Mh c1 (l4.length : Int)).bind fun r8 =>
   chk (0 ≤ r8.1 ∧ r8.1 < l4.length) <|
   ((l4)[r8.1.toNat]?).bind fun l_e9 =>
   some (l_e9,r8.2))
noncomputable def PE (c1 : LU) (f2 : LX) (s3 : Int) : Option (Int × LU) :=
 ME (fun s=>Rc f2 s3 c1 s.1 s.2) (([] : List Int),0)

noncomputable def ON (c1 : LU) : Option (Int × LU) :=
 (Mh c1 6).bind fun r2 =>
 bif (r2.1 == 0) then
  (Mh r2.2 3).bind fun r3 =>
  some (IntKind.u64.wrap (18446744073709551615 - (IntKind.u64.wrap (r3.1))),r3.2)
 else
  bif (r2.1 == 1) then
   (Mh r2.2 64).bind fun r4 =>
   chk (0 ≤ r4.1) <|
   some (IntKind.u64.wrap (1 * 2 ^ (Nat.min r4.1.toNat IntKind.u64.bits)),r4.2)
  else
   bif (r2.1 == 2) then
    some (0,r2.2)
   else
    (Mh r2.2 256).bind fun r5 =>
    some (IntKind.u64.wrap (r5.1),r5.2)

noncomputable def Rb (params4 : (List Int)) (i3 : Int) (r23 : Int × LU) (c24 : List Int) (c25 : Int) (out26 : List LS) (a27 : Int) : Option (((List Int) × Int × (List LS) × Int) ⊕ ((List LS) × LU)) :=
 (ixO params4 (IntKind.i64.wrap ((IntKind.i64.wrap (i3 + 1)) + r23.1))).bind fun x_x28 =>
 bif (decide (a27 < x_x28)) then
  (Mh (LU.mk c24 c25) 8).bind fun r29 =>
  bif (decide (r29.1 < 7)) then
   (Mh r29.2 4).bind fun r30 =>
   chk (out26.length + ([(LS.mk 18 a27 r30.1 0 0)] : List LS).length ≤ 16777216) <|
   cnt (r30.2.list,r30.2.at_,out26 ++ ([(LS.mk 18 a27 r30.1 0 0)] : List LS),IntKind.i64.wrap (a27 + 1))
  else
   cnt (r29.2.list,r29.2.at_,out26,IntKind.i64.wrap (a27 + 1))
 else
  lft (
   chk (out26.length + ([(LS.mk 22 (IntKind.i64.wrap ((IntKind.i64.wrap (i3 + 1)) + r23.1)) 0 0 0)] : List LS).length ≤ 16777216) <|
   some (out26 ++ ([(LS.mk 22 (IntKind.i64.wrap ((IntKind.i64.wrap (i3 + 1)) + r23.1)) 0 0 0)] : List LS),(LU.mk c24 c25)))
noncomputable def Tt (r5 : Int × LU) (r6 : Int × LU) : Option ((List LS) × LU) :=
 some (([(LS.mk 14 r5.1 0 0 0)] : List LS),r6.2)
noncomputable def OA (r6 : Int × LU) (params4 : (List Int)) (i3 : Int) (r5 : Int × LU) (x22 : Bool) : Option ((List LS) × LU) :=
 bif x22 then
  (Mh r6.2 (IntKind.i64.wrap ((IntKind.i64.wrap ((params4.length : Int) - i3)) - 1))).bind fun r23 =>
  ME (fun s=>Rb params4 i3 r23 s.1 s.2.1 s.2.2.1 s.2.2.2) (r23.2.list,r23.2.at_,([] : List LS),0)
 else
  Tt r5 r6
noncomputable def Oz (r6 : Int × LU) (f2 : LX) (r5 : Int × LU) (params4 : (List Int)) (i3 : Int) (x20 : Bool) : Option ((List LS) × LU) :=
 bif x20 then
  (Mh r6.2 f2.Params).bind fun r21 =>
  some (([(LS.mk 19 r5.1 r21.1 0 0)] : List LS),r21.2)
 else
  bif (decide (r6.1 ≥ 17)) then
   OA r6 params4 i3 r5 (decide ((IntKind.i64.wrap (i3 + 1)) < (params4.length : Int)))
  else
   OA r6 params4 i3 r5 false
noncomputable def Oy (r6 : Int × LU) (f2 : LX) (r5 : Int × LU) (params4 : (List Int)) (i3 : Int) (x11 : Bool) : Option ((List LS) × LU) :=
 bif x11 then
  (Mh r6.2 (f2.Slots.length : Int)).bind fun r12 =>
  (PE r12.2 f2 r12.1).bind fun r13 =>
  some (([(LS.mk 17 r13.1 r12.1 0 0)] : List LS),r13.2)
 else
  bif (decide (r6.1 < 11)) then
   (ON r6.2).bind fun r14 =>
   some (([(LS.mk 0 r5.1 0 0 r14.1)] : List LS),r14.2)
  else
   bif (decide (r6.1 < 13)) then
    (Mh r6.2 10).bind fun r15 =>
    (Mh r15.2 4).bind fun r16 =>
    (Mh r16.2 8).bind fun r17 =>
    some (([(LS.mk (IntKind.i64.wrap (2 + r15.1)) r5.1 r16.1 r17.1 0)] : List LS),r17.2)
   else
    bif (decide (r6.1 < 15)) then
     some (([(LS.mk 14 r5.1 0 0 0)] : List LS),r6.2)
    else
     bif (r6.1 == 15) then
      (Mh r6.2 3).bind fun r18 =>
      chk (0 ≤ r18.1 ∧ r18.1 < ([13,12,1] : List Int).length) <|
      ((([13,12,1] : List Int))[r18.1.toNat]?).bind fun x_e19 =>
      some (([(LS.mk x_e19 r5.1 0 0 0)] : List LS),r18.2)
     else
      bif (r6.1 == 16) then
       Oz r6 f2 r5 params4 i3 (decide (f2.Params > 0))
      else
       Oz r6 f2 r5 params4 i3 false
noncomputable def Ox (r6 : Int × LU) (f2 : LX) (r5 : Int × LU) (params4 : (List Int)) (i3 : Int) (x9 : Bool) : Option ((List LS) × LU) :=
 bif x9 then
  (Mh r6.2 (f2.Slots.length : Int)).bind fun r10 =>
  some (([(LS.mk 15 r5.1 r10.1 0 0)] : List LS),r10.2)
 else
  bif (decide (r6.1 < 9)) then
   Oy r6 f2 r5 params4 i3 (decide ((f2.Slots.length : Int) > 0))
  else
   Oy r6 f2 r5 params4 i3 false
noncomputable def Ow (r6 : Int × LU) (f2 : LX) (r5 : Int × LU) (params4 : (List Int)) (i3 : Int) (x7 : Bool) : Option ((List LS) × LU) :=
 bif x7 then
  (Mh r6.2 (f2.Slots.length : Int)).bind fun r8 =>
  some (([(LS.mk 16 r8.1 r5.1 0 0)] : List LS),r8.2)
 else
  bif (decide (r6.1 < 6)) then
   Ox r6 f2 r5 params4 i3 (decide ((f2.Slots.length : Int) > 0))
  else
   Ox r6 f2 r5 params4 i3 false
noncomputable def PD (c1 : LU) (f2 : LX) (i3 : Int) (params4 : (List Int)) : Option ((List LS) × LU) :=
 (Mh c1 4).bind fun r5 =>
 (Mh r5.2 20).bind fun r6 =>
 bif (decide (r6.1 < 3)) then
  Ow r6 f2 r5 params4 i3 (decide ((f2.Slots.length : Int) > 0))
 else
  Ow r6 f2 r5 params4 i3 false

noncomputable def Ok (k32 : Int) (code31 : List LS) (r33 : Int × LU) (to34 : Int) (x35 : Bool) : Option (((List Int) × Int × (List LS) × Int) ⊕ (LX × LU)) :=
 bif x35 then
  chk (0 ≤ k32 ∧ k32 < code31.length) <|
  ((code31)[k32.toNat]?).bind fun code_o38 =>
  cnt (r33.2.list,r33.2.at_,code31.set k32.toNat (LS.mk code_o38.Op to34 code_o38.B code_o38.C code_o38.Imm),IntKind.i64.wrap (k32 + 1))
 else
  chk (0 ≤ k32 ∧ k32 < code31.length) <|
  ((code31)[k32.toNat]?).bind fun code_e39 =>
  bif (code_e39.Op == 21) then
   chk (0 ≤ k32 ∧ k32 < code31.length) <|
   ((code31)[k32.toNat]?).bind fun code_e40 =>
   bif (decide (code_e40.B < 0)) then
    chk (0 ≤ k32 ∧ k32 < code31.length) <|
    ((code31)[k32.toNat]?).bind fun code_o41 =>
    cnt (r33.2.list,r33.2.at_,code31.set k32.toNat (LS.mk code_o41.Op code_o41.A to34 code_o41.C code_o41.Imm),IntKind.i64.wrap (k32 + 1))
   else
    cnt (r33.2.list,r33.2.at_,code31,IntKind.i64.wrap (k32 + 1))
  else
   cnt (r33.2.list,r33.2.at_,code31,IntKind.i64.wrap (k32 + 1))
noncomputable def MX (k32 : Int) (code31 : List LS) (r33 : Int × LU) (to34 : Int) : Option (((List Int) × Int × (List LS) × Int) ⊕ (LX × LU)) :=
 chk (0 ≤ k32 ∧ k32 < code31.length) <|
 ((code31)[k32.toNat]?).bind fun code_e36 =>
 bif (code_e36.Op == 20) then
  chk (0 ≤ k32 ∧ k32 < code31.length) <|
  ((code31)[k32.toNat]?).bind fun code_e37 =>
  Ok k32 code31 r33 to34 (decide (code_e37.A < 0))
 else
  Ok k32 code31 r33 to34 false
noncomputable def Oj (x_x5 : Int) (f17 : List Mq) (c29 : List Int) (c30 : Int) (code31 : List LS) (k32 : Int) : Option (((List Int) × Int × (List LS) × Int) ⊕ (LX × LU)) :=
 bif (decide (k32 < (code31.length : Int))) then
  (Mh (LU.mk c29 c30) 8).bind fun r33 =>
  bif (decide ((IntKind.i64.wrap ((IntKind.i64.wrap (k32 + r33.1)) - 2)) < 0)) then
   MX k32 code31 r33 (IntKind.i64.wrap ((code31.length : Int) - 1))
  else
   bif (decide ((IntKind.i64.wrap ((IntKind.i64.wrap (k32 + r33.1)) - 2)) ≥ (code31.length : Int))) then
    MX k32 code31 r33 (IntKind.i64.wrap ((code31.length : Int) - 1))
   else
    MX k32 code31 r33 (IntKind.i64.wrap ((IntKind.i64.wrap (k32 + r33.1)) - 2))
 else
  lft (some ((LX.mk x_x5 f17 code31),(LU.mk c29 c30)))
noncomputable def ND (code16 : List LS) (x_x5 : Int) (f17 : List Mq) (c23 : List Int) (c24 : Int) (end25 : Int) (end26 : Int) : Option (LX × LU) :=
 chk (code16.length + ([(LS.mk end25 0 0 0 end26)] : List LS).length ≤ 16777216) <|
 ME (fun s=>Oj x_x5 f17 s.1 s.2.1 s.2.2.1 s.2.2.2) (c23,c24,code16 ++ ([(LS.mk end25 0 0 0 end26)] : List LS),0)
noncomputable def Ps (x_x5 : Int) (i2 : Int) (params3 : (List Int)) (c14 : List Int) (c15 : Int) (code16 : List LS) (f17 : List Mq) (n18 : Int) : Option (((List Int) × Int × (List LS) × (List Mq) × Int) ⊕ (LX × LU)) :=
 bif (decide (n18 > 0)) then
  (PD (LU.mk c14 c15) (LX.mk x_x5 f17 ([])) i2 params3).bind fun r19 =>
  chk (code16.length + r19.1.length ≤ 16777216) <|
  (Mh r19.2 9).bind fun r20 =>
  bif (r20.1 == 7) then
   (Mh r20.2 4).bind fun r21 =>
   chk ((code16 ++ r19.1).length + ([(LS.mk 21 r21.1 (-1) 0 0)] : List LS).length ≤ 16777216) <|
   cnt (r21.2.list,r21.2.at_,(code16 ++ r19.1) ++ ([(LS.mk 21 r21.1 (-1) 0 0)] : List LS),f17,IntKind.i64.wrap (n18 - 1))
  else
   bif (r20.1 == 8) then
    (Mh r20.2 3).bind fun r22 =>
    bif (r22.1 == 2) then
     chk ((code16 ++ r19.1).length + ([(LS.mk 20 (-1) 0 0 0)] : List LS).length ≤ 16777216) <|
     cnt (r22.2.list,r22.2.at_,(code16 ++ r19.1) ++ ([(LS.mk 20 (-1) 0 0 0)] : List LS),f17,IntKind.i64.wrap (n18 - 1))
    else
     cnt (r22.2.list,r22.2.at_,code16 ++ r19.1,f17,IntKind.i64.wrap (n18 - 1))
   else
    cnt (r20.2.list,r20.2.at_,code16 ++ r19.1,f17,IntKind.i64.wrap (n18 - 1))
 else
  lft (
   (Mh (LU.mk c14 c15) 12).bind fun r27 =>
   bif (r27.1 == 11) then
    (ON r27.2).bind fun r28 =>
    ND code16 x_x5 f17 r28.2.list r28.2.at_ 24 r28.1
   else
    ND code16 x_x5 f17 r27.2.list r27.2.at_ 23 0)
noncomputable def Pr (r6 : (List Mq) × LU) (most4 : Int) (x_x5 : Int) (i2 : Int) (params3 : (List Int)) (c7 : List Int) (c8 : Int) (code9 : List LS) (s10 : Int) : Option (((List Int) × Int × (List LS) × Int) ⊕ (LX × LU)) :=
 bif (decide (s10 < (r6.1.length : Int))) then
  (Mh (LU.mk c7 c8) 4).bind fun r11 =>
  bif (decide (r11.1 < 3)) then
   (Mh r11.2 4).bind fun r12 =>
   chk (code9.length + ([(LS.mk 16 s10 r12.1 0 0)] : List LS).length ≤ 16777216) <|
   cnt (r12.2.list,r12.2.at_,code9 ++ ([(LS.mk 16 s10 r12.1 0 0)] : List LS),IntKind.i64.wrap (s10 + 1))
  else
   cnt (r11.2.list,r11.2.at_,code9,IntKind.i64.wrap (s10 + 1))
 else
  lft (
   (Mh (LU.mk c7 c8) (IntKind.i64.wrap (most4 + 1))).bind fun r13 =>
   ME (fun s=>Ps x_x5 i2 params3 s.1 s.2.1 s.2.2.1 s.2.2.2.1 s.2.2.2.2) (r13.2.list,r13.2.at_,code9,r6.1,r13.1))
noncomputable def Og (c1 : LU) (i2 : Int) (params3 : (List Int)) (most4 : Int) : Option (LX × LU) :=
 (ixO params3 i2).bind fun x_x5 =>
 (Ph c1 6).bind fun r6 =>
 ME (fun s=>Pr r6 most4 x_x5 i2 params3 s.1 s.2.1 s.2.2.1 s.2.2.2) (r6.2.list,r6.2.at_,([] : List LS),0)

noncomputable def PA (most3 : Int) (c10 : List Int) (c11 : Int) (p12 : List LX) (i13 : Int) (params14 : List Int) : Option (((List Int) × Int × (List LX) × Int × (List Int)) ⊕ (PO × LU)) :=
 bif (decide (i13 < (params14.length : Int))) then
  chk (([] : List LX).length + p12.length ≤ 16777216) <|
  (Og (LU.mk c10 c11) i13 params14 most3).bind fun r15 =>
  chk ((([] : List LX) ++ p12).length + ([r15.1] : List LX).length ≤ 16777216) <|
  cnt (r15.2.list,r15.2.at_,(([] : List LX) ++ p12) ++ ([r15.1] : List LX),IntKind.i64.wrap (i13 + 1),params14)
 else
  lft (some ((PO.mk p12),(LU.mk c10 c11)))
noncomputable def Pz (most3 : Int) (c5 : List Int) (c6 : Int) (params7 : List Int) (n8 : Int) : Option (((List Int) × Int × (List Int) × Int) ⊕ (PO × LU)) :=
 bif (decide (n8 > 0)) then
  (Mh (LU.mk c5 c6) 4).bind fun r9 =>
  chk (params7.length + ([r9.1] : List Int).length ≤ 16777216) <|
  cnt (r9.2.list,r9.2.at_,params7 ++ ([r9.1] : List Int),IntKind.i64.wrap (n8 - 1))
 else
  lft (ME (fun s=>PA most3 s.1 s.2.1 s.2.2.1 s.2.2.2.1 s.2.2.2.2) (c5,c6,[],0,params7))
noncomputable def Ov (c1 : LU) (funcs2 : Int) (most3 : Int) : Option (PO × LU) :=
 (Mh c1 funcs2).bind fun r4 =>
 ME (fun s=>Pz most3 s.1 s.2.1 s.2.2.1 s.2.2.2) (r4.2.list,r4.2.at_,([0] : List Int),r4.1)

noncomputable def NY (x_x3 : LS) (k2 : Int) (x4 : Bool) : Option ((List Int)) :=
 bif x4 then
  some ([] : List Int)
 else
  bif (x_x3.Op == 21) then
   bif (decide (x_x3.B < (IntKind.i64.wrap (k2 + 1)))) then
    some ([x_x3.B,IntKind.i64.wrap (k2 + 1)] : List Int)
   else
    bif (decide (x_x3.B > (IntKind.i64.wrap (k2 + 1)))) then
     some ([IntKind.i64.wrap (k2 + 1),x_x3.B] : List Int)
    else
     some ([IntKind.i64.wrap (k2 + 1)] : List Int)
  else
   some ([IntKind.i64.wrap (k2 + 1)] : List Int)
noncomputable def UF (f1 : LX) (k2 : Int) : Option ((List Int)) :=
 (ixO f1.Code k2).bind fun x_x3 =>
 bif (x_x3.Op == 20) then
  some ([x_x3.A] : List Int)
 else
  bif (x_x3.Op == 23) then
   NY x_x3 k2 (x_x3.Op == 23)
  else
   NY x_x3 k2 (x_x3.Op == 24)
noncomputable def Si (f1 : LX) (k2 : Int) : Option ((List Int)) :=
 bif (decide (k2 < 0)) then
  some ([] : List Int)
 else
  bif (decide (k2 ≥ (f1.Code.length : Int))) then
   some ([] : List Int)
  else
   UF f1 k2

noncomputable def PJ (x1 : LS) : Option (Bool) :=
 bif (x1.Op == 16) then
  some true
 else
  some (x1.Op == 17)

noncomputable def OX (x1 : LS) : Option (Int × Bool) :=
 (PJ x1).bind fun r2 =>
 bif r2 then
  some (x1.A,true)
 else
  some (0,false)

noncomputable def OQ (s1 : (List Int)) (n2 : Int) (out3 : List Int) (i4 : Int) : Option (((List Int) × Int) ⊕ ((List Int))) :=
 bif (decide (i4 < (s1.length : Int))) then
  (ixO s1 i4).bind fun x_x5 =>
  bif (x_x5 != n2) then
   (ixO s1 i4).bind fun x_x6 =>
   chk (out3.length + ([x_x6] : List Int).length ≤ 16777216) <|
   cnt (out3 ++ ([x_x6] : List Int),IntKind.i64.wrap (i4 + 1))
  else
   cnt (out3,IntKind.i64.wrap (i4 + 1))
 else
  lft (some out3)
noncomputable def RI (s1 : (List Int)) (n2 : Int) : Option ((List Int)) :=
 ME (fun s=>OQ s1 n2 s.1 s.2) (([] : List Int),0)

noncomputable def Sj (x1 : LS) : Option ((List Int)) :=
 bif (x1.Op == 15) then
  some ([x1.B] : List Int)
 else
  bif (x1.Op == 17) then
   some ([x1.B] : List Int)
  else
   some ([] : List Int)

noncomputable def Qf (n1 : Int) : Option (Bool) :=
 bif (decide (n1 ≥ 0)) then
  some (decide (n1 < 512))
 else
  some false

noncomputable def OP (s1 : (List Int)) (i6 : Int) (out7 : List Int) (done8 : Bool) : Option (((List Int) × Bool × Int) ⊕ ((List Int))) :=
 (ixO s1 i6).bind fun x_x12 =>
 chk (out7.length + ([x_x12] : List Int).length ≤ 16777216) <|
 cnt (out7 ++ ([x_x12] : List Int),done8,IntKind.i64.wrap (i6 + 1))
noncomputable def Px (s1 : (List Int)) (i6 : Int) (n2 : Int) (out4 : List Int) (done5 : Bool) (x9 : Bool) : Option (((List Int) × Bool × Int) ⊕ ((List Int))) :=
 bif x9 then
  (ixO s1 i6).bind fun x_x11 =>
  bif (decide (x_x11 > n2)) then
   chk (out4.length + ([n2] : List Int).length ≤ 16777216) <|
   OP s1 i6 (out4 ++ ([n2] : List Int)) true
  else
   OP s1 i6 out4 true
 else
  OP s1 i6 out4 done5
noncomputable def NV (s1 : (List Int)) (n2 : Int) (out4 : List Int) (done5 : Bool) (i6 : Int) : Option (((List Int) × Bool × Int) ⊕ ((List Int))) :=
 bif (decide (i6 < (s1.length : Int))) then
  bif (!done5) then
   (ixO s1 i6).bind fun x_x10 =>
   Px s1 i6 n2 out4 done5 (decide (x_x10 ≥ n2))
  else
   Px s1 i6 n2 out4 done5 false
 else
  lft (
   bif (!done5) then
    chk (out4.length + ([n2] : List Int).length ≤ 16777216) <|
    some (out4 ++ ([n2] : List Int))
   else
    some out4)
noncomputable def Qi (s1 : (List Int)) (n2 : Int) : Option ((List Int)) :=
 (Qf n2).bind fun r3 =>
 ME (fun s=>NV s1 n2 s.1 s.2.1 s.2.2) (([] : List Int),(!r3),0)

noncomputable def Qn (b2 : (List Int)) (out3 : List Int) (i4 : Int) : Option (((List Int) × Int) ⊕ ((List Int))) :=
 bif (decide (i4 < (b2.length : Int))) then
  (ixO b2 i4).bind fun x_x5 =>
  (Qi out3 x_x5).bind fun r6 =>
  cnt (r6,IntKind.i64.wrap (i4 + 1))
 else
  lft (some out3)
noncomputable def Pt (a1 : (List Int)) (b2 : (List Int)) : Option ((List Int)) :=
 chk (([] : List Int).length + a1.length ≤ 16777216) <|
 ME (fun s=>Qn b2 s.1 s.2) (([] : List Int) ++ a1,0)

noncomputable def UW (x1 : LS) (out2 : (List Int)) : Option ((List Int)) :=
 (OX x1).bind fun r3 =>
 bif r3.2 then
  (RI out2 r3.1).bind fun r4 =>
  (Sj x1).bind fun r5 =>
  (Pt r4 r5).bind fun r6 =>
  some r6
 else
  (Sj x1).bind fun r7 =>
  (Pt out2 r7).bind fun r8 =>
  some r8

noncomputable def UG (k4 : Int) (x5 : List (List Int)) : Option (((List (List Int)) × Int) ⊕ (Me)) :=
 cnt (x5,IntKind.i64.wrap (k4 + 1))
noncomputable def QS (r6 : (List Int)) (k4 : Int) (f1 : LX) (l2 : Me) (x7 : List (List Int)) (i8 : Int) : Option (((List (List Int)) × Int) ⊕ (((List (List Int)) × Int) ⊕ (Me))) :=
 bif (decide (i8 < (r6.length : Int))) then
  chk (0 ≤ i8 ∧ i8 < r6.length) <|
  ((r6)[i8.toNat]?).bind fun next_e9 =>
  chk (0 ≤ k4 ∧ k4 < x7.length) <|
  ((x7)[k4.toNat]?).bind fun x_e10 =>
  (ixO f1.Code next_e9).bind fun x_x11 =>
  (ixO l2.Out next_e9).bind fun x_x12 =>
  (UW x_x11 x_x12).bind fun r13 =>
  (Pt x_e10 r13).bind fun r14 =>
  chk (0 ≤ k4 ∧ k4 < x7.length) <|
  ((x7)[k4.toNat]?).bind fun _ =>
  cnt (x7.set k4.toNat r14,IntKind.i64.wrap (i8 + 1))
 else
  lft (UG k4 x7)
noncomputable def QQ (f1 : LX) (l2 : Me) (x3 : List (List Int)) (k4 : Int) : Option (((List (List Int)) × Int) ⊕ (Me)) :=
 bif (decide (k4 < (f1.Code.length : Int))) then
  (Si f1 k4).bind fun r6 =>
  ME (fun s=>QS r6 k4 f1 l2 s.1 s.2) (x3,0)
 else
  lft (some (Me.mk x3))
noncomputable def TS (f1 : LX) (l2 : Me) : Option (Me) :=
 chk (0 ≤ (f1.Code.length : Int) ∧ (f1.Code.length : Int) ≤ 16777216) <|
 ME (fun s=>QQ f1 l2 s.1 s.2) (List.replicate (f1.Code.length : Int).toNat ([] : (List Int)),0)

noncomputable def PR (a1 : (List Int)) (b2 : (List Int)) (i3 : Int) : Option ((Int) ⊕ (Bool)) :=
 bif (decide (i3 < (a1.length : Int))) then
  (ixO a1 i3).bind fun x_x4 =>
  (ixO b2 i3).bind fun x_x5 =>
  bif (x_x4 != x_x5) then
   lft (some false)
  else
   cnt (IntKind.i64.wrap (i3 + 1))
 else
  lft (some true)
noncomputable def TP (a1 : (List Int)) (b2 : (List Int)) : Option (Bool) :=
 bif ((a1.length : Int) != (b2.length : Int)) then
  some false
 else
  ME (fun s=>PR a1 b2 s) 0

noncomputable def Ou (a1 : (List (List Int))) (b2 : (List (List Int))) (i3 : Int) : Option ((Int) ⊕ (Bool)) :=
 bif (decide (i3 < (a1.length : Int))) then
  (ixO a1 i3).bind fun x_x4 =>
  (ixO b2 i3).bind fun x_x5 =>
  (TP x_x4 x_x5).bind fun r6 =>
  bif (!r6) then
   lft (some false)
  else
   cnt (IntKind.i64.wrap (i3 + 1))
 else
  lft (some true)
noncomputable def QP (a1 : (List (List Int))) (b2 : (List (List Int))) : Option (Bool) :=
 bif ((a1.length : Int) != (b2.length : Int)) then
  some false
 else
  ME (fun s=>Ou a1 b2 s) 0

noncomputable def TQ (a1 : Me) (b2 : Me) : Option (Bool) :=
 (QP a1.Out b2.Out).bind fun r3 =>
 some r3

noncomputable def TR (f1 : LX) (l2 : List (List Int)) : Option (((List (List Int))) ⊕ (Me)) :=
 (TS f1 (Me.mk l2)).bind fun r3 =>
 (TQ r3 (Me.mk l2)).bind fun r4 =>
 bif r4 then
  lft (some (Me.mk l2))
 else
  cnt r3.Out
noncomputable def SB (f1 : LX) : Option (Me) :=
 chk (0 ≤ (f1.Code.length : Int) ∧ (f1.Code.length : Int) ≤ 16777216) <|
 ME (fun s=>TR f1 s) (List.replicate (f1.Code.length : Int).toNat ([] : (List Int)))

noncomputable def QC (n8 : Int) (c9 : List Int) (c10 : Int) (x11 : List (List Int)) : Option (((List Int) × Int × (List (List Int)) × Int) ⊕ (Me × LU)) :=
 cnt (c9,c10,x11,IntKind.i64.wrap (n8 - 1))
noncomputable def QA (r12 : Int × LU) (n8 : Int) (x13 : List (List Int)) (k14 : Int) : Option (((List (List Int)) × Int) ⊕ (((List Int) × Int × (List (List Int)) × Int) ⊕ (Me × LU))) :=
 bif (decide (k14 < (x13.length : Int))) then
  chk (0 ≤ k14 ∧ k14 < x13.length) <|
  ((x13)[k14.toNat]?).bind fun x_e15 =>
  (Qi x_e15 r12.1).bind fun r16 =>
  chk (0 ≤ k14 ∧ k14 < x13.length) <|
  ((x13)[k14.toNat]?).bind fun _ =>
  cnt (x13.set k14.toNat r16,IntKind.i64.wrap (k14 + 1))
 else
  lft (QC n8 r12.2.list r12.2.at_ x13)
noncomputable def QB (c5 : List Int) (c6 : Int) (f2 : LX) (n8 : Int) (x7 : List (List Int)) : Option (((List Int) × Int × (List (List Int)) × Int) ⊕ (Me × LU)) :=
 (Mh (LU.mk c5 c6) (f2.Slots.length : Int)).bind fun r12 =>
 ME (fun s=>QA r12 n8 s.1 s.2) (x7,0)
noncomputable def Qz (f2 : LX) (c5 : List Int) (c6 : Int) (x7 : List (List Int)) (n8 : Int) : Option (((List Int) × Int × (List (List Int)) × Int) ⊕ (Me × LU)) :=
 bif (decide (n8 > 0)) then
  bif (decide ((f2.Slots.length : Int) > 0)) then
   QB c5 c6 f2 n8 x7
  else
   lft (some ((Me.mk x7),(LU.mk c5 c6)))
 else
  lft (some ((Me.mk x7),(LU.mk c5 c6)))
noncomputable def Pg (c1 : LU) (f2 : LX) : Option (Me × LU) :=
 (SB f2).bind fun r3 =>
 chk (([] : List (List Int)).length + r3.Out.length ≤ 16777216) <|
 (Mh c1 3).bind fun r4 =>
 ME (fun s=>Qz f2 s.1 s.2.1 s.2.2.1 s.2.2.2) (r4.2.list,r4.2.at_,([] : List (List Int)) ++ r3.Out,r4.1)

noncomputable def OC (s1 : (List Int)) (i2 : Int) : Option ((Int) ⊕ (Bool)) :=
 bif (decide (i2 < (s1.length : Int))) then
  (ixO s1 i2).bind fun x_x3 =>
  (Qf x_x3).bind fun r4 =>
  bif (!r4) then
   lft (some false)
  else
   bif (decide (i2 > 0)) then
    (ixO s1 i2).bind fun x_x5 =>
    (ixO s1 (IntKind.i64.wrap (i2 - 1))).bind fun x_x6 =>
    bif (decide (x_x5 ≤ x_x6)) then
     lft (some false)
    else
     cnt (IntKind.i64.wrap (i2 + 1))
   else
    cnt (IntKind.i64.wrap (i2 + 1))
 else
  lft (some true)
noncomputable def Sz (s1 : (List Int)) : Option (Bool) :=
 ME (fun s=>OC s1 s) 0

noncomputable def TU (l2 : Me) (f1 : LX) (k3 : Int) : Option ((Int) ⊕ (Bool)) :=
 bif (decide (k3 < (l2.Out.length : Int))) then
  (ixO l2.Out k3).bind fun x_x4 =>
  (Sz x_x4).bind fun r5 =>
  bif (!r5) then
   lft (some false)
  else
   (ixO l2.Out k3).bind fun x_x6 =>
   bif (decide ((x_x6.length : Int) > 0)) then
    (ixO l2.Out k3).bind fun x_x7 =>
    (ixO x_x7 (IntKind.i64.wrap ((x_x6.length : Int) - 1))).bind fun x_x8 =>
    bif (decide (x_x8 ≥ (f1.Slots.length : Int))) then
     lft (some false)
    else
     cnt (IntKind.i64.wrap (k3 + 1))
   else
    cnt (IntKind.i64.wrap (k3 + 1))
 else
  lft (some true)
noncomputable def Ro (f1 : LX) (l2 : Me) : Option (Bool) :=
 bif ((l2.Out.length : Int) != (f1.Code.length : Int)) then
  some false
 else
  ME (fun s=>TU l2 f1 s) 0

noncomputable def RH (s1 : (List Int)) (n2 : Int) (i3 : Int) : Option ((Int) ⊕ (Bool)) :=
 bif (decide (i3 < (s1.length : Int))) then
  (ixO s1 i3).bind fun x_x4 =>
  bif (x_x4 == n2) then
   lft (some true)
  else
   cnt (IntKind.i64.wrap (i3 + 1))
 else
  lft (some false)
noncomputable def Vn (s1 : (List Int)) (n2 : Int) : Option (Bool) :=
 ME (fun s=>RH s1 n2 s) 0

noncomputable def Pl (a1 : (List Int)) (b2 : (List Int)) (out3 : List Int) (i4 : Int) : Option (((List Int) × Int) ⊕ ((List Int))) :=
 bif (decide (i4 < (a1.length : Int))) then
  (ixO a1 i4).bind fun x_x5 =>
  (Vn b2 x_x5).bind fun r6 =>
  bif (!r6) then
   (ixO a1 i4).bind fun x_x7 =>
   chk (out3.length + ([x_x7] : List Int).length ≤ 16777216) <|
   cnt (out3 ++ ([x_x7] : List Int),IntKind.i64.wrap (i4 + 1))
  else
   cnt (out3,IntKind.i64.wrap (i4 + 1))
 else
  lft (some out3)
noncomputable def SA (a1 : (List Int)) (b2 : (List Int)) : Option ((List Int)) :=
 ME (fun s=>Pl a1 b2 s.1 s.2) (([] : List Int),0)

noncomputable def Pm (r4 : (List Int)) (f1 : LX) (l2 : Me) (k3 : Int) (out5 : List Int) (i6 : Int) : Option (((List Int) × Int) ⊕ ((List Int))) :=
 bif (decide (i6 < (r4.length : Int))) then
  chk (0 ≤ i6 ∧ i6 < r4.length) <|
  ((r4)[i6.toNat]?).bind fun next_e7 =>
  (ixO f1.Code next_e7).bind fun x_x8 =>
  (ixO l2.Out next_e7).bind fun x_x9 =>
  (UW x_x8 x_x9).bind fun r10 =>
  (ixO l2.Out k3).bind fun x_x11 =>
  (SA r10 x_x11).bind fun r12 =>
  (Pt out5 r12).bind fun r13 =>
  cnt (r13,IntKind.i64.wrap (i6 + 1))
 else
  lft (some out5)
noncomputable def QT (f1 : LX) (l2 : Me) (k3 : Int) : Option ((List Int)) :=
 (Si f1 k3).bind fun r4 =>
 ME (fun s=>Pm r4 f1 l2 k3 s.1 s.2) (([] : List Int),0)

noncomputable def TT (f1 : LX) (l2 : Me) (k4 : Int) : Option ((Int) ⊕ (Int × Int × Bool)) :=
 bif (decide (k4 < (f1.Code.length : Int))) then
  (QT f1 l2 k4).bind fun r5 =>
  bif (decide ((r5.length : Int) > 0)) then
   chk (0 ≤ (0 : Int) ∧ (0 : Int) < r5.length) <|
   ((r5)[(0 : Int).toNat]?).bind fun m_e6 =>
   lft (some (k4,m_e6,true))
  else
   cnt (IntKind.i64.wrap (k4 + 1))
 else
  lft (some (0,0,false))
noncomputable def SD (f1 : LX) (l2 : Me) : Option (Int × Int × Bool) :=
 (Ro f1 l2).bind fun r3 =>
 bif (!r3) then
  some (0,0,false)
 else
  ME (fun s=>TT f1 l2 s) 0

noncomputable def SC (f1 : LX) (l2 : Me) : Option (Int) :=
 (SD f1 l2).bind fun r3 =>
 bif r3.2.2 then
  some 11
 else
  (Ro f1 l2).bind fun r4 =>
  bif (!r4) then
   some 11
  else
   some 0

noncomputable def OD (r14 : Int × Bool) (out15 : List (List Int)) (x_x19 : Int) (i16 : Int) (x20 : Bool) (x21 : Bool) (x22 : Bool) (x23 : Bool) : Option (((List (List Int)) × Int) ⊕ (((List (List Int)) × Int) ⊕ ((List (List Int)) × Int))) :=
 chk (0 ≤ r14.1 ∧ r14.1 < out15.length) <|
 ((out15)[r14.1.toNat]?).bind fun out_e24 =>
 (Qi out_e24 x_x19).bind fun r25 =>
 chk (0 ≤ x_x19 ∧ x_x19 < out15.length) <|
 ((out15)[x_x19.toNat]?).bind fun out_e26 =>
 (Qi out_e26 r14.1).bind fun r27 =>
 chk (0 ≤ r14.1 ∧ r14.1 < out15.length) <|
 ((out15)[r14.1.toNat]?).bind fun _ =>
 chk (0 ≤ x_x19 ∧ x_x19 < (out15.set r14.1.toNat r25).length) <|
 ((out15.set r14.1.toNat r25)[x_x19.toNat]?).bind fun _ =>
 cnt ((out15.set r14.1.toNat r25).set x_x19.toNat r27,IntKind.i64.wrap (i16 + 1))
noncomputable def TW (l2 : Me) (k6 : Int) (i16 : Int) (r14 : Int × Bool) (out15 : List (List Int)) (strict3 : Bool) (x_x13 : LS) : Option (((List (List Int)) × Int) ⊕ (((List (List Int)) × Int) ⊕ ((List (List Int)) × Int))) :=
 (ixO l2.Out k6).bind fun x_x18 =>
 (ixO x_x18 i16).bind fun x_x19 =>
 bif (x_x19 == r14.1) then
  cnt (out15,IntKind.i64.wrap (i16 + 1))
 else
  bif (!strict3) then
   bif (x_x13.Op == 17) then
    bif (x_x13.B == x_x19) then
     cnt (out15,IntKind.i64.wrap (i16 + 1))
    else
     OD r14 out15 x_x19 i16 true (x_x13.Op == 17) true (x_x13.B == x_x19)
   else
    OD r14 out15 x_x19 i16 true (x_x13.Op == 17) false false
  else
   OD r14 out15 x_x19 i16 false false false false
noncomputable def Pn (k6 : Int) (x7 : Int) (x8 : Int) (x9 : Int) (x10 : Int) (x11 : Int) (out12 : List (List Int)) : Option (((List (List Int)) × Int) ⊕ ((List (List Int)) × Int)) :=
 cnt (out12,IntKind.i64.wrap (k6 + 1))
noncomputable def RK (l2 : Me) (k6 : Int) (r14 : Int × Bool) (strict3 : Bool) (x_x13 : LS) (out15 : List (List Int)) (i16 : Int) : Option (((List (List Int)) × Int) ⊕ (((List (List Int)) × Int) ⊕ ((List (List Int)) × Int))) :=
 (ixO l2.Out k6).bind fun x_x17 =>
 bif (decide (i16 < (x_x17.length : Int))) then
  bif r14.2 then
   TW l2 k6 i16 r14 out15 strict3 x_x13
  else
   lft (Pn k6 x_x13.Op x_x13.A x_x13.B x_x13.C x_x13.Imm out15)
 else
  lft (Pn k6 x_x13.Op x_x13.A x_x13.B x_x13.C x_x13.Imm out15)
noncomputable def Qo (l2 : Me) (k6 : Int) (r14 : Int × Bool) (strict3 : Bool) (x_x13 : LS) (out5 : List (List Int)) : Option (((List (List Int)) × Int) ⊕ ((List (List Int)) × Int)) :=
 ME (fun s=>RK l2 k6 r14 strict3 x_x13 s.1 s.2) (out5,0)
noncomputable def TV (f1 : LX) (l2 : Me) (strict3 : Bool) (out5 : List (List Int)) (k6 : Int) : Option (((List (List Int)) × Int) ⊕ ((List (List Int)) × Int)) :=
 bif (decide (k6 < (f1.Code.length : Int))) then
  (ixO f1.Code k6).bind fun x_x13 =>
  (OX x_x13).bind fun r14 =>
  bif (x_x13.Op == 17) then
   bif (x_x13.A == x_x13.B) then
    Pn k6 x_x13.Op x_x13.A x_x13.B x_x13.C x_x13.Imm out5
   else
    Qo l2 k6 r14 strict3 x_x13 out5
  else
   Qo l2 k6 r14 strict3 x_x13 out5
 else
  lft (some (out5,0))
noncomputable def SE (f1 : LX) (l2 : Me) (strict3 : Bool) : Option ((List (List Int)) × Int) :=
 (SC f1 l2).bind fun r4 =>
 bif (r4 != 0) then
  some (([] : List (List Int)),r4)
 else
  chk (0 ≤ (f1.Slots.length : Int) ∧ (f1.Slots.length : Int) ≤ 16777216) <|
  ME (fun s=>TV f1 l2 strict3 s.1 s.2) (List.replicate (f1.Slots.length : Int).toNat ([] : (List Int)),0)

noncomputable def Uz (f1 : LX) (l2 : Me) : Option ((List (List Int)) × Int) :=
 (SE f1 l2 false).bind fun r3 =>
 some (r3.1,r3.2)

noncomputable def Nt (s16 : Int) (n17 : Int) : Option ((Int × Int) ⊕ (Bool)) :=
 cnt (n17,IntKind.i64.wrap (s16 + 1))
noncomputable def Ns (r9 : (List (List Int)) × Int) (s16 : Int) (x_x7 : LX) (x10 : List Int) (r8 : Me × LU) (x12 : List Bool) (n18 : Int) (i19 : Int) : Option ((Int × Int) ⊕ ((Int × Int) ⊕ (Bool))) :=
 (ixO r9.1 s16).bind fun x_x20 =>
 bif (decide (i19 < (x_x20.length : Int))) then
  (ixO r9.1 s16).bind fun x_x21 =>
  (ixO x_x21 i19).bind fun x_x22 =>
  (ixO x_x7.Slots s16).bind fun x_x23 =>
  (ixO x_x7.Slots x_x22).bind fun x_x24 =>
  bif (x_x23.Size != x_x24.Size) then
   cnt (n18,IntKind.i64.wrap (i19 + 1))
  else
   bif (decide (n18 > 0)) then
    cnt (IntKind.i64.wrap (n18 - 1),IntKind.i64.wrap (i19 + 1))
   else
    chk (0 ≤ s16 ∧ s16 < x10.length) <|
    ((x10)[s16.toNat]?).bind fun _ =>
    (Oc x_x7 r8.1 (MD.mk (x10.set s16.toNat x_x22) x12)).bind fun r26 =>
    lft (lft (some (r26 == 12)))
 else
  lft (Nt s16 n18)
noncomputable def Nr (r9 : (List (List Int)) × Int) (x_x7 : LX) (x10 : List Int) (r8 : Me × LU) (x12 : List Bool) (n15 : Int) (s16 : Int) : Option ((Int × Int) ⊕ (Bool)) :=
 bif (decide (s16 < (r9.1.length : Int))) then
  ME (fun s=>Ns r9 s16 x_x7 x10 r8 x12 s.1 s.2) (n15,0)
 else
  lft (some true)
noncomputable def Nq (x_x7 : LX) (r8 : Me × LU) (x10 : List Int) (r9 : (List (List Int)) × Int) (pick2 : Int) (x12 : List Bool) (k13 : Int) : Option (((List Bool) × Int) ⊕ (Bool)) :=
 bif (decide (k13 < (x_x7.Code.length : Int))) then
  chk (([] : List Bool).length + x12.length ≤ 16777216) <|
  chk ((([] : List Bool) ++ x12).length + ([true] : List Bool).length ≤ 16777216) <|
  cnt ((([] : List Bool) ++ x12) ++ ([true] : List Bool),IntKind.i64.wrap (k13 + 1))
 else
  lft (
   (Oc x_x7 r8.1 (MD.mk x10 x12)).bind fun r14 =>
   bif (r14 != 0) then
    some false
   else
    ME (fun s=>Nr r9 x_x7 x10 r8 x12 s.1 s.2) (IntKind.i64.wrap (pick2),0))
noncomputable def Np (x_x7 : LX) (r8 : Me × LU) (r9 : (List (List Int)) × Int) (pick2 : Int) (x10 : List Int) (s11 : Int) : Option (((List Int) × Int) ⊕ (Bool)) :=
 bif (decide (s11 < (x_x7.Slots.length : Int))) then
  chk (([] : List Int).length + x10.length ≤ 16777216) <|
  chk ((([] : List Int) ++ x10).length + ([s11] : List Int).length ≤ 16777216) <|
  cnt ((([] : List Int) ++ x10) ++ ([s11] : List Int),IntKind.i64.wrap (s11 + 1))
 else
  lft (ME (fun s=>Nq x_x7 r8 x10 r9 pick2 s.1 s.2) (([] : List Bool),0))
noncomputable def MP (codes1 : (List Int)) (pick2 : Int) : Option (Bool) :=
 (Sx).bind fun r3 =>
 bif (!r3) then
  some false
 else
  (Ws codes1 250).bind fun r4 =>
  (Ov r4 3 16).bind fun r5 =>
  (Mh r5.2 (r5.1.Funcs.length : Int)).bind fun r6 =>
  (ixO r5.1.Funcs r6.1).bind fun x_x7 =>
  (Pg r6.2 x_x7).bind fun r8 =>
  (Uz x_x7 r8.1).bind fun r9 =>
  ME (fun s=>Np x_x7 r8 r9 pick2 s.1 s.2) (([] : List Int),0)

end Go.Proofs.YtfpgidpffhmadaaDoor
