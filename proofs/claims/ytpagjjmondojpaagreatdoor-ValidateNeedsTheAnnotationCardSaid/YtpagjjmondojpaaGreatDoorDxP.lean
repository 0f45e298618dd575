/-
 The programs on typed data; written by a program (dx.py).
-/
import Derived.Test.YtpagjjmondojpaaGreatDoorDxT
namespace Go.Proofs.YtpagjjmondojpaaGreatDoor
open Go Go.Dw Go.Proofs
set_option maxRecDepth 100000
set_option maxHeartbeats 4000000
noncomputable def QL (n1 : Int) : Option (Bool) :=
 bif (decide (n1 ≥ 0)) then
  some (decide (n1 < 512))
 else
  some false

noncomputable def Rq (s1 : (List Int)) (x2 : Int) : Option ((Int) ⊕ (Bool)) :=
 bif (decide (x2 < (s1.length : Int))) then
  (ixO s1 x2).bind fun x_x3 =>
  (QL x_x3).bind fun r4 =>
  bif (!r4) then
   lft (some false)
  else
   bif (decide (x2 > 0)) then
    (ixO s1 (IntKind.i64.wrap (x2 - 1))).bind fun x_x5 =>
    bif (decide (x_x3 ≤ x_x5)) then
     lft (some false)
    else
     cnt (IntKind.i64.wrap (x2 + 1))
   else
    cnt (IntKind.i64.wrap (x2 + 1))
 else
  lft (some true)
noncomputable def WR (s1 : (List Int)) : Option (Bool) :=
 Pr (fun s=>Rq s1 s) 0

noncomputable def RJ (s1 : (List Int)) (cap2 : OX) : Option (Bool) :=
 (WR s1).bind fun r3 =>
 bif (!r3) then
  some true
 else
  bif (decide ((s1.length : Int) > 0)) then
   (ixO s1 (IntKind.i64.wrap ((s1.length : Int) - 1))).bind fun x_x4 =>
   some (decide (x_x4 ≥ (cap2.Slots.length : Int)))
  else
   some false

noncomputable def Qr (s1 : (List (List Int))) (f2 : OX) (x3 : Int) : Option ((Int) ⊕ (Int)) :=
 bif (decide (x3 < (s1.length : Int))) then
  (ixO s1 x3).bind fun x_x4 =>
  (RJ x_x4 f2).bind fun r5 =>
  bif r5 then
   lft (some x3)
  else
   cnt (IntKind.i64.wrap (x3 + 1))
 else
  lft (some (-1))
noncomputable def Qd (s1 : (List (List Int))) (f2 : OX) : Option (Int) :=
 Pr (fun s=>Qr s1 f2 s) 0

noncomputable def Qq (s1 : (List (List Int))) (f2 : OX) : Option (Bool) :=
 (Qd s1 f2).bind fun r3 =>
 some (decide (r3 ≥ 0))

noncomputable def Sw (f1 : OX) (l2 : Pf) : Option (Bool) :=
 bif ((l2.Out.length : Int) == (f1.Code.length : Int)) then
  (Qq l2.Out f1).bind fun r3 =>
  some (!r3)
 else
  some false

noncomputable def Xq (l1 : Pf) : Option (Pf) :=
 some l1

noncomputable def Ye (op1 : Int) : Option (Bool) :=
 bif (op1 == 20) then
  some true
 else
  bif (op1 == 23) then
   some true
  else
   some (op1 == 24)

noncomputable def WY (x_x3 : OZ) (l4 : List Int) : Option ((List Int)) :=
 bif (x_x3.Op == 20) then
  chk (l4.length + ([x_x3.A] : List Int).length ≤ 16777216) <|
  chk ((l4 ++ ([x_x3.A] : List Int)).length < 4611686018427387904) <|
  chk ((WN (l4 ++ ([x_x3.A] : List Int))).length < 4611686018427387904) <|
  some (Lib.compact (WN (l4 ++ ([x_x3.A] : List Int))))
 else
  bif (x_x3.Op == 21) then
   chk (l4.length + ([x_x3.B] : List Int).length ≤ 16777216) <|
   chk ((l4 ++ ([x_x3.B] : List Int)).length < 4611686018427387904) <|
   chk ((WN (l4 ++ ([x_x3.B] : List Int))).length < 4611686018427387904) <|
   some (Lib.compact (WN (l4 ++ ([x_x3.B] : List Int))))
  else
   chk (l4.length < 4611686018427387904) <|
   chk ((WN l4).length < 4611686018427387904) <|
   some (Lib.compact (WN l4))
noncomputable def ZD (f1 : OX) (k2 : Int) : Option ((List Int)) :=
 (ixO f1.Code k2).bind fun x_x3 =>
 (Ye x_x3.Op).bind fun r5 =>
 bif (!r5) then
  chk (([] : List Int).length + ([IntKind.i64.wrap (k2 + 1)] : List Int).length ≤ 16777216) <|
  WY x_x3 (([] : List Int) ++ ([IntKind.i64.wrap (k2 + 1)] : List Int))
 else
  WY x_x3 ([] : List Int)
noncomputable def AaJ (f1 : OX) (k2 : Int) : Option ((List Int)) :=
 bif (decide (k2 < 0)) then
  some ([] : List Int)
 else
  bif (decide (k2 ≥ (f1.Code.length : Int))) then
   some ([] : List Int)
  else
   ZD f1 k2

noncomputable def Uc (j1 : Int) (cap2 : Pf) : Option ((List Int)) :=
 (ixO cap2.Out j1).bind fun x_x3 =>
 some x_x3

noncomputable def Su (x1 : OZ) : Option (Int × Bool) :=
 bif (x1.Op == 16) then
  bif (x1.Op == 16) then
   some (x1.A,true)
  else
   some (0,false)
 else
  bif (x1.Op == 17) then
   some (x1.A,true)
  else
   some (0,false)

noncomputable def RC (s1 : OY) (n2 : Int) (in3 : Bool) : Option (OY) :=
 chk (0 ≤ ((IntKind.u64.wrap (n2)).tmod 64)) <|
 (QL n2).bind fun r4 =>
 bif (!r4) then
  some s1
 else
  bif in3 then
   chk (0 ≤ (IntKind.i64.wrap (n2.tdiv 64)) ∧ (IntKind.i64.wrap (n2.tdiv 64)) < 8) <|
   ((s1.toList)[(IntKind.i64.wrap (n2.tdiv 64)).toNat]?).bind fun s_e5 =>
   chk (0 ≤ (IntKind.i64.wrap (n2.tdiv 64)) ∧ (IntKind.i64.wrap (n2.tdiv 64)) < 8) <|
   ((s1.toList)[(IntKind.i64.wrap (n2.tdiv 64)).toNat]?).bind fun _ =>
   some (s1.set ((IntKind.i64.wrap (n2.tdiv 64)).toNat) (IntKind.u64.wrap ((BitVec.ofInt IntKind.u64.bits s_e5 ||| BitVec.ofInt IntKind.u64.bits (IntKind.u64.wrap (1 * 2 ^ (Nat.min ((IntKind.u64.wrap (n2)).tmod 64).toNat IntKind.u64.bits)))).toNat)))
  else
   chk (0 ≤ (IntKind.i64.wrap (n2.tdiv 64)) ∧ (IntKind.i64.wrap (n2.tdiv 64)) < 8) <|
   ((s1.toList)[(IntKind.i64.wrap (n2.tdiv 64)).toNat]?).bind fun s_e7 =>
   chk (0 ≤ (IntKind.i64.wrap (n2.tdiv 64)) ∧ (IntKind.i64.wrap (n2.tdiv 64)) < 8) <|
   ((s1.toList)[(IntKind.i64.wrap (n2.tdiv 64)).toNat]?).bind fun _ =>
   some (s1.set ((IntKind.i64.wrap (n2.tdiv 64)).toNat) (IntKind.u64.wrap ((BitVec.ofInt IntKind.u64.bits s_e7 &&& ~~~ BitVec.ofInt IntKind.u64.bits (IntKind.u64.wrap (1 * 2 ^ (Nat.min ((IntKind.u64.wrap (n2)).tmod 64).toNat IntKind.u64.bits)))).toNat)))

noncomputable def Vs (l1 : (List Int)) (x2 : OY) (x3 : Int) : Option ((OY × Int) ⊕ (OY)) :=
 bif (decide (x3 < (l1.length : Int))) then
  (ixO l1 x3).bind fun x_x4 =>
  (RC x2 x_x4 true).bind fun r5 =>
  cnt (r5,IntKind.i64.wrap (x3 + 1))
 else
  lft (some x2)
noncomputable def Rc (l1 : (List Int)) : Option (OY) :=
 Pr (fun s=>Vs l1 s.1 s.2) ((OY.mk 0 0 0 0 0 0 0 0),0)

noncomputable def SE (x3 : Int) (l5 : List Int) (x6 : Int) : Option (((List Int) × Int) ⊕ (((List Int) × Int) ⊕ ((List Int) × OY))) :=
 bif (x6 != 0) then
  (Adi x6).bind fun r7 =>
  chk (l5.length + ([IntKind.i64.wrap ((IntKind.i64.wrap (64 * x3)) + r7)] : List Int).length ≤ 16777216) <|
  cnt (l5 ++ ([IntKind.i64.wrap ((IntKind.i64.wrap (64 * x3)) + r7)] : List Int),IntKind.u64.wrap ((BitVec.ofInt IntKind.u64.bits x6 &&& BitVec.ofInt IntKind.u64.bits (IntKind.u64.wrap (x6 - 1))).toNat))
 else
  lft (cnt (l5,IntKind.i64.wrap (x3 + 1)))
noncomputable def SD (s1 : OY) (l2 : List Int) (x3 : Int) : Option (((List Int) × Int) ⊕ ((List Int) × OY)) :=
 bif (decide (x3 < 8)) then
  chk (0 ≤ x3 ∧ x3 < 8) <|
  ((s1.toList)[x3.toNat]?).bind fun s_e4 =>
  Pr (fun s=>SE x3 s.1 s.2) (l2,s_e4)
 else
  lft (some (l2,s1))
noncomputable def Qt (s1 : OY) : Option ((List Int) × OY) :=
 Pr (fun s=>SD s1 s.1 s.2) (([] : List Int),0)

noncomputable def Uf (s1 : (List Int)) (n2 : Int) : Option ((List Int)) :=
 (Rc s1).bind fun r3 =>
 (RC r3 n2 false).bind fun r4 =>
 (Qt r4).bind fun r5 =>
 some r5.1

noncomputable def Wd (x1 : OZ) : Option ((List Int)) :=
 bif (x1.Op == 15) then
  bif (x1.Op == 15) then
   some ([x1.B] : List Int)
  else
   some ([] : List Int)
 else
  bif (x1.Op == 17) then
   some ([x1.B] : List Int)
  else
   some ([] : List Int)

noncomputable def WS (l1 : (List Int)) : Option ((List Int)) :=
 (Rc l1).bind fun r2 =>
 (Qt r2).bind fun r3 =>
 some r3.1

noncomputable def Vg (x1 : Int) (y2 : Int) : Option (Int) :=
 some (IntKind.u64.wrap ((BitVec.ofInt IntKind.u64.bits x1 ||| BitVec.ofInt IntKind.u64.bits y2).toNat))

noncomputable def Qk (s1 : OY) (t2 : OY) (x3 : OY) (x4 : Int) : Option ((OY × Int) ⊕ (OY × OY × OY)) :=
 bif (decide (x4 < 8)) then
  chk (0 ≤ x4 ∧ x4 < 8) <|
  ((s1.toList)[x4.toNat]?).bind fun s_e5 =>
  chk (0 ≤ x4 ∧ x4 < 8) <|
  ((t2.toList)[x4.toNat]?).bind fun t_e6 =>
  (Vg s_e5 t_e6).bind fun r7 =>
  chk (0 ≤ x4 ∧ x4 < 8) <|
  ((x3.toList)[x4.toNat]?).bind fun _ =>
  cnt ((x3.set x4.toNat r7),IntKind.i64.wrap (x4 + 1))
 else
  lft (some (x3,s1,t2))
noncomputable def Qx (s1 : OY) (t2 : OY) : Option (OY × OY × OY) :=
 Pr (fun s=>Qk s1 t2 s.1 s.2) ((OY.mk 0 0 0 0 0 0 0 0),0)

noncomputable def SQ (a1 : (List Int)) (b2 : (List Int)) : Option ((List Int)) :=
 (Rc a1).bind fun r3 =>
 (Rc b2).bind fun r4 =>
 (Qx r3 r4).bind fun r5 =>
 (Qt r5.1).bind fun r6 =>
 some r6.1

noncomputable def AaH (x1 : OZ) (out2 : (List Int)) : Option ((List Int)) :=
 (Su x1).bind fun r3 =>
 bif r3.2 then
  (Uf out2 r3.1).bind fun r4 =>
  (Wd x1).bind fun r5 =>
  (WS r5).bind fun r6 =>
  (SQ r4 r6).bind fun r7 =>
  some r7
 else
  (Wd x1).bind fun r8 =>
  (WS r8).bind fun r9 =>
  (SQ out2 r9).bind fun r10 =>
  some r10

noncomputable def Vf (x1 : Int) (y2 : Int) : Option (Int) :=
 some (IntKind.u64.wrap ((BitVec.ofInt IntKind.u64.bits x1 &&& ~~~ BitVec.ofInt IntKind.u64.bits y2).toNat))

noncomputable def Qj (s1 : OY) (t2 : OY) (x3 : OY) (x4 : Int) : Option ((OY × Int) ⊕ (OY × OY × OY)) :=
 bif (decide (x4 < 8)) then
  chk (0 ≤ x4 ∧ x4 < 8) <|
  ((s1.toList)[x4.toNat]?).bind fun s_e5 =>
  chk (0 ≤ x4 ∧ x4 < 8) <|
  ((t2.toList)[x4.toNat]?).bind fun t_e6 =>
  (Vf s_e5 t_e6).bind fun r7 =>
  chk (0 ≤ x4 ∧ x4 < 8) <|
  ((x3.toList)[x4.toNat]?).bind fun _ =>
  cnt ((x3.set x4.toNat r7),IntKind.i64.wrap (x4 + 1))
 else
  lft (some (x3,s1,t2))
noncomputable def Qw (s1 : OY) (t2 : OY) : Option (OY × OY × OY) :=
 Pr (fun s=>Qj s1 t2 s.1 s.2) ((OY.mk 0 0 0 0 0 0 0 0),0)

noncomputable def Ve (a1 : (List Int)) (b2 : (List Int)) : Option ((List Int)) :=
 (Rc a1).bind fun r3 =>
 (Rc b2).bind fun r4 =>
 (Qw r3 r4).bind fun r5 =>
 (Qt r5.1).bind fun r6 =>
 some r6.1

noncomputable def RP (need1 : (List Int)) (cap2 : (List Int)) (cap3 : Pf) (cap4 : Int) : Option (Bool × (List Int)) :=
 (ixO cap3.Out cap4).bind fun x_x5 =>
 (Ve need1 x_x5).bind fun r6 =>
 (SQ cap2 r6).bind fun r7 =>
 some (true,r7)

noncomputable def PH (r7 : (List Int)) (f1 : OX) (set3 : Pf) (visit5 : Pf) (visit6 : Int) (x8 : List Int) (x9 : Int) : Option (((List Int) × Int) ⊕ (Bool × (List Int))) :=
 bif (decide (x9 < (r7.length : Int))) then
  chk (0 ≤ x9 ∧ x9 < r7.length) <|
  ((r7)[x9.toNat]?).bind fun x_e10 =>
  (ixO f1.Code x_e10).bind fun x_x11 =>
  (Uc x_e10 set3).bind fun r12 =>
  (AaH x_x11 r12).bind fun r13 =>
  (RP r13 x8 visit5 visit6).bind fun r14 =>
  bif (!r14.1) then
   lft (some (false,r14.2))
  else
   cnt (r14.2,IntKind.i64.wrap (x9 + 1))
 else
  lft (some (true,x8))
noncomputable def Qc (f1 : OX) (k2 : Int) (set3 : Pf) (visit4 : (List Int)) (visit5 : Pf) (visit6 : Int) : Option (Bool × (List Int)) :=
 (AaJ f1 k2).bind fun r7 =>
 Pr (fun s=>PH r7 f1 set3 visit5 visit6 s.1 s.2) (visit4,0)

noncomputable def UD (f1 : OX) (l2 : Pf) (x4 : Int) : Option ((Int) ⊕ (Int × Int × Bool)) :=
 bif (decide (x4 < (f1.Code.length : Int))) then
  (Xq l2).bind fun r5 =>
  (Qc f1 x4 r5 ([]) l2 x4).bind fun r6 =>
  bif (decide ((r6.2.length : Int) > 0)) then
   (ixO r6.2 0).bind fun x_x7 =>
   lft (some (x4,x_x7,true))
  else
   cnt (IntKind.i64.wrap (x4 + 1))
 else
  lft (some (0,0,false))
noncomputable def UC (f1 : OX) (l2 : Pf) : Option (Int × Int × Bool) :=
 (Sw f1 l2).bind fun r3 =>
 bif (!r3) then
  some (0,0,false)
 else
  Pr (fun s=>UD f1 l2 s) 0

noncomputable def Th (f1 : OX) (l2 : Pf) : Option (Int) :=
 (Sw f1 l2).bind fun r3 =>
 bif (!r3) then
  some 11
 else
  (UC f1 l2).bind fun r4 =>
  bif r4.2.2 then
   some 11
  else
   some 0

noncomputable def UR (to2 : (List Int)) (f1 : OX) (x3 : Int) : Option ((Int) ⊕ (Bool)) :=
 bif (decide (x3 < (to2.length : Int))) then
  (ixO to2 x3).bind fun x_x4 =>
  bif (decide (x_x4 < 0)) then
   lft (some false)
  else
   bif (decide (x_x4 ≥ (to2.length : Int))) then
    lft (some false)
   else
    (ixO f1.Slots x_x4).bind fun x_x5 =>
    (ixO f1.Slots x3).bind fun x_x6 =>
    bif (x_x5.Size != x_x6.Size) then
     lft (some false)
    else
     (ixO to2 x_x4).bind fun x_x7 =>
     bif (x_x7 != x_x4) then
      lft (some false)
     else
      cnt (IntKind.i64.wrap (x3 + 1))
 else
  lft (some true)
noncomputable def Vh (f1 : OX) (to2 : (List Int)) : Option (Bool) :=
 bif ((to2.length : Int) != (f1.Slots.length : Int)) then
  some false
 else
  Pr (fun s=>UR to2 f1 s) 0

noncomputable def Vw (x1 : OZ) : Option (Bool) :=
 (Su x1).bind fun r2 =>
 some r2.2

noncomputable def VO (f1 : OX) (r2 : Pj) (x4 : Int) : Option ((Int) ⊕ (Int)) :=
 bif (decide (x4 < (f1.Code.length : Int))) then
  (ixO f1.Code x4).bind fun x_x5 =>
  (ixO r2.Keep x4).bind fun x_x6 =>
  bif (!x_x6) then
   (Vw x_x5).bind fun r7 =>
   bif (!r7) then
    lft (some 12)
   else
    cnt (IntKind.i64.wrap (x4 + 1))
  else
   cnt (IntKind.i64.wrap (x4 + 1))
 else
  lft (some 0)
noncomputable def VP (f1 : OX) (r2 : Pj) : Option (Int) :=
 Pr (fun s=>VO f1 r2 s) 0
noncomputable def Uo (f1 : OX) (r2 : Pj) : Option (Int) :=
 (Vh f1 r2.To).bind fun r3 =>
 bif (!r3) then
  some 12
 else
  bif ((r2.Keep.length : Int) != (f1.Code.length : Int)) then
   some 12
  else
   VP f1 r2

noncomputable def QB (x_x9 : (List Int)) (cap3 : Pj) (k1 : Int) (r6 : Int × Bool) (x10 : Int) : Option ((Int) ⊕ (Int × Bool)) :=
 bif (decide (x10 < (x_x9.length : Int))) then
  (ixO x_x9 x10).bind fun x_x11 =>
  (ixO cap3.Keep k1).bind fun x_x12 =>
  bif (x_x12 == (x_x11 != r6.1)) then
   (ixO cap3.To x_x11).bind fun x_x13 =>
   (ixO cap3.To r6.1).bind fun x_x14 =>
   bif (x_x13 == x_x14) then
    lft (some (x_x11,true))
   else
    cnt (IntKind.i64.wrap (x10 + 1))
  else
   cnt (IntKind.i64.wrap (x10 + 1))
 else
  lft (some (0,false))
noncomputable def PR (cap4 : Pf) (k1 : Int) (cap3 : Pj) (r6 : Int × Bool) : Option (Int × Bool) :=
 (ixO cap4.Out k1).bind fun x_x9 =>
 Pr (fun s=>QB x_x9 cap3 k1 r6 s) 0
noncomputable def Qs (k1 : Int) (cap2 : OX) (cap3 : Pj) (cap4 : Pf) : Option (Int × Bool) :=
 (ixO cap2.Code k1).bind fun x_x5 =>
 (Su x_x5).bind fun r6 =>
 bif (!r6.2) then
  some (0,false)
 else
  bif (x_x5.Op == 17) then
   (ixO cap3.To x_x5.A).bind fun x_x7 =>
   (ixO cap3.To x_x5.B).bind fun x_x8 =>
   bif (x_x7 == x_x8) then
    some (0,false)
   else
    PR cap4 k1 cap3 r6
  else
   PR cap4 k1 cap3 r6

noncomputable def TD (f1 : OX) (r3 : Pj) (l2 : Pf) (x6 : Int) : Option ((Int) ⊕ (Int × Int × Bool)) :=
 bif (decide (x6 < (f1.Code.length : Int))) then
  (Qs x6 f1 r3 l2).bind fun r7 =>
  bif r7.2 then
   lft (some (x6,r7.1,true))
  else
   cnt (IntKind.i64.wrap (x6 + 1))
 else
  lft (some (0,0,false))
noncomputable def TE (f1 : OX) (r3 : Pj) (l2 : Pf) : Option (Int × Int × Bool) :=
 Pr (fun s=>TD f1 r3 l2 s) 0
noncomputable def Tv (f1 : OX) (l2 : Pf) (r3 : Pj) : Option (Int × Int × Bool) :=
 (Th f1 l2).bind fun r4 =>
 bif (r4 != 0) then
  some (0,0,false)
 else
  (Uo f1 r3).bind fun r5 =>
  bif (r5 != 0) then
   some (0,0,false)
  else
   TE f1 r3 l2

noncomputable def RM (f1 : OX) (l2 : Pf) (r3 : Pj) : Option (Int) :=
 (Th f1 l2).bind fun r4 =>
 bif (r4 != 0) then
  some 11
 else
  (Uo f1 r3).bind fun r5 =>
  bif (r5 != 0) then
   some 12
  else
   (Tv f1 l2 r3).bind fun r6 =>
   bif r6.2.2 then
    some 12
   else
    some 0

noncomputable def Yt  : Option (Bool) :=
 (RM (OX.mk 0 ([(Pn.mk 8 8),(Pn.mk 8 8)] : List Pn) ([(OZ.mk 16 0 0 0 0),(OZ.mk 16 1 0 0 0),(OZ.mk 15 0 0 0 0),(OZ.mk 23 0 0 0 0)] : List OZ)) (Pf.mk ([([0] : List Int),([0] : List Int),([] : List Int),([] : List Int)] : List (List Int))) (Pj.mk ([0,1] : List Int) ([true,true,true,true] : List Bool))).bind fun r1 =>
 bif (r1 == 0) then
  (RM (OX.mk 0 ([(Pn.mk 8 8),(Pn.mk 8 8)] : List Pn) ([(OZ.mk 16 0 0 0 0),(OZ.mk 16 1 0 0 0),(OZ.mk 15 0 0 0 0),(OZ.mk 23 0 0 0 0)] : List OZ)) (Pf.mk ([([0] : List Int),([0] : List Int),([] : List Int),([] : List Int)] : List (List Int))) (Pj.mk ([0,0] : List Int) ([true,true,true,true] : List Bool))).bind fun r2 =>
  some (r2 == 12)
 else
  some false

noncomputable def Abs (list1 : (List Int)) (limit2 : Int) : Option (Mk) :=
 chk (0 ≤ (Sx (list1.length : Int) limit2) ∧ (Sx (list1.length : Int) limit2) ≤ list1.length) <|
 some (Mk.mk (list1.take (Sx (list1.length : Int) limit2).toNat) 0)

noncomputable def Ws (c1 : Mk) : Option (Bool × Mk) :=
 some ((decide (c1.at_ < (c1.list.length : Int))),c1)

noncomputable def Ux (n2 : Int) (c3 : List Int) (c4 : Int) : Option (Int × Mk) :=
 (ixO c3 c4).bind fun x_x6 =>
 some (IntKind.i64.wrap ((IntKind.i64.wrap ((IntKind.i64.wrap (x_x6)) * n2)).tdiv 256),(Mk.mk c3 (IntKind.i64.wrap (c4 + 1))))
noncomputable def Pc (c1 : Mk) (n2 : Int) : Option (Int × Mk) :=
 (Ws c1).bind fun r5 =>
 bif (!r5.1) then
  some (0,r5.2)
 else
  bif (decide (n2 < 1)) then
   some (0,r5.2)
  else
   Ux n2 r5.2.list r5.2.at_

noncomputable def Uy (c1 : Mk) : Option (Pn × Mk) :=
 (Pc c1 7).bind fun r2 =>
 chk (0 ≤ r2.1 ∧ r2.1 < ([8,4,8,1,2,16,8] : List Int).length) <|
 ((([8,4,8,1,2,16,8] : List Int))[r2.1.toNat]?).bind fun x_e3 =>
 (Pc r2.2 8).bind fun r4 =>
 chk (0 ≤ r4.1 ∧ r4.1 < ([8,4,1,8,16,2,32,64] : List Int).length) <|
 ((([8,4,1,8,16,2,32,64] : List Int))[r4.1.toNat]?).bind fun x_e5 =>
 some ((Pn.mk x_e3 x_e5),r4.2)

noncomputable def TX (c4 : List Int) (c5 : Int) (l6 : List Pn) (n7 : Int) : Option (((List Int) × Int × (List Pn) × Int) ⊕ ((List Pn) × Mk)) :=
 bif (decide (n7 > 0)) then
  (Uy (Mk.mk c4 c5)).bind fun r8 =>
  chk (l6.length + ([r8.1] : List Pn).length ≤ 16777216) <|
  cnt (r8.2.list,r8.2.at_,l6 ++ ([r8.1] : List Pn),IntKind.i64.wrap (n7 - 1))
 else
  lft (some (l6,(Mk.mk c4 c5)))
noncomputable def TR (c1 : Mk) (most2 : Int) : Option ((List Pn) × Mk) :=
 (Pc c1 (IntKind.i64.wrap (most2 + 1))).bind fun r3 =>
 Pr (fun s=>TX s.1 s.2.1 s.2.2.1 s.2.2.2) (r3.2.list,r3.2.at_,([] : List Pn),r3.1)

noncomputable def UB (f2 : OX) (s3 : Int) (c1 : Mk) (l4 : List Int) (k5 : Int) : Option (((List Int) × Int) ⊕ (Int × Mk)) :=
 bif (decide (k5 < (f2.Slots.length : Int))) then
  (ixO f2.Slots k5).bind fun x_x6 =>
  (ixO f2.Slots s3).bind fun x_x7 =>
  bif (x_x6.Size == x_x7.Size) then
   chk (l4.length + ([k5] : List Int).length ≤ 16777216) <|
   cnt (l4 ++ ([k5] : List Int),IntKind.i64.wrap (k5 + 1))
  else
   cnt (l4,IntKind.i64.wrap (k5 + 1))
 else
  lft (
   (Pc c1 (l4.length : Int)).bind fun r8 =>
   chk (0 ≤ r8.1 ∧ r8.1 < l4.length) <|
   ((l4)[r8.1.toNat]?).bind fun l_e9 =>
   some (l_e9,r8.2))
noncomputable def Te (c1 : Mk) (f2 : OX) (s3 : Int) : Option (Int × Mk) :=
 Pr (fun s=>UB f2 s3 c1 s.1 s.2) (([] : List Int),0)

noncomputable def Td (c1 : Mk) : Option (Int × Mk) :=
 (Pc c1 6).bind fun r2 =>
 bif (r2.1 == 0) then
  (Pc r2.2 3).bind fun r3 =>
  some (IntKind.u64.wrap (18446744073709551615 - (IntKind.u64.wrap (r3.1))),r3.2)
 else
  bif (r2.1 == 1) then
   (Pc r2.2 64).bind fun r4 =>
   chk (0 ≤ r4.1) <|
   some (IntKind.u64.wrap (1 * 2 ^ (Nat.min r4.1.toNat IntKind.u64.bits)),r4.2)
  else
   bif (r2.1 == 2) then
    some (0,r2.2)
   else
    (Pc r2.2 256).bind fun r5 =>
    some (IntKind.u64.wrap (r5.1),r5.2)

noncomputable def UA (params4 : (List Int)) (i3 : Int) (r23 : Int × Mk) (c24 : List Int) (c25 : Int) (out26 : List OZ) (a27 : Int) : Option (((List Int) × Int × (List OZ) × Int) ⊕ ((List OZ) × Mk)) :=
 (ixO params4 (IntKind.i64.wrap ((IntKind.i64.wrap (i3 + 1)) + r23.1))).bind fun x_x28 =>
 bif (decide (a27 < x_x28)) then
  (Pc (Mk.mk c24 c25) 8).bind fun r29 =>
  bif (decide (r29.1 < 7)) then
   (Pc r29.2 4).bind fun r30 =>
   chk (out26.length + ([(OZ.mk 18 a27 r30.1 0 0)] : List OZ).length ≤ 16777216) <|
   cnt (r30.2.list,r30.2.at_,out26 ++ ([(OZ.mk 18 a27 r30.1 0 0)] : List OZ),IntKind.i64.wrap (a27 + 1))
  else
   cnt (r29.2.list,r29.2.at_,out26,IntKind.i64.wrap (a27 + 1))
 else
  lft (
   chk (out26.length + ([(OZ.mk 22 (IntKind.i64.wrap ((IntKind.i64.wrap (i3 + 1)) + r23.1)) 0 0 0)] : List OZ).length ≤ 16777216) <|
   some (out26 ++ ([(OZ.mk 22 (IntKind.i64.wrap ((IntKind.i64.wrap (i3 + 1)) + r23.1)) 0 0 0)] : List OZ),(Mk.mk c24 c25)))
noncomputable def WX (r5 : Int × Mk) (r6 : Int × Mk) : Option ((List OZ) × Mk) :=
 some (([(OZ.mk 14 r5.1 0 0 0)] : List OZ),r6.2)
noncomputable def RI (r6 : Int × Mk) (params4 : (List Int)) (i3 : Int) (r5 : Int × Mk) (x22 : Bool) : Option ((List OZ) × Mk) :=
 bif x22 then
  (Pc r6.2 (IntKind.i64.wrap ((IntKind.i64.wrap ((params4.length : Int) - i3)) - 1))).bind fun r23 =>
  Pr (fun s=>UA params4 i3 r23 s.1 s.2.1 s.2.2.1 s.2.2.2) (r23.2.list,r23.2.at_,([] : List OZ),0)
 else
  WX r5 r6
noncomputable def RH (r6 : Int × Mk) (f2 : OX) (r5 : Int × Mk) (params4 : (List Int)) (i3 : Int) (x20 : Bool) : Option ((List OZ) × Mk) :=
 bif x20 then
  (Pc r6.2 f2.Params).bind fun r21 =>
  some (([(OZ.mk 19 r5.1 r21.1 0 0)] : List OZ),r21.2)
 else
  bif (decide (r6.1 ≥ 17)) then
   RI r6 params4 i3 r5 (decide ((IntKind.i64.wrap (i3 + 1)) < (params4.length : Int)))
  else
   RI r6 params4 i3 r5 false
noncomputable def RG (r6 : Int × Mk) (f2 : OX) (r5 : Int × Mk) (params4 : (List Int)) (i3 : Int) (x11 : Bool) : Option ((List OZ) × Mk) :=
 bif x11 then
  (Pc r6.2 (f2.Slots.length : Int)).bind fun r12 =>
  (Te r12.2 f2 r12.1).bind fun r13 =>
  some (([(OZ.mk 17 r13.1 r12.1 0 0)] : List OZ),r13.2)
 else
  bif (decide (r6.1 < 11)) then
   (Td r6.2).bind fun r14 =>
   some (([(OZ.mk 0 r5.1 0 0 r14.1)] : List OZ),r14.2)
  else
   bif (decide (r6.1 < 13)) then
    (Pc r6.2 10).bind fun r15 =>
    (Pc r15.2 4).bind fun r16 =>
    (Pc r16.2 8).bind fun r17 =>
    some (([(OZ.mk (IntKind.i64.wrap (2 + r15.1)) r5.1 r16.1 r17.1 0)] : List OZ),r17.2)
   else
    bif (decide (r6.1 < 15)) then
     some (([(OZ.mk 14 r5.1 0 0 0)] : List OZ),r6.2)
    else
     bif (r6.1 == 15) then
      (Pc r6.2 3).bind fun r18 =>
      chk (0 ≤ r18.1 ∧ r18.1 < ([13,12,1] : List Int).length) <|
      ((([13,12,1] : List Int))[r18.1.toNat]?).bind fun x_e19 =>
      some (([(OZ.mk x_e19 r5.1 0 0 0)] : List OZ),r18.2)
     else
      bif (r6.1 == 16) then
       RH r6 f2 r5 params4 i3 (decide (f2.Params > 0))
      else
       RH r6 f2 r5 params4 i3 false
noncomputable def RF (r6 : Int × Mk) (f2 : OX) (r5 : Int × Mk) (params4 : (List Int)) (i3 : Int) (x9 : Bool) : Option ((List OZ) × Mk) :=
 bif x9 then
  (Pc r6.2 (f2.Slots.length : Int)).bind fun r10 =>
  some (([(OZ.mk 15 r5.1 r10.1 0 0)] : List OZ),r10.2)
 else
  bif (decide (r6.1 < 9)) then
   RG r6 f2 r5 params4 i3 (decide ((f2.Slots.length : Int) > 0))
  else
   RG r6 f2 r5 params4 i3 false
noncomputable def RE (r6 : Int × Mk) (f2 : OX) (r5 : Int × Mk) (params4 : (List Int)) (i3 : Int) (x7 : Bool) : Option ((List OZ) × Mk) :=
 bif x7 then
  (Pc r6.2 (f2.Slots.length : Int)).bind fun r8 =>
  some (([(OZ.mk 16 r8.1 r5.1 0 0)] : List OZ),r8.2)
 else
  bif (decide (r6.1 < 6)) then
   RF r6 f2 r5 params4 i3 (decide ((f2.Slots.length : Int) > 0))
  else
   RF r6 f2 r5 params4 i3 false
noncomputable def Uz (c1 : Mk) (f2 : OX) (i3 : Int) (params4 : (List Int)) : Option ((List OZ) × Mk) :=
 (Pc c1 4).bind fun r5 =>
 (Pc r5.2 20).bind fun r6 =>
 bif (decide (r6.1 < 3)) then
  RE r6 f2 r5 params4 i3 (decide ((f2.Slots.length : Int) > 0))
 else
  RE r6 f2 r5 params4 i3 false

noncomputable def Rt (k32 : Int) (code31 : List OZ) (r33 : Int × Mk) (to34 : Int) (x35 : Bool) : Option (((List Int) × Int × (List OZ) × Int) ⊕ (OX × Mk)) :=
 bif x35 then
  chk (0 ≤ k32 ∧ k32 < code31.length) <|
  ((code31)[k32.toNat]?).bind fun code_o38 =>
  cnt (r33.2.list,r33.2.at_,code31.set k32.toNat (OZ.mk code_o38.Op to34 code_o38.B code_o38.C code_o38.Imm),IntKind.i64.wrap (k32 + 1))
 else
  chk (0 ≤ k32 ∧ k32 < code31.length) <|
  ((code31)[k32.toNat]?).bind fun code_e39 =>
  bif (code_e39.Op == 21) then
   chk (0 ≤ k32 ∧ k32 < code31.length) <|
   ((code31)[k32.toNat]?).bind fun code_e40 =>
   bif (decide (code_e40.B < 0)) then
    chk (0 ≤ k32 ∧ k32 < code31.length) <|
    ((code31)[k32.toNat]?).bind fun code_o41 =>
    cnt (r33.2.list,r33.2.at_,code31.set k32.toNat (OZ.mk code_o41.Op code_o41.A to34 code_o41.C code_o41.Imm),IntKind.i64.wrap (k32 + 1))
   else
    cnt (r33.2.list,r33.2.at_,code31,IntKind.i64.wrap (k32 + 1))
  else
   cnt (r33.2.list,r33.2.at_,code31,IntKind.i64.wrap (k32 + 1))
noncomputable def Qb (k32 : Int) (code31 : List OZ) (r33 : Int × Mk) (to34 : Int) : Option (((List Int) × Int × (List OZ) × Int) ⊕ (OX × Mk)) :=
 chk (0 ≤ k32 ∧ k32 < code31.length) <|
 ((code31)[k32.toNat]?).bind fun code_e36 =>
 bif (code_e36.Op == 20) then
  chk (0 ≤ k32 ∧ k32 < code31.length) <|
  ((code31)[k32.toNat]?).bind fun code_e37 =>
  Rt k32 code31 r33 to34 (decide (code_e37.A < 0))
 else
  Rt k32 code31 r33 to34 false
noncomputable def Rs (x_x5 : Int) (f17 : List Pn) (c29 : List Int) (c30 : Int) (code31 : List OZ) (k32 : Int) : Option (((List Int) × Int × (List OZ) × Int) ⊕ (OX × Mk)) :=
 bif (decide (k32 < (code31.length : Int))) then
  (Pc (Mk.mk c29 c30) 8).bind fun r33 =>
  bif (decide ((IntKind.i64.wrap ((IntKind.i64.wrap (k32 + r33.1)) - 2)) < 0)) then
   Qb k32 code31 r33 (IntKind.i64.wrap ((code31.length : Int) - 1))
  else
   bif (decide ((IntKind.i64.wrap ((IntKind.i64.wrap (k32 + r33.1)) - 2)) ≥ (code31.length : Int))) then
    Qb k32 code31 r33 (IntKind.i64.wrap ((code31.length : Int) - 1))
   else
    Qb k32 code31 r33 (IntKind.i64.wrap ((IntKind.i64.wrap (k32 + r33.1)) - 2))
 else
  lft (some ((OX.mk x_x5 f17 code31),(Mk.mk c29 c30)))
noncomputable def QI (code16 : List OZ) (x_x5 : Int) (f17 : List Pn) (c23 : List Int) (c24 : Int) (end25 : Int) (end26 : Int) : Option (OX × Mk) :=
 chk (code16.length + ([(OZ.mk end25 0 0 0 end26)] : List OZ).length ≤ 16777216) <|
 Pr (fun s=>Rs x_x5 f17 s.1 s.2.1 s.2.2.1 s.2.2.2) (c23,c24,code16 ++ ([(OZ.mk end25 0 0 0 end26)] : List OZ),0)
noncomputable def SL (x_x5 : Int) (i2 : Int) (params3 : (List Int)) (c14 : List Int) (c15 : Int) (code16 : List OZ) (f17 : List Pn) (n18 : Int) : Option (((List Int) × Int × (List OZ) × (List Pn) × Int) ⊕ (OX × Mk)) :=
 bif (decide (n18 > 0)) then
  (Uz (Mk.mk c14 c15) (OX.mk x_x5 f17 ([])) i2 params3).bind fun r19 =>
  chk (code16.length + r19.1.length ≤ 16777216) <|
  (Pc r19.2 9).bind fun r20 =>
  bif (r20.1 == 7) then
   (Pc r20.2 4).bind fun r21 =>
   chk ((code16 ++ r19.1).length + ([(OZ.mk 21 r21.1 (-1) 0 0)] : List OZ).length ≤ 16777216) <|
   cnt (r21.2.list,r21.2.at_,(code16 ++ r19.1) ++ ([(OZ.mk 21 r21.1 (-1) 0 0)] : List OZ),f17,IntKind.i64.wrap (n18 - 1))
  else
   bif (r20.1 == 8) then
    (Pc r20.2 3).bind fun r22 =>
    bif (r22.1 == 2) then
     chk ((code16 ++ r19.1).length + ([(OZ.mk 20 (-1) 0 0 0)] : List OZ).length ≤ 16777216) <|
     cnt (r22.2.list,r22.2.at_,(code16 ++ r19.1) ++ ([(OZ.mk 20 (-1) 0 0 0)] : List OZ),f17,IntKind.i64.wrap (n18 - 1))
    else
     cnt (r22.2.list,r22.2.at_,code16 ++ r19.1,f17,IntKind.i64.wrap (n18 - 1))
   else
    cnt (r20.2.list,r20.2.at_,code16 ++ r19.1,f17,IntKind.i64.wrap (n18 - 1))
 else
  lft (
   (Pc (Mk.mk c14 c15) 12).bind fun r27 =>
   bif (r27.1 == 11) then
    (Td r27.2).bind fun r28 =>
    QI code16 x_x5 f17 r28.2.list r28.2.at_ 24 r28.1
   else
    QI code16 x_x5 f17 r27.2.list r27.2.at_ 23 0)
noncomputable def SK (r6 : (List Pn) × Mk) (most4 : Int) (x_x5 : Int) (i2 : Int) (params3 : (List Int)) (c7 : List Int) (c8 : Int) (code9 : List OZ) (s10 : Int) : Option (((List Int) × Int × (List OZ) × Int) ⊕ (OX × Mk)) :=
 bif (decide (s10 < (r6.1.length : Int))) then
  (Pc (Mk.mk c7 c8) 4).bind fun r11 =>
  bif (decide (r11.1 < 3)) then
   (Pc r11.2 4).bind fun r12 =>
   chk (code9.length + ([(OZ.mk 16 s10 r12.1 0 0)] : List OZ).length ≤ 16777216) <|
   cnt (r12.2.list,r12.2.at_,code9 ++ ([(OZ.mk 16 s10 r12.1 0 0)] : List OZ),IntKind.i64.wrap (s10 + 1))
  else
   cnt (r11.2.list,r11.2.at_,code9,IntKind.i64.wrap (s10 + 1))
 else
  lft (
   (Pc (Mk.mk c7 c8) (IntKind.i64.wrap (most4 + 1))).bind fun r13 =>
   Pr (fun s=>SL x_x5 i2 params3 s.1 s.2.1 s.2.2.1 s.2.2.2.1 s.2.2.2.2) (r13.2.list,r13.2.at_,code9,r6.1,r13.1))
noncomputable def Sq (c1 : Mk) (i2 : Int) (params3 : (List Int)) (most4 : Int) : Option (OX × Mk) :=
 (ixO params3 i2).bind fun x_x5 =>
 (TR c1 6).bind fun r6 =>
 Pr (fun s=>SK r6 most4 x_x5 i2 params3 s.1 s.2.1 s.2.2.1 s.2.2.2) (r6.2.list,r6.2.at_,([] : List OZ),0)

noncomputable def Ta (most3 : Int) (c10 : List Int) (c11 : Int) (p12 : List OX) (i13 : Int) (params14 : List Int) : Option (((List Int) × Int × (List OX) × Int × (List Int)) ⊕ (Pt × Mk)) :=
 bif (decide (i13 < (params14.length : Int))) then
  chk (([] : List OX).length + p12.length ≤ 16777216) <|
  (Sq (Mk.mk c10 c11) i13 params14 most3).bind fun r15 =>
  chk ((([] : List OX) ++ p12).length + ([r15.1] : List OX).length ≤ 16777216) <|
  cnt (r15.2.list,r15.2.at_,(([] : List OX) ++ p12) ++ ([r15.1] : List OX),IntKind.i64.wrap (i13 + 1),params14)
 else
  lft (some ((Pt.mk p12),(Mk.mk c10 c11)))
noncomputable def SZ (most3 : Int) (c5 : List Int) (c6 : Int) (params7 : List Int) (n8 : Int) : Option (((List Int) × Int × (List Int) × Int) ⊕ (Pt × Mk)) :=
 bif (decide (n8 > 0)) then
  (Pc (Mk.mk c5 c6) 4).bind fun r9 =>
  chk (params7.length + ([r9.1] : List Int).length ≤ 16777216) <|
  cnt (r9.2.list,r9.2.at_,params7 ++ ([r9.1] : List Int),IntKind.i64.wrap (n8 - 1))
 else
  lft (Pr (fun s=>Ta most3 s.1 s.2.1 s.2.2.1 s.2.2.2.1 s.2.2.2.2) (c5,c6,[],0,params7))
noncomputable def SW (c1 : Mk) (funcs2 : Int) (most3 : Int) : Option (Pt × Mk) :=
 (Pc c1 funcs2).bind fun r4 =>
 Pr (fun s=>SZ most3 s.1 s.2.1 s.2.2.1 s.2.2.2) (r4.2.list,r4.2.at_,([0] : List Int),r4.1)

noncomputable def Re (x_x3 : OZ) (k2 : Int) (x4 : Bool) : Option ((List Int)) :=
 bif x4 then
  some ([] : List Int)
 else
  bif (x_x3.Op == 21) then
   bif (decide (x_x3.B < (IntKind.i64.wrap (k2 + 1)))) then
    some ([x_x3.B,IntKind.i64.wrap (k2 + 1)] : List Int)
   else
    bif (decide (x_x3.B > (IntKind.i64.wrap (k2 + 1)))) then
     some ([IntKind.i64.wrap (k2 + 1),x_x3.B] : List Int)
    else
     some ([IntKind.i64.wrap (k2 + 1)] : List Int)
  else
   some ([IntKind.i64.wrap (k2 + 1)] : List Int)
noncomputable def YP (f1 : OX) (k2 : Int) : Option ((List Int)) :=
 (ixO f1.Code k2).bind fun x_x3 =>
 bif (x_x3.Op == 20) then
  some ([x_x3.A] : List Int)
 else
  bif (x_x3.Op == 23) then
   Re x_x3 k2 (x_x3.Op == 23)
  else
   Re x_x3 k2 (x_x3.Op == 24)
noncomputable def Xz (f1 : OX) (k2 : Int) : Option ((List Int)) :=
 bif (decide (k2 < 0)) then
  some ([] : List Int)
 else
  bif (decide (k2 ≥ (f1.Code.length : Int))) then
   some ([] : List Int)
  else
   YP f1 k2

noncomputable def Rr (x1 : OZ) : Option (Bool) :=
 bif (x1.Op == 16) then
  some true
 else
  some (x1.Op == 17)

noncomputable def Rv (x1 : OZ) : Option (Int × Bool) :=
 (Rr x1).bind fun r2 =>
 bif r2 then
  some (x1.A,true)
 else
  some (0,false)

noncomputable def RZ (s1 : (List Int)) (n2 : Int) (out3 : List Int) (i4 : Int) : Option (((List Int) × Int) ⊕ ((List Int))) :=
 bif (decide (i4 < (s1.length : Int))) then
  (ixO s1 i4).bind fun x_x5 =>
  bif (x_x5 != n2) then
   (ixO s1 i4).bind fun x_x6 =>
   chk (out3.length + ([x_x6] : List Int).length ≤ 16777216) <|
   cnt (out3 ++ ([x_x6] : List Int),IntKind.i64.wrap (i4 + 1))
  else
   cnt (out3,IntKind.i64.wrap (i4 + 1))
 else
  lft (some out3)
noncomputable def Vk (s1 : (List Int)) (n2 : Int) : Option ((List Int)) :=
 Pr (fun s=>RZ s1 n2 s.1 s.2) (([] : List Int),0)

noncomputable def TC (x1 : OZ) : Option ((List Int)) :=
 bif (x1.Op == 15) then
  some ([x1.B] : List Int)
 else
  bif (x1.Op == 17) then
   some ([x1.B] : List Int)
  else
   some ([] : List Int)

noncomputable def UG (n1 : Int) : Option (Bool) :=
 bif (decide (n1 ≥ 0)) then
  some (decide (n1 < 512))
 else
  some false

noncomputable def RY (s1 : (List Int)) (i6 : Int) (out7 : List Int) (done8 : Bool) : Option (((List Int) × Bool × Int) ⊕ ((List Int))) :=
 (ixO s1 i6).bind fun x_x12 =>
 chk (out7.length + ([x_x12] : List Int).length ≤ 16777216) <|
 cnt (out7 ++ ([x_x12] : List Int),done8,IntKind.i64.wrap (i6 + 1))
noncomputable def SY (s1 : (List Int)) (i6 : Int) (n2 : Int) (out4 : List Int) (done5 : Bool) (x9 : Bool) : Option (((List Int) × Bool × Int) ⊕ ((List Int))) :=
 bif x9 then
  (ixO s1 i6).bind fun x_x11 =>
  bif (decide (x_x11 > n2)) then
   chk (out4.length + ([n2] : List Int).length ≤ 16777216) <|
   RY s1 i6 (out4 ++ ([n2] : List Int)) true
  else
   RY s1 i6 out4 true
 else
  RY s1 i6 out4 done5
noncomputable def QX (s1 : (List Int)) (n2 : Int) (out4 : List Int) (done5 : Bool) (i6 : Int) : Option (((List Int) × Bool × Int) ⊕ ((List Int))) :=
 bif (decide (i6 < (s1.length : Int))) then
  bif (!done5) then
   (ixO s1 i6).bind fun x_x10 =>
   SY s1 i6 n2 out4 done5 (decide (x_x10 ≥ n2))
  else
   SY s1 i6 n2 out4 done5 false
 else
  lft (
   bif (!done5) then
    chk (out4.length + ([n2] : List Int).length ≤ 16777216) <|
    some (out4 ++ ([n2] : List Int))
   else
    some out4)
noncomputable def Sc (s1 : (List Int)) (n2 : Int) : Option ((List Int)) :=
 (UG n2).bind fun r3 =>
 Pr (fun s=>QX s1 n2 s.1 s.2.1 s.2.2) (([] : List Int),(!r3),0)

noncomputable def TJ (b2 : (List Int)) (out3 : List Int) (i4 : Int) : Option (((List Int) × Int) ⊕ ((List Int))) :=
 bif (decide (i4 < (b2.length : Int))) then
  (ixO b2 i4).bind fun x_x5 =>
  (Sc out3 x_x5).bind fun r6 =>
  cnt (r6,IntKind.i64.wrap (i4 + 1))
 else
  lft (some out3)
noncomputable def SN (a1 : (List Int)) (b2 : (List Int)) : Option ((List Int)) :=
 chk (([] : List Int).length + a1.length ≤ 16777216) <|
 Pr (fun s=>TJ b2 s.1 s.2) (([] : List Int) ++ a1,0)

noncomputable def Aaw (x1 : OZ) (out2 : (List Int)) : Option ((List Int)) :=
 (Rv x1).bind fun r3 =>
 bif r3.2 then
  (Vk out2 r3.1).bind fun r4 =>
  (TC x1).bind fun r5 =>
  (SN r4 r5).bind fun r6 =>
  some r6
 else
  (TC x1).bind fun r7 =>
  (SN out2 r7).bind fun r8 =>
  some r8

noncomputable def YQ (k4 : Int) (x5 : List (List Int)) : Option (((List (List Int)) × Int) ⊕ (Pf)) :=
 cnt (x5,IntKind.i64.wrap (k4 + 1))
noncomputable def Ul (r6 : (List Int)) (k4 : Int) (f1 : OX) (l2 : Pf) (x7 : List (List Int)) (i8 : Int) : Option (((List (List Int)) × Int) ⊕ (((List (List Int)) × Int) ⊕ (Pf))) :=
 bif (decide (i8 < (r6.length : Int))) then
  chk (0 ≤ i8 ∧ i8 < r6.length) <|
  ((r6)[i8.toNat]?).bind fun next_e9 =>
  chk (0 ≤ k4 ∧ k4 < x7.length) <|
  ((x7)[k4.toNat]?).bind fun x_e10 =>
  (ixO f1.Code next_e9).bind fun x_x11 =>
  (ixO l2.Out next_e9).bind fun x_x12 =>
  (Aaw x_x11 x_x12).bind fun r13 =>
  (SN x_e10 r13).bind fun r14 =>
  chk (0 ≤ k4 ∧ k4 < x7.length) <|
  ((x7)[k4.toNat]?).bind fun _ =>
  cnt (x7.set k4.toNat r14,IntKind.i64.wrap (i8 + 1))
 else
  lft (YQ k4 x7)
noncomputable def Uk (f1 : OX) (l2 : Pf) (x3 : List (List Int)) (k4 : Int) : Option (((List (List Int)) × Int) ⊕ (Pf)) :=
 bif (decide (k4 < (f1.Code.length : Int))) then
  (Xz f1 k4).bind fun r6 =>
  Pr (fun s=>Ul r6 k4 f1 l2 s.1 s.2) (x3,0)
 else
  lft (some (Pf.mk x3))
noncomputable def ZQ (f1 : OX) (l2 : Pf) : Option (Pf) :=
 chk (0 ≤ (f1.Code.length : Int) ∧ (f1.Code.length : Int) ≤ 16777216) <|
 Pr (fun s=>Uk f1 l2 s.1 s.2) (List.replicate (f1.Code.length : Int).toNat ([] : (List Int)),0)

noncomputable def Tm (a1 : (List Int)) (b2 : (List Int)) (i3 : Int) : Option ((Int) ⊕ (Bool)) :=
 bif (decide (i3 < (a1.length : Int))) then
  (ixO a1 i3).bind fun x_x4 =>
  (ixO b2 i3).bind fun x_x5 =>
  bif (x_x4 != x_x5) then
   lft (some false)
  else
   cnt (IntKind.i64.wrap (i3 + 1))
 else
  lft (some true)
noncomputable def ZN (a1 : (List Int)) (b2 : (List Int)) : Option (Bool) :=
 bif ((a1.length : Int) != (b2.length : Int)) then
  some false
 else
  Pr (fun s=>Tm a1 b2 s) 0

noncomputable def Rz (a1 : (List (List Int))) (b2 : (List (List Int))) (i3 : Int) : Option ((Int) ⊕ (Bool)) :=
 bif (decide (i3 < (a1.length : Int))) then
  (ixO a1 i3).bind fun x_x4 =>
  (ixO b2 i3).bind fun x_x5 =>
  (ZN x_x4 x_x5).bind fun r6 =>
  bif (!r6) then
   lft (some false)
  else
   cnt (IntKind.i64.wrap (i3 + 1))
 else
  lft (some true)
noncomputable def VW (a1 : (List (List Int))) (b2 : (List (List Int))) : Option (Bool) :=
 bif ((a1.length : Int) != (b2.length : Int)) then
  some false
 else
  Pr (fun s=>Rz a1 b2 s) 0

noncomputable def ZP (a1 : Pf) (b2 : Pf) : Option (Bool) :=
 (VW a1.Out b2.Out).bind fun r3 =>
 some r3

noncomputable def XC (f1 : OX) (l2 : List (List Int)) : Option (((List (List Int))) ⊕ (Pf)) :=
 (ZQ f1 (Pf.mk l2)).bind fun r3 =>
 (ZP r3 (Pf.mk l2)).bind fun r4 =>
 bif r4 then
  lft (some (Pf.mk l2))
 else
  cnt r3.Out
noncomputable def SO (f1 : OX) : Option (Pf) :=
 chk (0 ≤ (f1.Code.length : Int) ∧ (f1.Code.length : Int) ≤ 16777216) <|
 Pr (fun s=>XC f1 s) (List.replicate (f1.Code.length : Int).toNat ([] : (List Int)))

noncomputable def TW (n8 : Int) (c9 : List Int) (c10 : Int) (x11 : List (List Int)) : Option (((List Int) × Int × (List (List Int)) × Int) ⊕ (Pf × Mk)) :=
 cnt (c9,c10,x11,IntKind.i64.wrap (n8 - 1))
noncomputable def TU (r12 : Int × Mk) (n8 : Int) (x13 : List (List Int)) (k14 : Int) : Option (((List (List Int)) × Int) ⊕ (((List Int) × Int × (List (List Int)) × Int) ⊕ (Pf × Mk))) :=
 bif (decide (k14 < (x13.length : Int))) then
  chk (0 ≤ k14 ∧ k14 < x13.length) <|
  ((x13)[k14.toNat]?).bind fun x_e15 =>
  (Sc x_e15 r12.1).bind fun r16 =>
  chk (0 ≤ k14 ∧ k14 < x13.length) <|
  ((x13)[k14.toNat]?).bind fun _ =>
  cnt (x13.set k14.toNat r16,IntKind.i64.wrap (k14 + 1))
 else
  lft (TW n8 r12.2.list r12.2.at_ x13)
noncomputable def TV (c5 : List Int) (c6 : Int) (f2 : OX) (n8 : Int) (x7 : List (List Int)) : Option (((List Int) × Int × (List (List Int)) × Int) ⊕ (Pf × Mk)) :=
 (Pc (Mk.mk c5 c6) (f2.Slots.length : Int)).bind fun r12 =>
 Pr (fun s=>TU r12 n8 s.1 s.2) (x7,0)
noncomputable def TT (f2 : OX) (c5 : List Int) (c6 : Int) (x7 : List (List Int)) (n8 : Int) : Option (((List Int) × Int × (List (List Int)) × Int) ⊕ (Pf × Mk)) :=
 bif (decide (n8 > 0)) then
  bif (decide ((f2.Slots.length : Int) > 0)) then
   TV c5 c6 f2 n8 x7
  else
   lft (some ((Pf.mk x7),(Mk.mk c5 c6)))
 else
  lft (some ((Pf.mk x7),(Mk.mk c5 c6)))
noncomputable def TQ (c1 : Mk) (f2 : OX) : Option (Pf × Mk) :=
 (SO f2).bind fun r3 =>
 chk (([] : List (List Int)).length + r3.Out.length ≤ 16777216) <|
 (Pc c1 3).bind fun r4 =>
 Pr (fun s=>TT f2 s.1 s.2.1 s.2.2.1 s.2.2.2) (r4.2.list,r4.2.at_,([] : List (List Int)) ++ r3.Out,r4.1)

noncomputable def Sr (c1 : Mk) : Option (Int × Mk) :=
 (Pc c1 12).bind fun r2 =>
 bif (r2.1 == 11) then
  (Pc r2.2 (([9223372036854775807,(-9223372036854775808),2147483648,2147483647,(-1),16777216,33554432,1048577,512,80] : List Int).length : Int)).bind fun r3 =>
  chk (0 ≤ r3.1 ∧ r3.1 < ([9223372036854775807,(-9223372036854775808),2147483648,2147483647,(-1),16777216,33554432,1048577,512,80] : List Int).length) <|
  ((([9223372036854775807,(-9223372036854775808),2147483648,2147483647,(-1),16777216,33554432,1048577,512,80] : List Int))[r3.1.toNat]?).bind fun l_e4 =>
  some (l_e4,r3.2)
 else
  (Pc r2.2 256).bind fun r5 =>
  (Pc r5.2 7).bind fun r6 =>
  chk (0 ≤ r6.1) <|
  some (IntKind.i64.wrap ((r5.1.fdiv (2 ^ (Nat.min r6.1.toNat IntKind.i64.bits))) - (IntKind.i64.wrap (r2.1.tdiv 9))),r6.2)

noncomputable def QW (n12 : Int) (c13 : List Int) (c14 : Int) (x15 : List (List Int)) : Option (((List Int) × Int × (List (List Int)) × Int) ⊕ (Pf × Mk)) :=
 cnt (c13,c14,x15,IntKind.i64.wrap (n12 - 1))
noncomputable def Uv (r16 : Int × Mk) (n12 : Int) (r17 : Int × Mk) (x18 : List (List Int)) (k19 : Int) : Option (((List (List Int)) × Int) ⊕ (((List Int) × Int × (List (List Int)) × Int) ⊕ (Pf × Mk))) :=
 bif (decide (k19 < (x18.length : Int))) then
  chk (0 ≤ k19 ∧ k19 < x18.length) <|
  ((x18)[k19.toNat]?).bind fun x_e20 =>
  (Sc x_e20 r16.1).bind fun r21 =>
  chk (0 ≤ k19 ∧ k19 < x18.length) <|
  ((x18)[k19.toNat]?).bind fun _ =>
  cnt (x18.set k19.toNat r21,IntKind.i64.wrap (k19 + 1))
 else
  lft (QW n12 r17.2.list r17.2.at_ x18)
noncomputable def Uw (c9 : List Int) (c10 : Int) (f2 : OX) (n12 : Int) (x11 : List (List Int)) : Option (((List Int) × Int × (List (List Int)) × Int) ⊕ (Pf × Mk)) :=
 (Pc (Mk.mk c9 c10) (f2.Slots.length : Int)).bind fun r16 =>
 (Pc r16.2 2).bind fun r17 =>
 bif (r17.1 == 0) then
  Pr (fun s=>Uv r16 n12 r17 s.1 s.2) (x11,0)
 else
  (Pc r17.2 (x11.length : Int)).bind fun r23 =>
  (Pc r23.2 2).bind fun r24 =>
  bif (r24.1 == 0) then
   chk (0 ≤ r23.1 ∧ r23.1 < x11.length) <|
   ((x11)[r23.1.toNat]?).bind fun x_e25 =>
   (Sc x_e25 r16.1).bind fun r26 =>
   chk (0 ≤ r23.1 ∧ r23.1 < x11.length) <|
   ((x11)[r23.1.toNat]?).bind fun _ =>
   QW n12 r24.2.list r24.2.at_ (x11.set r23.1.toNat r26)
  else
   chk (0 ≤ r23.1 ∧ r23.1 < x11.length) <|
   ((x11)[r23.1.toNat]?).bind fun x_e28 =>
   (Vk x_e28 r16.1).bind fun r29 =>
   chk (0 ≤ r23.1 ∧ r23.1 < x11.length) <|
   ((x11)[r23.1.toNat]?).bind fun _ =>
   QW n12 r24.2.list r24.2.at_ (x11.set r23.1.toNat r29)
noncomputable def RD (c5 : List Int) (c6 : Int) (x7 : List (List Int)) : Option (Pf × Mk) :=
 (Pc (Mk.mk c5 c6) 12).bind fun r31 =>
 bif (r31.1 == 10) then
  chk (0 ≤ (1 : Int) ∧ (1 : Int) ≤ x7.length) <|
  some ((Pf.mk (x7.drop ((1 : Int).toNat))),r31.2)
 else
  bif (r31.1 == 11) then
   (Sr r31.2).bind fun r32 =>
   (Sr r32.2).bind fun r33 =>
   chk (0 ≤ (0 : Int) ∧ (0 : Int) < x7.length) <|
   ((x7)[(0 : Int).toNat]?).bind fun _ =>
   some ((Pf.mk (x7.set ((0 : Int).toNat) ([r32.1,r33.1] : List Int))),r33.2)
  else
   some ((Pf.mk x7),r31.2)
noncomputable def Uu (f2 : OX) (c9 : List Int) (c10 : Int) (x11 : List (List Int)) (n12 : Int) : Option (((List Int) × Int × (List (List Int)) × Int) ⊕ (Pf × Mk)) :=
 bif (decide (n12 > 0)) then
  bif (decide ((f2.Slots.length : Int) > 0)) then
   Uw c9 c10 f2 n12 x11
  else
   lft (RD c9 c10 x11)
 else
  lft (RD c9 c10 x11)
noncomputable def Ut (c1 : Mk) (f2 : OX) : Option (Pf × Mk) :=
 (SO f2).bind fun r3 =>
 (Pc c1 3).bind fun r4 =>
 bif (r4.1 == 0) then
  some (r3,r4.2)
 else
  chk (([] : List (List Int)).length + r3.Out.length ≤ 16777216) <|
  (Pc r4.2 4).bind fun r8 =>
  Pr (fun s=>Uu f2 s.1 s.2.1 s.2.2.1 s.2.2.2) (r8.2.list,r8.2.at_,([] : List (List Int)) ++ r3.Out,r8.1)

noncomputable def RK (s1 : (List Int)) (i2 : Int) : Option ((Int) ⊕ (Bool)) :=
 bif (decide (i2 < (s1.length : Int))) then
  (ixO s1 i2).bind fun x_x3 =>
  (UG x_x3).bind fun r4 =>
  bif (!r4) then
   lft (some false)
  else
   bif (decide (i2 > 0)) then
    (ixO s1 i2).bind fun x_x5 =>
    (ixO s1 (IntKind.i64.wrap (i2 - 1))).bind fun x_x6 =>
    bif (decide (x_x5 ≤ x_x6)) then
     lft (some false)
    else
     cnt (IntKind.i64.wrap (i2 + 1))
   else
    cnt (IntKind.i64.wrap (i2 + 1))
 else
  lft (some true)
noncomputable def Wh (s1 : (List Int)) : Option (Bool) :=
 Pr (fun s=>RK s1 s) 0

noncomputable def XF (l2 : Pf) (f1 : OX) (k3 : Int) : Option ((Int) ⊕ (Bool)) :=
 bif (decide (k3 < (l2.Out.length : Int))) then
  (ixO l2.Out k3).bind fun x_x4 =>
  (Wh x_x4).bind fun r5 =>
  bif (!r5) then
   lft (some false)
  else
   (ixO l2.Out k3).bind fun x_x6 =>
   bif (decide ((x_x6.length : Int) > 0)) then
    (ixO l2.Out k3).bind fun x_x7 =>
    (ixO x_x7 (IntKind.i64.wrap ((x_x6.length : Int) - 1))).bind fun x_x8 =>
    bif (decide (x_x8 ≥ (f1.Slots.length : Int))) then
     lft (some false)
    else
     cnt (IntKind.i64.wrap (k3 + 1))
   else
    cnt (IntKind.i64.wrap (k3 + 1))
 else
  lft (some true)
noncomputable def Wj (f1 : OX) (l2 : Pf) : Option (Bool) :=
 bif ((l2.Out.length : Int) != (f1.Code.length : Int)) then
  some false
 else
  Pr (fun s=>XF l2 f1 s) 0

noncomputable def Vj (s1 : (List Int)) (n2 : Int) (i3 : Int) : Option ((Int) ⊕ (Bool)) :=
 bif (decide (i3 < (s1.length : Int))) then
  (ixO s1 i3).bind fun x_x4 =>
  bif (x_x4 == n2) then
   lft (some true)
  else
   cnt (IntKind.i64.wrap (i3 + 1))
 else
  lft (some false)
noncomputable def TF (s1 : (List Int)) (n2 : Int) : Option (Bool) :=
 Pr (fun s=>Vj s1 n2 s) 0

noncomputable def Sy (a1 : (List Int)) (b2 : (List Int)) (out3 : List Int) (i4 : Int) : Option (((List Int) × Int) ⊕ ((List Int))) :=
 bif (decide (i4 < (a1.length : Int))) then
  (ixO a1 i4).bind fun x_x5 =>
  (TF b2 x_x5).bind fun r6 =>
  bif (!r6) then
   (ixO a1 i4).bind fun x_x7 =>
   chk (out3.length + ([x_x7] : List Int).length ≤ 16777216) <|
   cnt (out3 ++ ([x_x7] : List Int),IntKind.i64.wrap (i4 + 1))
  else
   cnt (out3,IntKind.i64.wrap (i4 + 1))
 else
  lft (some out3)
noncomputable def Yw (a1 : (List Int)) (b2 : (List Int)) : Option ((List Int)) :=
 Pr (fun s=>Sy a1 b2 s.1 s.2) (([] : List Int),0)

noncomputable def Sz (r4 : (List Int)) (f1 : OX) (l2 : Pf) (k3 : Int) (out5 : List Int) (i6 : Int) : Option (((List Int) × Int) ⊕ ((List Int))) :=
 bif (decide (i6 < (r4.length : Int))) then
  chk (0 ≤ i6 ∧ i6 < r4.length) <|
  ((r4)[i6.toNat]?).bind fun next_e7 =>
  (ixO f1.Code next_e7).bind fun x_x8 =>
  (ixO l2.Out next_e7).bind fun x_x9 =>
  (Aaw x_x8 x_x9).bind fun r10 =>
  (ixO l2.Out k3).bind fun x_x11 =>
  (Yw r10 x_x11).bind fun r12 =>
  (SN out5 r12).bind fun r13 =>
  cnt (r13,IntKind.i64.wrap (i6 + 1))
 else
  lft (some out5)
noncomputable def VZ (f1 : OX) (l2 : Pf) (k3 : Int) : Option ((List Int)) :=
 (Xz f1 k3).bind fun r4 =>
 Pr (fun s=>Sz r4 f1 l2 k3 s.1 s.2) (([] : List Int),0)

noncomputable def XE (f1 : OX) (l2 : Pf) (k4 : Int) : Option ((Int) ⊕ (Int × Int × Bool)) :=
 bif (decide (k4 < (f1.Code.length : Int))) then
  (VZ f1 l2 k4).bind fun r5 =>
  bif (decide ((r5.length : Int) > 0)) then
   chk (0 ≤ (0 : Int) ∧ (0 : Int) < r5.length) <|
   ((r5)[(0 : Int).toNat]?).bind fun m_e6 =>
   lft (some (k4,m_e6,true))
  else
   cnt (IntKind.i64.wrap (k4 + 1))
 else
  lft (some (0,0,false))
noncomputable def Yz (f1 : OX) (l2 : Pf) : Option (Int × Int × Bool) :=
 (Wj f1 l2).bind fun r3 =>
 bif (!r3) then
  some (0,0,false)
 else
  Pr (fun s=>XE f1 l2 s) 0

noncomputable def Yy (f1 : OX) (l2 : Pf) : Option (Int) :=
 (Yz f1 l2).bind fun r3 =>
 bif r3.2.2 then
  some 11
 else
  (Wj f1 l2).bind fun r4 =>
  bif (!r4) then
   some 11
  else
   some 0

noncomputable def RL (r14 : Int × Bool) (out15 : List (List Int)) (x_x19 : Int) (i16 : Int) (_x20 : Bool) (_x21 : Bool) (_x22 : Bool) (_x23 : Bool) : Option (((List (List Int)) × Int) ⊕ (((List (List Int)) × Int) ⊕ ((List (List Int)) × Int))) :=
 chk (0 ≤ r14.1 ∧ r14.1 < out15.length) <|
 ((out15)[r14.1.toNat]?).bind fun out_e24 =>
 (Sc out_e24 x_x19).bind fun r25 =>
 chk (0 ≤ x_x19 ∧ x_x19 < out15.length) <|
 ((out15)[x_x19.toNat]?).bind fun out_e26 =>
 (Sc out_e26 r14.1).bind fun r27 =>
 chk (0 ≤ r14.1 ∧ r14.1 < out15.length) <|
 ((out15)[r14.1.toNat]?).bind fun _ =>
 chk (0 ≤ x_x19 ∧ x_x19 < (out15.set r14.1.toNat r25).length) <|
 ((out15.set r14.1.toNat r25)[x_x19.toNat]?).bind fun _ =>
 cnt ((out15.set r14.1.toNat r25).set x_x19.toNat r27,IntKind.i64.wrap (i16 + 1))
noncomputable def XN (l2 : Pf) (k6 : Int) (i16 : Int) (r14 : Int × Bool) (out15 : List (List Int)) (strict3 : Bool) (x_x13 : OZ) : Option (((List (List Int)) × Int) ⊕ (((List (List Int)) × Int) ⊕ ((List (List Int)) × Int))) :=
 (ixO l2.Out k6).bind fun x_x18 =>
 (ixO x_x18 i16).bind fun x_x19 =>
 bif (x_x19 == r14.1) then
  cnt (out15,IntKind.i64.wrap (i16 + 1))
 else
  bif (!strict3) then
   bif (x_x13.Op == 17) then
    bif (x_x13.B == x_x19) then
     cnt (out15,IntKind.i64.wrap (i16 + 1))
    else
     RL r14 out15 x_x19 i16 true (x_x13.Op == 17) true (x_x13.B == x_x19)
   else
    RL r14 out15 x_x19 i16 true (x_x13.Op == 17) false false
  else
   RL r14 out15 x_x19 i16 false false false false
noncomputable def SA (k6 : Int) (_x7 : Int) (_x8 : Int) (_x9 : Int) (_x10 : Int) (_x11 : Int) (out12 : List (List Int)) : Option (((List (List Int)) × Int) ⊕ ((List (List Int)) × Int)) :=
 cnt (out12,IntKind.i64.wrap (k6 + 1))
noncomputable def Vm (l2 : Pf) (k6 : Int) (r14 : Int × Bool) (strict3 : Bool) (x_x13 : OZ) (out15 : List (List Int)) (i16 : Int) : Option (((List (List Int)) × Int) ⊕ (((List (List Int)) × Int) ⊕ ((List (List Int)) × Int))) :=
 (ixO l2.Out k6).bind fun x_x17 =>
 bif (decide (i16 < (x_x17.length : Int))) then
  bif r14.2 then
   XN l2 k6 i16 r14 out15 strict3 x_x13
  else
   lft (SA k6 x_x13.Op x_x13.A x_x13.B x_x13.C x_x13.Imm out15)
 else
  lft (SA k6 x_x13.Op x_x13.A x_x13.B x_x13.C x_x13.Imm out15)
noncomputable def TL (l2 : Pf) (k6 : Int) (r14 : Int × Bool) (strict3 : Bool) (x_x13 : OZ) (out5 : List (List Int)) : Option (((List (List Int)) × Int) ⊕ ((List (List Int)) × Int)) :=
 Pr (fun s=>Vm l2 k6 r14 strict3 x_x13 s.1 s.2) (out5,0)
noncomputable def XM (f1 : OX) (l2 : Pf) (strict3 : Bool) (out5 : List (List Int)) (k6 : Int) : Option (((List (List Int)) × Int) ⊕ ((List (List Int)) × Int)) :=
 bif (decide (k6 < (f1.Code.length : Int))) then
  (ixO f1.Code k6).bind fun x_x13 =>
  (Rv x_x13).bind fun r14 =>
  bif (x_x13.Op == 17) then
   bif (x_x13.A == x_x13.B) then
    SA k6 x_x13.Op x_x13.A x_x13.B x_x13.C x_x13.Imm out5
   else
    TL l2 k6 r14 strict3 x_x13 out5
  else
   TL l2 k6 r14 strict3 x_x13 out5
 else
  lft (some (out5,0))
noncomputable def Wl (f1 : OX) (l2 : Pf) (strict3 : Bool) : Option ((List (List Int)) × Int) :=
 (Yy f1 l2).bind fun r4 =>
 bif (r4 != 0) then
  some (([] : List (List Int)),r4)
 else
  chk (0 ≤ (f1.Slots.length : Int) ∧ (f1.Slots.length : Int) ≤ 16777216) <|
  Pr (fun s=>XM f1 l2 strict3 s.1 s.2) (List.replicate (f1.Slots.length : Int).toNat ([] : (List Int)),0)

noncomputable def YB (f1 : OX) (l2 : Pf) : Option ((List (List Int)) × Int) :=
 (Wl f1 l2 false).bind fun r3 =>
 some (r3.1,r3.2)

noncomputable def Vl (k3 : Int) (out4 : List PQ) : Option (((List PQ) × Int) ⊕ ((List PQ))) :=
 cnt (out4,IntKind.i64.wrap (k3 + 1))
noncomputable def XL (out2 : List PQ) (x_x5 : OZ) (k3 : Int) (old7 : Bool) (i8 : Int) : Option ((Bool × Int) ⊕ (((List PQ) × Int) ⊕ ((List PQ)))) :=
 bif (decide (i8 < (out2.length : Int))) then
  bif old7 then
   cnt (true,IntKind.i64.wrap (i8 + 1))
  else
   chk (0 ≤ i8 ∧ i8 < out2.length) <|
   ((out2)[i8.toNat]?).bind fun out_e9 =>
   cnt (((out_e9.a0 == x_x5.A) && ((out_e9.a1 == x_x5.B) && true)),IntKind.i64.wrap (i8 + 1))
 else
  lft (
   bif (!old7) then
    chk (out2.length + ([(PQ.mk x_x5.A x_x5.B)] : List PQ).length ≤ 16777216) <|
    Vl k3 (out2 ++ ([(PQ.mk x_x5.A x_x5.B)] : List PQ))
   else
    Vl k3 out2)
noncomputable def TK (out2 : List PQ) (x_x5 : OZ) (k3 : Int) (old6 : Bool) : Option (((List PQ) × Int) ⊕ ((List PQ))) :=
 Pr (fun s=>XL out2 x_x5 k3 s.1 s.2) (old6,0)
noncomputable def XK (f1 : OX) (out2 : List PQ) (k3 : Int) : Option (((List PQ) × Int) ⊕ ((List PQ))) :=
 bif (decide (k3 < (f1.Code.length : Int))) then
  (ixO f1.Code k3).bind fun x_x5 =>
  bif (x_x5.Op != 17) then
   TK out2 x_x5 k3 true
  else
   TK out2 x_x5 k3 (x_x5.A == x_x5.B)
 else
  lft (some out2)
noncomputable def YC (f1 : OX) : Option ((List PQ)) :=
 Pr (fun s=>XK f1 s.1 s.2) (([] : List PQ),0)

noncomputable def VC (to1 : (List Int)) (s2 : Int) (out3 : List Int) (t4 : Int) : Option (((List Int) × Int) ⊕ ((List Int))) :=
 bif (decide (t4 < (to1.length : Int))) then
  (ixO to1 t4).bind fun x_x5 =>
  bif (x_x5 == s2) then
   chk (out3.length + ([t4] : List Int).length ≤ 16777216) <|
   cnt (out3 ++ ([t4] : List Int),IntKind.i64.wrap (t4 + 1))
  else
   cnt (out3,IntKind.i64.wrap (t4 + 1))
 else
  lft (some out3)
noncomputable def Tn (to1 : (List Int)) (s2 : Int) : Option ((List Int)) :=
 Pr (fun s=>VC to1 s2 s.1 s.2) (([] : List Int),0)

noncomputable def XS (i7 : Int) : Option ((Int) ⊕ (Bool)) :=
 cnt (IntKind.i64.wrap (i7 + 1))
noncomputable def XR (r6 : (List Int)) (i7 : Int) (r5 : (List Int)) (g1 : (List (List Int))) (k8 : Int) : Option ((Int) ⊕ ((Int) ⊕ (Bool))) :=
 bif (decide (k8 < (r6.length : Int))) then
  chk (0 ≤ i7 ∧ i7 < r5.length) <|
  ((r5)[i7.toNat]?).bind fun x_e9 =>
  (ixO g1 x_e9).bind fun x_x10 =>
  chk (0 ≤ k8 ∧ k8 < r6.length) <|
  ((r6)[k8.toNat]?).bind fun y_e11 =>
  (TF x_x10 y_e11).bind fun r12 =>
  bif r12 then
   lft (lft (some false))
  else
   cnt (IntKind.i64.wrap (k8 + 1))
 else
  lft (XS i7)
noncomputable def XQ (r5 : (List Int)) (r6 : (List Int)) (g1 : (List (List Int))) (i7 : Int) : Option ((Int) ⊕ (Bool)) :=
 bif (decide (i7 < (r5.length : Int))) then
  Pr (fun s=>XR r6 i7 r5 g1 s) 0
 else
  lft (some true)
noncomputable def YE (g1 : (List (List Int))) (to2 : (List Int)) (a3 : Int) (b4 : Int) : Option (Bool) :=
 (Tn to2 a3).bind fun r5 =>
 (Tn to2 b4).bind fun r6 =>
 Pr (fun s=>XQ r5 r6 g1 s) 0

noncomputable def SB (s17 : Int) (to16 : List Int) (to_e10 : Int) (to_e12 : Int) (x18 : Bool) : Option (((List Int) × Int) ⊕ (((List Int) × Int) ⊕ ((List Int)))) :=
 bif x18 then
  chk (0 ≤ s17 ∧ s17 < to16.length) <|
  ((to16)[s17.toNat]?).bind fun _ =>
  cnt (to16.set s17.toNat (Sx to_e10 to_e12),IntKind.i64.wrap (s17 + 1))
 else
  cnt (to16,IntKind.i64.wrap (s17 + 1))
noncomputable def QY (i7 : Int) (to8 : List Int) : Option (((List Int) × Int) ⊕ ((List Int))) :=
 cnt (to8,IntKind.i64.wrap (i7 + 1))
noncomputable def VA (to_e10 : Int) (to_e12 : Int) (i7 : Int) (to16 : List Int) (s17 : Int) : Option (((List Int) × Int) ⊕ (((List Int) × Int) ⊕ ((List Int)))) :=
 bif (decide (s17 < (to16.length : Int))) then
  chk (0 ≤ s17 ∧ s17 < to16.length) <|
  ((to16)[s17.toNat]?).bind fun to_e19 =>
  bif (to_e19 == to_e10) then
   SB s17 to16 to_e10 to_e12 true
  else
   chk (0 ≤ s17 ∧ s17 < to16.length) <|
   ((to16)[s17.toNat]?).bind fun to_e20 =>
   SB s17 to16 to_e10 to_e12 (to_e20 == to_e12)
 else
  lft (QY i7 to16)
noncomputable def VB (to_e10 : Int) (to_e12 : Int) (i7 : Int) (to6 : List Int) (_x13 : Bool) (_x14 : Bool) : Option (((List Int) × Int) ⊕ ((List Int))) :=
 Pr (fun s=>VA to_e10 to_e12 i7 s.1 s.2) (to6,0)
noncomputable def Vz (r5 : (List PQ)) (g2 : (List (List Int))) (to6 : List Int) (i7 : Int) : Option (((List Int) × Int) ⊕ ((List Int))) :=
 bif (decide (i7 < (r5.length : Int))) then
  chk (0 ≤ i7 ∧ i7 < r5.length) <|
  ((r5)[i7.toNat]?).bind fun moves_e9 =>
  chk (0 ≤ moves_e9.a0 ∧ moves_e9.a0 < to6.length) <|
  ((to6)[moves_e9.a0.toNat]?).bind fun to_e10 =>
  chk (0 ≤ i7 ∧ i7 < r5.length) <|
  ((r5)[i7.toNat]?).bind fun moves_e11 =>
  chk (0 ≤ moves_e11.a1 ∧ moves_e11.a1 < to6.length) <|
  ((to6)[moves_e11.a1.toNat]?).bind fun to_e12 =>
  bif (to_e10 == to_e12) then
   QY i7 to6
  else
   (YE g2 to6 to_e10 to_e12).bind fun r15 =>
   bif (!r15) then
    QY i7 to6
   else
    VB to_e10 to_e12 i7 to6 r15 (!r15)
 else
  lft (some to6)
noncomputable def Vy (f1 : OX) (g2 : (List (List Int))) (to3 : List Int) (s4 : Int) : Option (((List Int) × Int) ⊕ ((List Int))) :=
 bif (decide (s4 < (f1.Slots.length : Int))) then
  chk (to3.length + ([s4] : List Int).length ≤ 16777216) <|
  cnt (to3 ++ ([s4] : List Int),IntKind.i64.wrap (s4 + 1))
 else
  lft (
   (YC f1).bind fun r5 =>
   Pr (fun s=>Vz r5 g2 s.1 s.2) (to3,0))
noncomputable def Um (f1 : OX) (g2 : (List (List Int))) : Option ((List Int)) :=
 Pr (fun s=>Vy f1 g2 s.1 s.2) (([] : List Int),0)

noncomputable def ZT (f1 : OX) (l2 : Pf) (k3 : Int) : Option (Bool) :=
 (ixO f1.Code k3).bind fun x_x4 =>
 (Rv x_x4).bind fun r5 =>
 bif r5.2 then
  (ixO l2.Out k3).bind fun x_x6 =>
  (TF x_x6 r5.1).bind fun r7 =>
  some (!r7)
 else
  some false

noncomputable def YR (f1 : OX) (l2 : Pf) (to3 : (List Int)) (out4 : List Bool) (k5 : Int) : Option (((List Bool) × Int) ⊕ ((List Bool))) :=
 bif (decide (k5 < (f1.Code.length : Int))) then
  (ixO f1.Code k5).bind fun x_x6 =>
  (ZT f1 l2 k5).bind fun r7 =>
  bif (!r7) then
   bif (x_x6.Op == 17) then
    (ixO to3 x_x6.A).bind fun x_x8 =>
    (ixO to3 x_x6.B).bind fun x_x9 =>
    chk (out4.length + ([(!(x_x8 == x_x9))] : List Bool).length ≤ 16777216) <|
    cnt (out4 ++ ([(!(x_x8 == x_x9))] : List Bool),IntKind.i64.wrap (k5 + 1))
   else
    chk (out4.length + ([true] : List Bool).length ≤ 16777216) <|
    cnt (out4 ++ ([true] : List Bool),IntKind.i64.wrap (k5 + 1))
  else
   chk (out4.length + ([false] : List Bool).length ≤ 16777216) <|
   cnt (out4 ++ ([false] : List Bool),IntKind.i64.wrap (k5 + 1))
 else
  lft (some out4)
noncomputable def XT (f1 : OX) (l2 : Pf) (to3 : (List Int)) : Option ((List Bool)) :=
 Pr (fun s=>YR f1 l2 to3 s.1 s.2) (([] : List Bool),0)

noncomputable def XP (to2 : (List Int)) (f1 : OX) (s6 : Int) : Option ((Int) ⊕ (Bool)) :=
 bif (decide (s6 < (to2.length : Int))) then
  (ixO to2 s6).bind fun x_x7 =>
  (ixO f1.Slots x_x7).bind fun x_x8 =>
  (ixO f1.Slots s6).bind fun x_x9 =>
  bif (x_x8.Size != x_x9.Size) then
   lft (some false)
  else
   (ixO to2 s6).bind fun x_x10 =>
   (ixO to2 x_x10).bind fun x_x11 =>
   (ixO to2 s6).bind fun x_x12 =>
   bif (x_x11 != x_x12) then
    lft (some false)
   else
    cnt (IntKind.i64.wrap (s6 + 1))
 else
  lft (some true)
noncomputable def XO (to2 : (List Int)) (f1 : OX) (s3 : Int) : Option ((Int) ⊕ (Bool)) :=
 bif (decide (s3 < (to2.length : Int))) then
  (ixO to2 s3).bind fun x_x4 =>
  bif (decide (x_x4 < 0)) then
   lft (some false)
  else
   (ixO to2 s3).bind fun x_x5 =>
   bif (decide (x_x5 ≥ (to2.length : Int))) then
    lft (some false)
   else
    cnt (IntKind.i64.wrap (s3 + 1))
 else
  lft (Pr (fun s=>XP to2 f1 s) 0)
noncomputable def YD (f1 : OX) (to2 : (List Int)) : Option (Bool) :=
 bif ((to2.length : Int) != (f1.Slots.length : Int)) then
  some false
 else
  Pr (fun s=>XO to2 f1 s) 0

noncomputable def XY (f1 : OX) (r2 : Pj) (k4 : Int) : Option ((Int) ⊕ (Int)) :=
 bif (decide (k4 < (f1.Code.length : Int))) then
  (ixO r2.Keep k4).bind fun x_x5 =>
  bif (!x_x5) then
   (ixO f1.Code k4).bind fun x_x6 =>
   (Rr x_x6).bind fun r7 =>
   bif (!r7) then
    lft (some 12)
   else
    cnt (IntKind.i64.wrap (k4 + 1))
  else
   cnt (IntKind.i64.wrap (k4 + 1))
 else
  lft (some 0)
noncomputable def XZ (f1 : OX) (r2 : Pj) : Option (Int) :=
 Pr (fun s=>XY f1 r2 s) 0
noncomputable def YF (f1 : OX) (r2 : Pj) : Option (Int) :=
 (YD f1 r2.To).bind fun r3 =>
 bif (!r3) then
  some 12
 else
  bif ((r2.Keep.length : Int) != (f1.Code.length : Int)) then
   some 12
  else
   XZ f1 r2

noncomputable def Sd (s1 : Int) (to2 : (List Int)) : Option (Int) :=
 bif (decide (s1 < 0)) then
  some s1
 else
  bif (decide (s1 ≥ (to2.length : Int))) then
   some s1
  else
   (ixO to2 s1).bind fun x_x3 =>
   some x_x3

noncomputable def Uj (x1 : OZ) (to2 : (List Int)) : Option (OZ) :=
 bif (x1.Op == 15) then
  (Sd x1.B to2).bind fun r3 =>
  some (OZ.mk x1.Op x1.A r3 x1.C x1.Imm)
 else
  bif (x1.Op == 16) then
   (Sd x1.A to2).bind fun r4 =>
   some (OZ.mk x1.Op r4 x1.B x1.C x1.Imm)
  else
   bif (x1.Op == 17) then
    (Sd x1.A to2).bind fun r5 =>
    (Sd x1.B to2).bind fun r6 =>
    some (OZ.mk x1.Op r5 r6 x1.C x1.Imm)
   else
    some x1

noncomputable def YU (r2 : Pj) (k4 : Int) (out3 : List Int) (f1 : OX) : Option (((List Int) × Int) ⊕ ((List Int))) :=
 (ixO r2.Keep k4).bind fun x_x5 =>
 bif (!x_x5) then
  cnt (out3,IntKind.i64.wrap (k4 + 1))
 else
  (ixO f1.Code k4).bind fun x_x6 =>
  (Uj x_x6 r2.To).bind fun r7 =>
  (TC r7).bind fun r8 =>
  (SN out3 r8).bind fun r9 =>
  (Rv r7).bind fun r10 =>
  bif r10.2 then
   (Sc r9 r10.1).bind fun r11 =>
   cnt (r11,IntKind.i64.wrap (k4 + 1))
  else
   cnt (r9,IntKind.i64.wrap (k4 + 1))
noncomputable def YT (f1 : OX) (r2 : Pj) (out3 : List Int) (k4 : Int) : Option (((List Int) × Int) ⊕ ((List Int))) :=
 bif (decide (k4 < (f1.Code.length : Int))) then
  bif (decide (k4 < (r2.Keep.length : Int))) then
   YU r2 k4 out3 f1
  else
   lft (some out3)
 else
  lft (some out3)
noncomputable def ZU (f1 : OX) (r2 : Pj) : Option ((List Int)) :=
 Pr (fun s=>YT f1 r2 s.1 s.2) (([] : List Int),0)

noncomputable def VH (s4 : Int) (out5 : List Int) : Option (((List Int) × Int) ⊕ ((List Int))) :=
 cnt (out5,IntKind.i64.wrap (s4 + 1))
noncomputable def VG (used2 : (List Int)) (r1 : Pj) (s4 : Int) (out3 : List Int) (n6 : Int) (i7 : Int) : Option ((Int × Int) ⊕ (((List Int) × Int) ⊕ ((List Int)))) :=
 bif (decide (i7 < (used2.length : Int))) then
  (ixO used2 i7).bind fun x_x8 =>
  (ixO r1.To s4).bind fun x_x9 =>
  bif (x_x8 == x_x9) then
   cnt (i7,IntKind.i64.wrap (i7 + 1))
  else
   cnt (n6,IntKind.i64.wrap (i7 + 1))
 else
  lft (
   chk (out3.length + ([n6] : List Int).length ≤ 16777216) <|
   VH s4 (out3 ++ ([n6] : List Int)))
noncomputable def VF (r1 : Pj) (used2 : (List Int)) (out3 : List Int) (s4 : Int) : Option (((List Int) × Int) ⊕ ((List Int))) :=
 bif (decide (s4 < (r1.To.length : Int))) then
  Pr (fun s=>VG used2 r1 s4 out3 s.1 s.2) (0,0)
 else
  lft (some out3)
noncomputable def Wa (r1 : Pj) (used2 : (List Int)) : Option ((List Int)) :=
 Pr (fun s=>VF r1 used2 s.1 s.2) (([] : List Int),0)

noncomputable def WH (r1 : Pj) (out2 : List Int) (n3 : Int) (k4 : Int) : Option (((List Int) × Int × Int) ⊕ ((List Int))) :=
 bif (decide (k4 < (r1.Keep.length : Int))) then
  chk (out2.length + ([n3] : List Int).length ≤ 16777216) <|
  (ixO r1.Keep k4).bind fun x_x5 =>
  bif x_x5 then
   cnt (out2 ++ ([n3] : List Int),IntKind.i64.wrap (n3 + 1),IntKind.i64.wrap (k4 + 1))
  else
   cnt (out2 ++ ([n3] : List Int),n3,IntKind.i64.wrap (k4 + 1))
 else
  lft (some out2)
noncomputable def Xe (r1 : Pj) : Option ((List Int)) :=
 Pr (fun s=>WH r1 s.1 s.2.1 s.2.2) (([] : List Int),0,0)

noncomputable def XX (i6 : Int) (slots7 : List Pn) : Option (((List Pn) × Int) ⊕ (OX × Int)) :=
 cnt (slots7,IntKind.i64.wrap (i6 + 1))
noncomputable def Vn (r11 : (List Int)) (f1 : OX) (out5 : List Pn) (x_x9 : Pn) (i6 : Int) (s12 : Int) (k13 : Int) : Option ((Int × Int) ⊕ (((List Pn) × Int) ⊕ (OX × Int))) :=
 bif (decide (k13 < (r11.length : Int))) then
  chk (0 ≤ k13 ∧ k13 < r11.length) <|
  ((r11)[k13.toNat]?).bind fun l_e14 =>
  (ixO f1.Slots l_e14).bind fun x_x15 =>
  cnt (Aap s12 x_x15.Align,IntKind.i64.wrap (k13 + 1))
 else
  lft (
   chk (([] : List Pn).length + out5.length ≤ 16777216) <|
   chk ((([] : List Pn) ++ out5).length + ([(Pn.mk x_x9.Size s12)] : List Pn).length ≤ 16777216) <|
   XX i6 ((([] : List Pn) ++ out5) ++ ([(Pn.mk x_x9.Size s12)] : List Pn)))
noncomputable def SC (out18 : List OZ) (r22 : OZ) (k19 : Int) (x23 : Int) (x24 : Int) : Option (((List OZ) × Int) ⊕ (OX × Int)) :=
 chk (([] : List OZ).length + out18.length ≤ 16777216) <|
 chk ((([] : List OZ) ++ out18).length + ([(OZ.mk r22.Op x23 x24 r22.C r22.Imm)] : List OZ).length ≤ 16777216) <|
 cnt ((([] : List OZ) ++ out18) ++ ([(OZ.mk r22.Op x23 x24 r22.C r22.Imm)] : List OZ),IntKind.i64.wrap (k19 + 1))
noncomputable def Vo (f1 : OX) (r2 : Pj) (r16 : (List Int)) (r17 : (List Int)) (out5 : List Pn) (out18 : List OZ) (k19 : Int) : Option (((List OZ) × Int) ⊕ (OX × Int)) :=
 bif (decide (k19 < (f1.Code.length : Int))) then
  (ixO r2.Keep k19).bind fun x_x20 =>
  bif (!x_x20) then
   cnt (out18,IntKind.i64.wrap (k19 + 1))
  else
   (ixO f1.Code k19).bind fun x_x21 =>
   (Uj x_x21 r16).bind fun r22 =>
   bif (r22.Op == 20) then
    chk (0 ≤ r22.A ∧ r22.A < r17.length) <|
    ((r17)[r22.A.toNat]?).bind fun places_e25 =>
    SC out18 r22 k19 places_e25 r22.B
   else
    bif (r22.Op == 21) then
     chk (0 ≤ r22.B ∧ r22.B < r17.length) <|
     ((r17)[r22.B.toNat]?).bind fun places_e26 =>
     SC out18 r22 k19 r22.A places_e26
    else
     SC out18 r22 k19 r22.A r22.B
 else
  lft (some ((OX.mk f1.Params out5 out18),0))
noncomputable def XW (r4 : (List Int)) (f1 : OX) (r2 : Pj) (out5 : List Pn) (i6 : Int) : Option (((List Pn) × Int) ⊕ (OX × Int)) :=
 bif (decide (i6 < (r4.length : Int))) then
  chk (0 ≤ i6 ∧ i6 < r4.length) <|
  ((r4)[i6.toNat]?).bind fun used_e8 =>
  (ixO f1.Slots used_e8).bind fun x_x9 =>
  chk (0 ≤ i6 ∧ i6 < r4.length) <|
  ((r4)[i6.toNat]?).bind fun used_e10 =>
  (Tn r2.To used_e10).bind fun r11 =>
  Pr (fun s=>Vn r11 f1 out5 x_x9 i6 s.1 s.2) (x_x9.Align,0)
 else
  lft (
   (Wa r2 r4).bind fun r16 =>
   (Xe r2).bind fun r17 =>
   Pr (fun s=>Vo f1 r2 r16 r17 out5 s.1 s.2) ([],0))
noncomputable def UO (f1 : OX) (r2 : Pj) : Option (OX × Int) :=
 (YF f1 r2).bind fun r3 =>
 bif (r3 != 0) then
  some ((OX.mk 0 ([]) ([])),r3)
 else
  (ZU f1 r2).bind fun r4 =>
  Pr (fun s=>XW r4 f1 r2 s.1 s.2) ([],0)

noncomputable def ZR (f1 : OX) (l2 : Pf) : Option ((List (List Int)) × Int) :=
 (Wl f1 l2 true).bind fun r3 =>
 some (r3.1,r3.2)

noncomputable def YX (x_x3 : OX) (p1 : Pt) (n4 : Int) (k5 : Int) : Option ((Int × Int) ⊕ (Int)) :=
 bif (decide (k5 < (x_x3.Code.length : Int))) then
  (ixO x_x3.Code k5).bind fun x_x6 =>
  bif (x_x6.Op == 18) then
   (ixO x_x3.Code k5).bind fun x_x7 =>
   cnt (Aap n4 (IntKind.i64.wrap (x_x7.A + 1)),IntKind.i64.wrap (k5 + 1))
  else
   bif (x_x6.Op == 22) then
    (ixO x_x3.Code k5).bind fun x_x8 =>
    (ixO p1.Funcs x_x8.A).bind fun x_x9 =>
    cnt (Aap n4 x_x9.Params,IntKind.i64.wrap (k5 + 1))
   else
    cnt (n4,IntKind.i64.wrap (k5 + 1))
 else
  lft (some (IntKind.i64.wrap (n4 * 16)))
noncomputable def Yd (p1 : Pt) (i2 : Int) : Option (Int) :=
 (ixO p1.Funcs i2).bind fun x_x3 =>
 Pr (fun s=>YX x_x3 p1 s.1 s.2) (0,0)

noncomputable def ZG (n1 : Int) : Option (Bool) :=
 bif (n1 == 1) then
  some true
 else
  bif (n1 == 2) then
   some true
  else
   bif (n1 == 4) then
    some true
   else
    bif (n1 == 8) then
     some true
    else
     some (n1 == 16)

noncomputable def Xt (n1 : Int) (k2 : Int) : Option ((Int) ⊕ (Bool)) :=
 bif (decide (k2 ≤ 16777216)) then
  bif (n1 == k2) then
   lft (some true)
  else
   cnt (IntKind.i64.wrap (k2 * 2))
 else
  lft (some false)
noncomputable def UN (n1 : Int) : Option (Bool) :=
 Pr (fun s=>Xt n1 s) 1

noncomputable def Xu (s1 : (List Pn)) (i2 : Int) : Option ((Int) ⊕ (Int)) :=
 bif (decide (i2 < (s1.length : Int))) then
  (ixO s1 i2).bind fun x_x3 =>
  (ZG x_x3.Size).bind fun r4 =>
  bif (!r4) then
   lft (some 5)
  else
   (ixO s1 i2).bind fun x_x5 =>
   (UN x_x5.Align).bind fun r6 =>
   bif (!r6) then
    lft (some 5)
   else
    cnt (IntKind.i64.wrap (i2 + 1))
 else
  lft (some 0)
noncomputable def We (s1 : (List Pn)) : Option (Int) :=
 bif (decide ((s1.length : Int) > 512)) then
  some 3
 else
  Pr (fun s=>Xu s1 s) 0

noncomputable def XI (x3 : Int) (_x4 : (List Int)) (_x5 : List Int) (_x6 : Bool) : Option ((Int) ⊕ (Bool)) :=
 cnt (IntKind.i64.wrap (x3 + 1))
noncomputable def XH (g1 : (List (List Int))) (x3 : Int) (n2 : Int) (x7 : (List Int)) (x8 : List Int) (x9 : Bool) (i14 : Int) : Option ((Int) ⊕ ((Int) ⊕ (Bool))) :=
 (ixO g1 x3).bind fun x_x15 =>
 bif (decide (i14 < (x_x15.length : Int))) then
  (ixO g1 x3).bind fun x_x16 =>
  (ixO x_x16 i14).bind fun x_x17 =>
  bif (decide (x_x17 ≥ n2)) then
   lft (lft (some false))
  else
   (ixO g1 x_x17).bind fun x_x18 =>
   (TF x_x18 x3).bind fun r19 =>
   bif (!r19) then
    lft (lft (some false))
   else
    cnt (IntKind.i64.wrap (i14 + 1))
 else
  lft (XI x3 x7 x8 x9)
noncomputable def XJ (g1 : (List (List Int))) (x3 : Int) (n2 : Int) (x7 : (List Int)) (x8 : List Int) (x9 : Bool) : Option ((Int) ⊕ (Bool)) :=
 Pr (fun s=>XH g1 x3 n2 x7 x8 x9 s) 0
noncomputable def XG (n2 : Int) (g1 : (List (List Int))) (x3 : Int) : Option ((Int) ⊕ (Bool)) :=
 bif (decide (x3 < n2)) then
  (ixO g1 x3).bind fun x_x10 =>
  (Wh x_x10).bind fun r11 =>
  bif (!r11) then
   lft (some false)
  else
   (ixO g1 x3).bind fun x_x12 =>
   (TF x_x12 x3).bind fun r13 =>
   bif r13 then
    lft (some false)
   else
    XJ g1 x3 n2 x_x12 x_x12 r13
 else
  lft (some true)
noncomputable def YA (g1 : (List (List Int))) (n2 : Int) : Option (Bool) :=
 bif ((g1.length : Int) != n2) then
  some false
 else
  Pr (fun s=>XG n2 g1 s) 0

noncomputable def RT (n1 : Int) : Option (Bool) :=
 bif (decide (n1 ≥ 0)) then
  some (decide (n1 ≤ 2147483647))
 else
  some false

noncomputable def Xg (a1 : Pn) (b2 : Pn) : Option (Bool) :=
 bif (decide (a1.Align > b2.Align)) then
  some true
 else
  bif (a1.Align == b2.Align) then
   some (decide (a1.Size > b2.Size))
  else
   some false

noncomputable def Yc (i3 : Int) (out4 : List Int) : Option (((List Int) × Int) ⊕ ((List Int))) :=
 cnt (out4,IntKind.i64.wrap (i3 + 1))
noncomputable def TM (out2 : List Int) (i3 : Int) (k5 : Int) : Option (((List Int) × Int) ⊕ ((List Int))) :=
 chk (0 ≤ k5 ∧ k5 ≤ out2.length) <|
 chk (([] : List Int).length + (out2.take k5.toNat).length ≤ 16777216) <|
 chk ((([] : List Int) ++ (out2.take k5.toNat)).length + ([i3] : List Int).length ≤ 16777216) <|
 chk (0 ≤ k5 ∧ k5 ≤ out2.length) <|
 chk (((([] : List Int) ++ (out2.take k5.toNat)) ++ ([i3] : List Int)).length + (out2.drop k5.toNat).length ≤ 16777216) <|
 Yc i3 (((([] : List Int) ++ (out2.take k5.toNat)) ++ ([i3] : List Int)) ++ (out2.drop k5.toNat))
noncomputable def Yb (s1 : (List Pn)) (i3 : Int) (out2 : List Int) (k6 : Int) : Option ((Int) ⊕ (((List Int) × Int) ⊕ ((List Int)))) :=
 bif (decide (k6 > 0)) then
  (ixO s1 i3).bind fun x_x7 =>
  chk (0 ≤ (IntKind.i64.wrap (k6 - 1)) ∧ (IntKind.i64.wrap (k6 - 1)) < out2.length) <|
  ((out2)[(IntKind.i64.wrap (k6 - 1)).toNat]?).bind fun out_e8 =>
  (ixO s1 out_e8).bind fun x_x9 =>
  (Xg x_x7 x_x9).bind fun r10 =>
  bif r10 then
   cnt (IntKind.i64.wrap (k6 - 1))
  else
   lft (TM out2 i3 k6)
 else
  lft (TM out2 i3 k6)
noncomputable def Ya (s1 : (List Pn)) (out2 : List Int) (i3 : Int) : Option (((List Int) × Int) ⊕ ((List Int))) :=
 bif (decide (i3 < (s1.length : Int))) then
  Pr (fun s=>Yb s1 i3 out2 s) (out2.length : Int)
 else
  lft (some out2)
noncomputable def YG (s1 : (List Pn)) : Option ((List Int)) :=
 Pr (fun s=>Ya s1 s.1 s.2) (([] : List Int),0)

noncomputable def SM (a1 : Pp) : Option (Bool) :=
 (RT a1.Off).bind fun r2 =>
 bif r2 then
  (RT a1.Size).bind fun r3 =>
  bif r3 then
   some (decide ((IntKind.i64.wrap (a1.Off + a1.Size)) ≤ 2147483647))
  else
   some false
 else
  some false

noncomputable def Wf (m5 : Int) : Option (Int × Int) :=
 bif (decide (m5 > 2147483647)) then
  some (0,9)
 else
  some (m5,0)
noncomputable def AaA (align2 : Int) (n1 : Int) : Option (Int × Int) :=
 chk (align2 ≠ 0) <|
 bif ((n1.tmod align2) != 0) then
  chk (align2 ≠ 0) <|
  Wf (IntKind.i64.wrap ((IntKind.i64.wrap (n1 - (n1.tmod align2))) + align2))
 else
  Wf n1
noncomputable def Aau (n1 : Int) (align2 : Int) : Option (Int × Int) :=
 (RT n1).bind fun r3 =>
 bif (!r3) then
  some (0,4)
 else
  (UN align2).bind fun r4 =>
  bif (!r4) then
   some (0,4)
  else
   AaA align2 n1

noncomputable def VV (a1 : Pp) (b2 : Pp) : Option (Bool) :=
 (SM a1).bind fun r3 =>
 bif r3 then
  (SM b2).bind fun r4 =>
  bif r4 then
   bif (decide (a1.Size > 0)) then
    bif (decide (b2.Size > 0)) then
     bif (decide (a1.Off < (IntKind.i64.wrap (b2.Off + b2.Size)))) then
      some (decide (b2.Off < (IntKind.i64.wrap (a1.Off + a1.Size))))
     else
      some false
    else
     some false
   else
    some false
  else
   some false
 else
  some false

noncomputable def YO (used1 : (List Pp)) (x2 : Pp) (i3 : Int) : Option ((Int) ⊕ (Bool)) :=
 bif (decide (i3 < (used1.length : Int))) then
  (ixO used1 i3).bind fun x_x4 =>
  (VV x_x4 x2).bind fun r5 =>
  bif r5 then
   lft (some false)
  else
   cnt (IntKind.i64.wrap (i3 + 1))
 else
  lft (some true)
noncomputable def ZM (used1 : (List Pp)) (x2 : Pp) : Option (Bool) :=
 Pr (fun s=>YO used1 x2 s) 0

noncomputable def Vi (align4 : Int) (size3 : Int) (used1 : (List Pp)) (found12 : Bool) (i13 : Int) (best11 : Int) (at14 : Int) : Option ((Int × Bool × Int) ⊕ (Int × Int)) :=
 (Aau at14 align4).bind fun r17 =>
 bif (r17.2 == 0) then
  (SM (Pp.mk r17.1 size3)).bind fun r18 =>
  bif r18 then
   (ZM used1 (Pp.mk r17.1 size3)).bind fun r19 =>
   bif r19 then
    bif (!found12) then
     cnt (r17.1,true,IntKind.i64.wrap (i13 + 1))
    else
     bif (decide (r17.1 < best11)) then
      cnt (r17.1,true,IntKind.i64.wrap (i13 + 1))
     else
      cnt (best11,found12,IntKind.i64.wrap (i13 + 1))
   else
    cnt (best11,found12,IntKind.i64.wrap (i13 + 1))
  else
   cnt (best11,found12,IntKind.i64.wrap (i13 + 1))
 else
  cnt (best11,found12,IntKind.i64.wrap (i13 + 1))
noncomputable def ZI (used1 : (List Pp)) (align4 : Int) (size3 : Int) (from2 : Int) (best11 : Int) (found12 : Bool) (i13 : Int) : Option ((Int × Bool × Int) ⊕ (Int × Int)) :=
 bif (decide (i13 < (used1.length : Int))) then
  bif (decide (i13 ≥ 0)) then
   (ixO used1 i13).bind fun x_x15 =>
   (ixO used1 i13).bind fun x_x16 =>
   Vi align4 size3 used1 found12 i13 best11 (Aap from2 (IntKind.i64.wrap (x_x15.Off + x_x16.Size)))
  else
   Vi align4 size3 used1 found12 i13 best11 from2
 else
  lft (
   bif (!found12) then
    some (0,9)
   else
    some (best11,0))
noncomputable def ZH (used1 : (List Pp)) (align4 : Int) (size3 : Int) (from2 : Int) (i8 : Int) : Option ((Int) ⊕ (Int × Int)) :=
 bif (decide (i8 < (used1.length : Int))) then
  (ixO used1 i8).bind fun x_x9 =>
  (SM x_x9).bind fun r10 =>
  bif (!r10) then
   lft (some (0,4))
  else
   cnt (IntKind.i64.wrap (i8 + 1))
 else
  lft (Pr (fun s=>ZI used1 align4 size3 from2 s.1 s.2.1 s.2.2) (0,false,(-1)))
noncomputable def ZJ (used1 : (List Pp)) (align4 : Int) (size3 : Int) (from2 : Int) : Option (Int × Int) :=
 Pr (fun s=>ZH used1 align4 size3 from2 s) 0
noncomputable def AaN (used1 : (List Pp)) (from2 : Int) (size3 : Int) (align4 : Int) : Option (Int × Int) :=
 (RT from2).bind fun r5 =>
 bif (!r5) then
  some (0,4)
 else
  (RT size3).bind fun r6 =>
  bif (!r6) then
   some (0,4)
  else
   (UN align4).bind fun r7 =>
   bif (!r7) then
    some (0,4)
   else
    ZJ used1 align4 size3 from2

noncomputable def Tk (y15 : Int) (off9 : List Int) (s1 : (List Pn)) (used14 : List Pp) (x16 : Bool) : Option (((List Pp) × Int) ⊕ (((List Bool) × (List Int) × Int) ⊕ ((List Int) × Int))) :=
 bif x16 then
  chk (0 ≤ y15 ∧ y15 < off9.length) <|
  ((off9)[y15.toNat]?).bind fun off_e20 =>
  (ixO s1 y15).bind fun x_x21 =>
  chk (used14.length + ([(Pp.mk off_e20 x_x21.Size)] : List Pp).length ≤ 16777216) <|
  cnt (used14 ++ ([(Pp.mk off_e20 x_x21.Size)] : List Pp),IntKind.i64.wrap (y15 + 1))
 else
  cnt (used14,IntKind.i64.wrap (y15 + 1))
noncomputable def WL (i10 : Int) (done11 : List Bool) (off12 : List Int) : Option (((List Bool) × (List Int) × Int) ⊕ ((List Int) × Int)) :=
 cnt (done11,off12,IntKind.i64.wrap (i10 + 1))
noncomputable def WJ (s1 : (List Pn)) (done8 : List Bool) (g2 : (List (List Int))) (order_e13 : Int) (off9 : List Int) (from3 : Int) (i10 : Int) (used14 : List Pp) (y15 : Int) : Option (((List Pp) × Int) ⊕ (((List Bool) × (List Int) × Int) ⊕ ((List Int) × Int))) :=
 bif (decide (y15 < (s1.length : Int))) then
  chk (0 ≤ y15 ∧ y15 < done8.length) <|
  ((done8)[y15.toNat]?).bind fun done_e17 =>
  bif done_e17 then
   (ixO g2 order_e13).bind fun x_x18 =>
   (TF x_x18 y15).bind fun r19 =>
   Tk y15 off9 s1 used14 r19
  else
   Tk y15 off9 s1 used14 false
 else
  lft (
   (ixO s1 order_e13).bind fun x_x22 =>
   (ixO s1 order_e13).bind fun x_x23 =>
   (AaN used14 from3 x_x22.Size x_x23.Align).bind fun r24 =>
   bif (r24.2 != 0) then
    lft (some (([] : List Int),r24.2))
   else
    chk (0 ≤ order_e13 ∧ order_e13 < off9.length) <|
    ((off9)[order_e13.toNat]?).bind fun _ =>
    chk (0 ≤ order_e13 ∧ order_e13 < done8.length) <|
    ((done8)[order_e13.toNat]?).bind fun _ =>
    WL i10 (done8.set order_e13.toNat true) (off9.set order_e13.toNat r24.1))
noncomputable def WI (r7 : (List Int)) (s1 : (List Pn)) (g2 : (List (List Int))) (from3 : Int) (done8 : List Bool) (off9 : List Int) (i10 : Int) : Option (((List Bool) × (List Int) × Int) ⊕ ((List Int) × Int)) :=
 bif (decide (i10 < (r7.length : Int))) then
  chk (0 ≤ i10 ∧ i10 < r7.length) <|
  ((r7)[i10.toNat]?).bind fun order_e13 =>
  Pr (fun s=>WJ s1 done8 g2 order_e13 off9 from3 i10 s.1 s.2) (([] : List Pp),0)
 else
  lft (some (off9,0))
noncomputable def WK (s1 : (List Pn)) (g2 : (List (List Int))) (from3 : Int) : Option ((List Int) × Int) :=
 chk (0 ≤ (s1.length : Int) ∧ (s1.length : Int) ≤ 16777216) <|
 chk (0 ≤ (s1.length : Int) ∧ (s1.length : Int) ≤ 16777216) <|
 (YG s1).bind fun r7 =>
 Pr (fun s=>WI r7 s1 g2 from3 s.1 s.2.1 s.2.2) (List.replicate (s1.length : Int).toNat false,List.replicate (s1.length : Int).toNat (0 : Int),0)
noncomputable def Xf (s1 : (List Pn)) (g2 : (List (List Int))) (from3 : Int) : Option ((List Int) × Int) :=
 (We s1).bind fun r4 =>
 bif (r4 != 0) then
  some (([] : List Int),r4)
 else
  (YA g2 (s1.length : Int)).bind fun r5 =>
  bif (!r5) then
   some (([] : List Int),4)
  else
   (RT from3).bind fun r6 =>
   bif (!r6) then
    some (([] : List Int),4)
   else
    WK s1 g2 from3

noncomputable def YS (p1 : Pt) (i2 : Int) (f3 : OX) : Option (Pt) :=
 chk (([] : List OX).length + p1.Funcs.length ≤ 16777216) <|
 chk (0 ≤ i2 ∧ i2 < (([] : List OX) ++ p1.Funcs).length) <|
 ((([] : List OX) ++ p1.Funcs)[i2.toNat]?).bind fun _ =>
 some (Pt.mk ((([] : List OX) ++ p1.Funcs).set i2.toNat f3))

noncomputable def Abe (p1 : Pt) (i2 : Int) (f3 : OX) : Option (Pt) :=
 (YS p1 i2 f3).bind fun r4 =>
 some r4

noncomputable def Xr (s1 : (List Pn)) (a3 : Int) (i4 : Int) : Option ((Int × Int) ⊕ (Int)) :=
 bif (decide (i4 < (s1.length : Int))) then
  (ixO s1 i4).bind fun x_x5 =>
  cnt (Aap a3 x_x5.Align,IntKind.i64.wrap (i4 + 1))
 else
  lft (some a3)
noncomputable def Yv (s1 : (List Pn)) : Option (Int) :=
 (We s1).bind fun r2 =>
 bif (r2 != 0) then
  some 16
 else
  Pr (fun s=>Xr s1 s.1 s.2) (16,0)

noncomputable def Xy (p1 : Pt) (a2 : Int) (i3 : Int) : Option ((Int × Int) ⊕ (Int)) :=
 bif (decide (i3 < (p1.Funcs.length : Int))) then
  (ixO p1.Funcs i3).bind fun x_x4 =>
  (Yv x_x4.Slots).bind fun r5 =>
  cnt (Aap a2 r5,IntKind.i64.wrap (i3 + 1))
 else
  lft (some a2)
noncomputable def Yx (p1 : Pt) : Option (Int) :=
 Pr (fun s=>Xy p1 s.1 s.2) (16,0)

noncomputable def ZW (off2 : (List Int)) (i4 : Int) (s1 : (List Pn)) (n3 : Int) : Option ((Int × Int) ⊕ (Int)) :=
 (ixO off2 i4).bind fun x_x5 =>
 (ixO s1 i4).bind fun x_x6 =>
 cnt (Aap n3 (IntKind.i64.wrap (x_x5 + x_x6.Size)),IntKind.i64.wrap (i4 + 1))
noncomputable def ZV (s1 : (List Pn)) (off2 : (List Int)) (n3 : Int) (i4 : Int) : Option ((Int × Int) ⊕ (Int)) :=
 bif (decide (i4 < (s1.length : Int))) then
  bif (decide (i4 < (off2.length : Int))) then
   ZW off2 i4 s1 n3
  else
   lft (some n3)
 else
  lft (some n3)
noncomputable def AaP (s1 : (List Pn)) (off2 : (List Int)) : Option (Int) :=
 Pr (fun s=>ZV s1 off2 s.1 s.2) (0,0)

noncomputable def WM (x_x5 : OX) (off4 : (List Int)) (p1 : Pt) (i2 : Int) (align3 : Int) (k6 : Int) : Option ((Int) ⊕ (QQ × Int)) :=
 bif (decide (k6 < (x_x5.Slots.length : Int))) then
  (ixO off4 k6).bind fun x_x7 =>
  (ixO x_x5.Slots k6).bind fun x_x8 =>
  (SM (Pp.mk x_x7 x_x8.Size)).bind fun r9 =>
  bif (!r9) then
   lft (some ((QQ.mk 0 0 ([])),13))
  else
   cnt (IntKind.i64.wrap (k6 + 1))
 else
  lft (
   (Yd p1 i2).bind fun r10 =>
   (AaP x_x5.Slots off4).bind fun r11 =>
   (Aau (Aap r10 r11) align3).bind fun r12 =>
   bif (r12.2 != 0) then
    some ((QQ.mk 0 0 ([])),9)
   else
    bif (decide (r12.1 > 2147483519)) then
     some ((QQ.mk 0 0 ([])),9)
    else
     chk (([] : List Int).length + off4.length ≤ 16777216) <|
     some ((QQ.mk r10 r12.1 (([] : List Int) ++ off4)),0))
noncomputable def Xh (p1 : Pt) (i2 : Int) (align3 : Int) (off4 : (List Int)) : Option (QQ × Int) :=
 (ixO p1.Funcs i2).bind fun x_x5 =>
 bif ((off4.length : Int) != (x_x5.Slots.length : Int)) then
  some ((QQ.mk 0 0 ([])),13)
 else
  Pr (fun s=>WM x_x5 off4 p1 i2 align3 s) 0

noncomputable def Wb (p1 : Pt) (i2 : Int) : Option (SP) :=
 (ixO p1.Funcs i2).bind fun x_x3 =>
 (SO x_x3).bind fun r4 =>
 (YB x_x3 r4).bind fun r5 =>
 (Um x_x3 r5.1).bind fun r6 =>
 (XT x_x3 r4 r6).bind fun r7 =>
 (UO x_x3 (Pj.mk r6 r7)).bind fun r8 =>
 (SO r8.1).bind fun r9 =>
 (ZR r8.1 r9).bind fun r10 =>
 (Yd p1 i2).bind fun r11 =>
 (Xf r8.1.Slots r10.1 r11).bind fun r12 =>
 bif (r12.2 != 0) then
  some (SP.mk r4 (Pj.mk r6 r7) r9 (QQ.mk 0 0 ([])))
 else
  (Abe p1 i2 r8.1).bind fun r13 =>
  (Yx p1).bind fun r14 =>
  (Xh r13 i2 r14 r12.1).bind fun r15 =>
  some (SP.mk r4 (Pj.mk r6 r7) r9 r15.1)

noncomputable def PK (n22 : Int) (c23 : List Int) (c24 : Int) (x25 : List Int) (x26 : List Bool) : Option (((List Int) × Int × (List Int) × (List Bool) × Int) ⊕ (Pj × Mk)) :=
 cnt (c23,c24,x25,x26,IntKind.i64.wrap (n22 - 1))
noncomputable def Qz (r27 : Int × Mk) (x21 : List Bool) (n22 : Int) (x20 : List Int) (c31 : List Int) (c32 : Int) (x33 : Bool) : Option (((List Int) × Int × (List Int) × (List Bool) × Int) ⊕ (Pj × Mk)) :=
 bif x33 then
  chk (0 ≤ r27.1 ∧ r27.1 < x21.length) <|
  ((x21)[r27.1.toNat]?).bind fun x_e35 =>
  chk (0 ≤ r27.1 ∧ r27.1 < x21.length) <|
  ((x21)[r27.1.toNat]?).bind fun _ =>
  PK n22 c31 c32 x20 (x21.set r27.1.toNat (!x_e35))
 else
  PK n22 c31 c32 x20 x21
noncomputable def TA (r37 : Int × Mk) (x_e39 : Int) (n22 : Int) (r38 : Int × Mk) (x21 : List Bool) (x40 : List Int) (u41 : Int) : Option (((List Int) × Int) ⊕ (((List Int) × Int × (List Int) × (List Bool) × Int) ⊕ (Pj × Mk))) :=
 bif (decide (u41 < (x40.length : Int))) then
  chk (0 ≤ u41 ∧ u41 < x40.length) <|
  ((x40)[u41.toNat]?).bind fun x_e42 =>
  bif (x_e42 == r37.1) then
   chk (0 ≤ u41 ∧ u41 < x40.length) <|
   ((x40)[u41.toNat]?).bind fun _ =>
   cnt (x40.set u41.toNat x_e39,IntKind.i64.wrap (u41 + 1))
  else
   cnt (x40,IntKind.i64.wrap (u41 + 1))
 else
  lft (PK n22 r38.2.list r38.2.at_ x40 x21)
noncomputable def Rj (x_x4 : OX) (x20 : List Int) (n22 : Int) (x21 : List Bool) (c44 : List Int) (c45 : Int) (x46 : Bool) : Option (((List Int) × Int × (List Int) × (List Bool) × Int) ⊕ (Pj × Mk)) :=
 bif x46 then
  (Pc (Mk.mk c44 c45) (x_x4.Slots.length : Int)).bind fun r48 =>
  (Sr r48.2).bind fun r49 =>
  chk (0 ≤ r48.1 ∧ r48.1 < x20.length) <|
  ((x20)[r48.1.toNat]?).bind fun _ =>
  PK n22 r49.2.list r49.2.at_ (x20.set r48.1.toNat r49.1) x21
 else
  PK n22 c44 c45 x20 x21
noncomputable def Ri (x_x4 : OX) (r27 : Int × Mk) (x21 : List Bool) (n22 : Int) (x20 : List Int) (r28 : Int × Mk) (x29 : Bool) : Option (((List Int) × Int × (List Int) × (List Bool) × Int) ⊕ (Pj × Mk)) :=
 bif x29 then
  (ixO x_x4.Code r27.1).bind fun x_x30 =>
  bif (x_x30.Op == 16) then
   Qz r27 x21 n22 x20 r28.2.list r28.2.at_ true
  else
   bif (x_x30.Op == 17) then
    Qz r27 x21 n22 x20 r28.2.list r28.2.at_ true
   else
    (Pc r28.2 8).bind fun r34 =>
    Qz r27 x21 n22 x20 r34.2.list r34.2.at_ (r34.1 == 7)
 else
  bif (r28.1 == 2) then
   bif (decide ((x_x4.Slots.length : Int) > 0)) then
    (Pc r28.2 (x_x4.Slots.length : Int)).bind fun r37 =>
    (Te r37.2 x_x4 r37.1).bind fun r38 =>
    chk (0 ≤ r38.1 ∧ r38.1 < x20.length) <|
    ((x20)[r38.1.toNat]?).bind fun x_e39 =>
    Pr (fun s=>TA r37 x_e39 n22 r38 x21 s.1 s.2) (x20,0)
   else
    PK n22 r28.2.list r28.2.at_ x20 x21
  else
   bif (r28.1 == 3) then
    bif (decide ((x_x4.Slots.length : Int) > 0)) then
     (Pc r28.2 4).bind fun r47 =>
     Rj x_x4 x20 n22 x21 r47.2.list r47.2.at_ (r47.1 == 3)
    else
     Rj x_x4 x20 n22 x21 r28.2.list r28.2.at_ false
   else
    PK n22 r28.2.list r28.2.at_ x20 x21
noncomputable def Tz (x_x4 : OX) (c18 : List Int) (c19 : Int) (x20 : List Int) (x21 : List Bool) (n22 : Int) : Option (((List Int) × Int × (List Int) × (List Bool) × Int) ⊕ (Pj × Mk)) :=
 bif (decide (n22 > 0)) then
  (Pc (Mk.mk c18 c19) (x_x4.Code.length : Int)).bind fun r27 =>
  (Pc r27.2 4).bind fun r28 =>
  bif (r28.1 == 0) then
   Ri x_x4 r27 x21 n22 x20 r28 (r28.1 == 0)
  else
   Ri x_x4 r27 x21 n22 x20 r28 (r28.1 == 1)
 else
  lft (some ((Pj.mk x20 x21),(Mk.mk c18 c19)))
noncomputable def Rh (x_x4 : OX) (c6 : List Int) (c7 : Int) (x8 : List Int) (x9 : List Bool) : Option (Pj × Mk) :=
 (Pc (Mk.mk c6 c7) 4).bind fun r17 =>
 Pr (fun s=>Tz x_x4 s.1 s.2.1 s.2.2.1 s.2.2.2.1 s.2.2.2.2) (r17.2.list,r17.2.at_,x8,x9,r17.1)
noncomputable def Ty (x_x4 : OX) (r10 : Int × Mk) (x11 : List Int) (x14 : List Bool) (k15 : Int) : Option (((List Bool) × Int) ⊕ (Pj × Mk)) :=
 bif (decide (k15 < (x14.length : Int))) then
  chk (0 ≤ k15 ∧ k15 < x14.length) <|
  ((x14)[k15.toNat]?).bind fun _ =>
  cnt (x14.set k15.toNat true,IntKind.i64.wrap (k15 + 1))
 else
  lft (Rh x_x4 r10.2.list r10.2.at_ x11 x14)
noncomputable def Tx (x_x4 : OX) (r10 : Int × Mk) (r5 : SP) (x11 : List Int) (s12 : Int) : Option (((List Int) × Int) ⊕ (Pj × Mk)) :=
 bif (decide (s12 < (x11.length : Int))) then
  chk (0 ≤ s12 ∧ s12 < x11.length) <|
  ((x11)[s12.toNat]?).bind fun _ =>
  cnt (x11.set s12.toNat s12,IntKind.i64.wrap (s12 + 1))
 else
  lft (Pr (fun s=>Ty x_x4 r10 x11 s.1 s.2) (([] : List Bool) ++ r5.Rename.Keep,0))
noncomputable def Tp (c1 : Mk) (p2 : Pt) (i3 : Int) : Option (Pj × Mk) :=
 (ixO p2.Funcs i3).bind fun x_x4 =>
 (Wb p2 i3).bind fun r5 =>
 chk (([] : List Int).length + r5.Rename.To.length ≤ 16777216) <|
 chk (([] : List Bool).length + r5.Rename.Keep.length ≤ 16777216) <|
 (Pc c1 3).bind fun r10 =>
 bif (r10.1 == 0) then
  Pr (fun s=>Tx x_x4 r10 r5 s.1 s.2) (([] : List Int) ++ r5.Rename.To,0)
 else
  Rh x_x4 r10.2.list r10.2.at_ (([] : List Int) ++ r5.Rename.To) (([] : List Bool) ++ r5.Rename.Keep)

noncomputable def TI (r3 : Pt × Mk) (r4 : Int × Mk) (l7 : List (List Int)) (x8 : List Int) (x9 : Int) : Option (Pt × Int × Pf × Pj × Mk) :=
 (Tp (Mk.mk x8 x9) r3.1 r4.1).bind fun r13 =>
 some (r3.1,r4.1,(Pf.mk l7),r13.1,r13.2)
noncomputable def Yu (codes1 : (List Int)) : Option (Pt × Int × Pf × Pj × Mk) :=
 (Abs codes1 350).bind fun r2 =>
 (SW r2 3 14).bind fun r3 =>
 (Pc r3.2 (r3.1.Funcs.length : Int)).bind fun r4 =>
 (ixO r3.1.Funcs r4.1).bind fun x_x5 =>
 (TQ r4.2 x_x5).bind fun r6 =>
 (Pc r6.2 4).bind fun r10 =>
 bif (r10.1 == 3) then
  (ixO r3.1.Funcs r4.1).bind fun x_x11 =>
  (Ut r10.2 x_x11).bind fun r12 =>
  TI r3 r4 r12.1.Out r12.2.list r12.2.at_
 else
  TI r3 r4 r6.1.Out r10.2.list r10.2.at_

noncomputable def Qf (codes1 : (List Int)) : Option (Bool) :=
 (Yt).bind fun r2 =>
 bif (!r2) then
  some false
 else
  (Yu codes1).bind fun r3 =>
  (ixO r3.1.Funcs r3.2.1).bind fun x_x4 =>
  (RM x_x4 r3.2.2.1 r3.2.2.2.1).bind fun r5 =>
  bif (r5 != 0) then
   some true
  else
   (SO x_x4).bind fun r6 =>
   (RM x_x4 r6 r3.2.2.2.1).bind fun r7 =>
   some (r7 == 0)

end Go.Proofs.YtpagjjmondojpaaGreatDoor
