/-
 The programs on typed data; written by a program (dx.py).
-/
import Derived.Test.YtpagjjmondojpaaGreatDoorDxT
namespace Go.Proofs.YtpagjjmondojpaaGreatDoor
open Go Go.Dw Go.Proofs
set_option maxRecDepth 100000
set_option maxHeartbeats 4000000
noncomputable def QA (n1 : Int) : Option (Bool) :=
 bif (decide (n1 ≥ 0)) then
  some (decide (n1 < 512))
 else
  some false

noncomputable def Rl (s1 : (List Int)) (x2 : Int) : Option ((Int) ⊕ (Bool)) :=
 bif (decide (x2 < (s1.length : Int))) then
  (ixO s1 x2).bind fun x_x3 =>
  (QA x_x3).bind fun r4 =>
  bif (!r4) then
   lft (some false)
  else
   bif (decide (x2 > 0)) then
    (ixO s1 (IntKind.i64.wrap (x2 - 1))).bind fun x_x5 =>
    bif (decide (x_x3 ≤ x_x5)) then
     lft (some false)
    else
     cnt (IntKind.i64.wrap (x2 + 1))
   else
    cnt (IntKind.i64.wrap (x2 + 1))
 else
  lft (some true)
noncomputable def Xc (s1 : (List Int)) : Option (Bool) :=
 Pd (fun s=>Rl s1 s) 0

noncomputable def RF (s1 : (List Int)) (cap2 : OJ) : Option (Bool) :=
 (Xc s1).bind fun r3 =>
 bif (!r3) then
  some true
 else
  bif (decide ((s1.length : Int) > 0)) then
   (ixO s1 (IntKind.i64.wrap ((s1.length : Int) - 1))).bind fun x_x4 =>
   some (decide (x_x4 ≥ (cap2.Slots.length : Int)))
  else
   some false

noncomputable def Qg (s1 : (List (List Int))) (f2 : OJ) (x3 : Int) : Option ((Int) ⊕ (Int)) :=
 bif (decide (x3 < (s1.length : Int))) then
  (ixO s1 x3).bind fun x_x4 =>
  (RF x_x4 f2).bind fun r5 =>
  bif r5 then
   lft (some x3)
  else
   cnt (IntKind.i64.wrap (x3 + 1))
 else
  lft (some (-1))
noncomputable def PU (s1 : (List (List Int))) (f2 : OJ) : Option (Int) :=
 Pd (fun s=>Qg s1 f2 s) 0

noncomputable def Qf (s1 : (List (List Int))) (f2 : OJ) : Option (Bool) :=
 (PU s1 f2).bind fun r3 =>
 some (decide (r3 ≥ 0))

noncomputable def Sv (f1 : OJ) (l2 : OO) : Option (Bool) :=
 bif ((l2.Out.length : Int) == (f1.Code.length : Int)) then
  (Qf l2.Out f1).bind fun r3 =>
  some (!r3)
 else
  some false

noncomputable def Xy (l1 : OO) : Option (OO) :=
 some l1

noncomputable def Yl (op1 : Int) : Option (Bool) :=
 bif (op1 == 20) then
  some true
 else
  bif (op1 == 23) then
   some true
  else
   some (op1 == 24)

noncomputable def Xi (x_x3 : OM) (l4 : List Int) : Option ((List Int)) :=
 bif (x_x3.Op == 20) then
  chk (l4.length + ([x_x3.A] : List Int).length ≤ 16777216) <|
  chk ((l4 ++ ([x_x3.A] : List Int)).length < 4611686018427387904) <|
  chk ((Xa (l4 ++ ([x_x3.A] : List Int))).length < 4611686018427387904) <|
  some (Lib.compact (Xa (l4 ++ ([x_x3.A] : List Int))))
 else
  bif (x_x3.Op == 21) then
   chk (l4.length + ([x_x3.B] : List Int).length ≤ 16777216) <|
   chk ((l4 ++ ([x_x3.B] : List Int)).length < 4611686018427387904) <|
   chk ((Xa (l4 ++ ([x_x3.B] : List Int))).length < 4611686018427387904) <|
   some (Lib.compact (Xa (l4 ++ ([x_x3.B] : List Int))))
  else
   chk (l4.length < 4611686018427387904) <|
   chk ((Xa l4).length < 4611686018427387904) <|
   some (Lib.compact (Xa l4))
noncomputable def ZM (f1 : OJ) (k2 : Int) : Option ((List Int)) :=
 (ixO f1.Code k2).bind fun x_x3 =>
 (Yl x_x3.Op).bind fun r5 =>
 bif (!r5) then
  chk (([] : List Int).length + ([IntKind.i64.wrap (k2 + 1)] : List Int).length ≤ 16777216) <|
  Xi x_x3 (([] : List Int) ++ ([IntKind.i64.wrap (k2 + 1)] : List Int))
 else
  Xi x_x3 ([] : List Int)
noncomputable def AaU (f1 : OJ) (k2 : Int) : Option ((List Int)) :=
 bif (decide (k2 < 0)) then
  some ([] : List Int)
 else
  bif (decide (k2 ≥ (f1.Code.length : Int))) then
   some ([] : List Int)
  else
   ZM f1 k2

noncomputable def Ug (j1 : Int) (cap2 : OO) : Option ((List Int)) :=
 (ixO cap2.Out j1).bind fun x_x3 =>
 some x_x3

noncomputable def Su (x1 : OM) : Option (Int × Bool) :=
 bif (x1.Op == 16) then
  bif (x1.Op == 16) then
   some (x1.A,true)
  else
   some (0,false)
 else
  bif (x1.Op == 17) then
   some (x1.A,true)
  else
   some (0,false)

noncomputable def Rv (s1 : OL) (n2 : Int) (in3 : Bool) : Option (OL) :=
 chk (0 ≤ ((IntKind.u64.wrap (n2)).tmod 64)) <|
 (QA n2).bind fun r4 =>
 bif (!r4) then
  some s1
 else
  bif in3 then
   chk (0 ≤ (IntKind.i64.wrap (n2.tdiv 64)) ∧ (IntKind.i64.wrap (n2.tdiv 64)) < 8) <|
   ((s1.toList)[(IntKind.i64.wrap (n2.tdiv 64)).toNat]?).bind fun s_e5 =>
   chk (0 ≤ (IntKind.i64.wrap (n2.tdiv 64)) ∧ (IntKind.i64.wrap (n2.tdiv 64)) < 8) <|
   ((s1.toList)[(IntKind.i64.wrap (n2.tdiv 64)).toNat]?).bind fun _ =>
   some (s1.set ((IntKind.i64.wrap (n2.tdiv 64)).toNat) (IntKind.u64.wrap ((BitVec.ofInt IntKind.u64.bits s_e5 ||| BitVec.ofInt IntKind.u64.bits (IntKind.u64.wrap (1 * 2 ^ (Nat.min ((IntKind.u64.wrap (n2)).tmod 64).toNat IntKind.u64.bits)))).toNat)))
  else
   chk (0 ≤ (IntKind.i64.wrap (n2.tdiv 64)) ∧ (IntKind.i64.wrap (n2.tdiv 64)) < 8) <|
   ((s1.toList)[(IntKind.i64.wrap (n2.tdiv 64)).toNat]?).bind fun s_e7 =>
   chk (0 ≤ (IntKind.i64.wrap (n2.tdiv 64)) ∧ (IntKind.i64.wrap (n2.tdiv 64)) < 8) <|
   ((s1.toList)[(IntKind.i64.wrap (n2.tdiv 64)).toNat]?).bind fun _ =>
   some (s1.set ((IntKind.i64.wrap (n2.tdiv 64)).toNat) (IntKind.u64.wrap ((BitVec.ofInt IntKind.u64.bits s_e7 &&& ~~~ BitVec.ofInt IntKind.u64.bits (IntKind.u64.wrap (1 * 2 ^ (Nat.min ((IntKind.u64.wrap (n2)).tmod 64).toNat IntKind.u64.bits)))).toNat)))

noncomputable def VG (l1 : (List Int)) (x2 : OL) (x3 : Int) : Option ((OL × Int) ⊕ (OL)) :=
 bif (decide (x3 < (l1.length : Int))) then
  (ixO l1 x3).bind fun x_x4 =>
  (Rv x2 x_x4 true).bind fun r5 =>
  cnt (r5,IntKind.i64.wrap (x3 + 1))
 else
  lft (some x2)
noncomputable def QW (l1 : (List Int)) : Option (OL) :=
 Pd (fun s=>VG l1 s.1 s.2) ((OL.mk 0 0 0 0 0 0 0 0),0)

noncomputable def SE (x3 : Int) (l5 : List Int) (x6 : Int) : Option (((List Int) × Int) ⊕ (((List Int) × Int) ⊕ ((List Int) × OL))) :=
 bif (x6 != 0) then
  (AdD x6).bind fun r7 =>
  chk (l5.length + ([IntKind.i64.wrap ((IntKind.i64.wrap (64 * x3)) + r7)] : List Int).length ≤ 16777216) <|
  cnt (l5 ++ ([IntKind.i64.wrap ((IntKind.i64.wrap (64 * x3)) + r7)] : List Int),IntKind.u64.wrap ((BitVec.ofInt IntKind.u64.bits x6 &&& BitVec.ofInt IntKind.u64.bits (IntKind.u64.wrap (x6 - 1))).toNat))
 else
  lft (cnt (l5,IntKind.i64.wrap (x3 + 1)))
noncomputable def SD (s1 : OL) (l2 : List Int) (x3 : Int) : Option (((List Int) × Int) ⊕ ((List Int) × OL)) :=
 bif (decide (x3 < 8)) then
  chk (0 ≤ x3 ∧ x3 < 8) <|
  ((s1.toList)[x3.toNat]?).bind fun s_e4 =>
  Pd (fun s=>SE x3 s.1 s.2) (l2,s_e4)
 else
  lft (some (l2,s1))
noncomputable def Qh (s1 : OL) : Option ((List Int) × OL) :=
 Pd (fun s=>SD s1 s.1 s.2) (([] : List Int),0)

noncomputable def Uj (s1 : (List Int)) (n2 : Int) : Option ((List Int)) :=
 (QW s1).bind fun r3 =>
 (Rv r3 n2 false).bind fun r4 =>
 (Qh r4).bind fun r5 =>
 some r5.1

noncomputable def Wp (x1 : OM) : Option ((List Int)) :=
 bif (x1.Op == 15) then
  bif (x1.Op == 15) then
   some ([x1.B] : List Int)
  else
   some ([] : List Int)
 else
  bif (x1.Op == 17) then
   some ([x1.B] : List Int)
  else
   some ([] : List Int)

noncomputable def Xd (l1 : (List Int)) : Option ((List Int)) :=
 (QW l1).bind fun r2 =>
 (Qh r2).bind fun r3 =>
 some r3.1

noncomputable def Vs (x1 : Int) (y2 : Int) : Option (Int) :=
 some (IntKind.u64.wrap ((BitVec.ofInt IntKind.u64.bits x1 ||| BitVec.ofInt IntKind.u64.bits y2).toNat))

noncomputable def Qb (s1 : OL) (t2 : OL) (x3 : OL) (x4 : Int) : Option ((OL × Int) ⊕ (OL × OL × OL)) :=
 bif (decide (x4 < 8)) then
  chk (0 ≤ x4 ∧ x4 < 8) <|
  ((s1.toList)[x4.toNat]?).bind fun s_e5 =>
  chk (0 ≤ x4 ∧ x4 < 8) <|
  ((t2.toList)[x4.toNat]?).bind fun t_e6 =>
  (Vs s_e5 t_e6).bind fun r7 =>
  chk (0 ≤ x4 ∧ x4 < 8) <|
  ((x3.toList)[x4.toNat]?).bind fun _ =>
  cnt ((x3.set x4.toNat r7),IntKind.i64.wrap (x4 + 1))
 else
  lft (some (x3,s1,t2))
noncomputable def Qn (s1 : OL) (t2 : OL) : Option (OL × OL × OL) :=
 Pd (fun s=>Qb s1 t2 s.1 s.2) ((OL.mk 0 0 0 0 0 0 0 0),0)

noncomputable def SV (a1 : (List Int)) (b2 : (List Int)) : Option ((List Int)) :=
 (QW a1).bind fun r3 =>
 (QW b2).bind fun r4 =>
 (Qn r3 r4).bind fun r5 =>
 (Qh r5.1).bind fun r6 =>
 some r6.1

noncomputable def AaS (x1 : OM) (out2 : (List Int)) : Option ((List Int)) :=
 (Su x1).bind fun r3 =>
 bif r3.2 then
  (Uj out2 r3.1).bind fun r4 =>
  (Wp x1).bind fun r5 =>
  (Xd r5).bind fun r6 =>
  (SV r4 r6).bind fun r7 =>
  some r7
 else
  (Wp x1).bind fun r8 =>
  (Xd r8).bind fun r9 =>
  (SV out2 r9).bind fun r10 =>
  some r10

noncomputable def Vr (x1 : Int) (y2 : Int) : Option (Int) :=
 some (IntKind.u64.wrap ((BitVec.ofInt IntKind.u64.bits x1 &&& ~~~ BitVec.ofInt IntKind.u64.bits y2).toNat))

noncomputable def Qa (s1 : OL) (t2 : OL) (x3 : OL) (x4 : Int) : Option ((OL × Int) ⊕ (OL × OL × OL)) :=
 bif (decide (x4 < 8)) then
  chk (0 ≤ x4 ∧ x4 < 8) <|
  ((s1.toList)[x4.toNat]?).bind fun s_e5 =>
  chk (0 ≤ x4 ∧ x4 < 8) <|
  ((t2.toList)[x4.toNat]?).bind fun t_e6 =>
  (Vr s_e5 t_e6).bind fun r7 =>
  chk (0 ≤ x4 ∧ x4 < 8) <|
  ((x3.toList)[x4.toNat]?).bind fun _ =>
  cnt ((x3.set x4.toNat r7),IntKind.i64.wrap (x4 + 1))
 else
  lft (some (x3,s1,t2))
noncomputable def Qm (s1 : OL) (t2 : OL) : Option (OL × OL × OL) :=
 Pd (fun s=>Qa s1 t2 s.1 s.2) ((OL.mk 0 0 0 0 0 0 0 0),0)

noncomputable def Vq (a1 : (List Int)) (b2 : (List Int)) : Option ((List Int)) :=
 (QW a1).bind fun r3 =>
 (QW b2).bind fun r4 =>
 (Qm r3 r4).bind fun r5 =>
 (Qh r5.1).bind fun r6 =>
 some r6.1

noncomputable def RI (need1 : (List Int)) (cap2 : (List Int)) (cap3 : OO) (cap4 : Int) : Option (Bool × (List Int)) :=
 (ixO cap3.Out cap4).bind fun x_x5 =>
 (Vq need1 x_x5).bind fun r6 =>
 (SV cap2 r6).bind fun r7 =>
 some (true,r7)

noncomputable def Pu (r7 : (List Int)) (f1 : OJ) (set3 : OO) (visit5 : OO) (visit6 : Int) (x8 : List Int) (x9 : Int) : Option (((List Int) × Int) ⊕ (Bool × (List Int))) :=
 bif (decide (x9 < (r7.length : Int))) then
  chk (0 ≤ x9 ∧ x9 < r7.length) <|
  ((r7)[x9.toNat]?).bind fun x_e10 =>
  (ixO f1.Code x_e10).bind fun x_x11 =>
  (Ug x_e10 set3).bind fun r12 =>
  (AaS x_x11 r12).bind fun r13 =>
  (RI r13 x8 visit5 visit6).bind fun r14 =>
  bif (!r14.1) then
   lft (some (false,r14.2))
  else
   cnt (r14.2,IntKind.i64.wrap (x9 + 1))
 else
  lft (some (true,x8))
noncomputable def PT (f1 : OJ) (k2 : Int) (set3 : OO) (visit4 : (List Int)) (visit5 : OO) (visit6 : Int) : Option (Bool × (List Int)) :=
 (AaU f1 k2).bind fun r7 =>
 Pd (fun s=>Pu r7 f1 set3 visit5 visit6 s.1 s.2) (visit4,0)

noncomputable def UG (f1 : OJ) (l2 : OO) (x4 : Int) : Option ((Int) ⊕ (Int × Int × Bool)) :=
 bif (decide (x4 < (f1.Code.length : Int))) then
  (Xy l2).bind fun r5 =>
  (PT f1 x4 r5 ([]) l2 x4).bind fun r6 =>
  bif (decide ((r6.2.length : Int) > 0)) then
   (ixO r6.2 0).bind fun x_x7 =>
   lft (some (x4,x_x7,true))
  else
   cnt (IntKind.i64.wrap (x4 + 1))
 else
  lft (some (0,0,false))
noncomputable def UF (f1 : OJ) (l2 : OO) : Option (Int × Int × Bool) :=
 (Sv f1 l2).bind fun r3 =>
 bif (!r3) then
  some (0,0,false)
 else
  Pd (fun s=>UG f1 l2 s) 0

noncomputable def Tm (f1 : OJ) (l2 : OO) : Option (Int) :=
 (Sv f1 l2).bind fun r3 =>
 bif (!r3) then
  some 11
 else
  (UF f1 l2).bind fun r4 =>
  bif r4.2.2 then
   some 11
  else
   some 0

noncomputable def Vb (to2 : (List Int)) (f1 : OJ) (x3 : Int) : Option ((Int) ⊕ (Bool)) :=
 bif (decide (x3 < (to2.length : Int))) then
  (ixO to2 x3).bind fun x_x4 =>
  bif (decide (x_x4 < 0)) then
   lft (some false)
  else
   bif (decide (x_x4 ≥ (to2.length : Int))) then
    lft (some false)
   else
    (ixO f1.Slots x_x4).bind fun x_x5 =>
    (ixO f1.Slots x3).bind fun x_x6 =>
    bif (x_x5.Size != x_x6.Size) then
     lft (some false)
    else
     (ixO to2 x_x4).bind fun x_x7 =>
     bif (x_x7 != x_x4) then
      lft (some false)
     else
      cnt (IntKind.i64.wrap (x3 + 1))
 else
  lft (some true)
noncomputable def Vt (f1 : OJ) (to2 : (List Int)) : Option (Bool) :=
 bif ((to2.length : Int) != (f1.Slots.length : Int)) then
  some false
 else
  Pd (fun s=>Vb to2 f1 s) 0

noncomputable def VK (x1 : OM) : Option (Bool) :=
 (Su x1).bind fun r2 =>
 some r2.2

noncomputable def Wb (f1 : OJ) (r2 : OP) (x4 : Int) : Option ((Int) ⊕ (Int)) :=
 bif (decide (x4 < (f1.Code.length : Int))) then
  (ixO f1.Code x4).bind fun x_x5 =>
  (ixO r2.Keep x4).bind fun x_x6 =>
  bif (!x_x6) then
   (VK x_x5).bind fun r7 =>
   bif (!r7) then
    lft (some 12)
   else
    cnt (IntKind.i64.wrap (x4 + 1))
  else
   cnt (IntKind.i64.wrap (x4 + 1))
 else
  lft (some 0)
noncomputable def Wc (f1 : OJ) (r2 : OP) : Option (Int) :=
 Pd (fun s=>Wb f1 r2 s) 0
noncomputable def Ur (f1 : OJ) (r2 : OP) : Option (Int) :=
 (Vt f1 r2.To).bind fun r3 =>
 bif (!r3) then
  some 12
 else
  bif ((r2.Keep.length : Int) != (f1.Code.length : Int)) then
   some 12
  else
   Wc f1 r2

noncomputable def PV (x_x9 : (List Int)) (cap3 : OP) (k1 : Int) (r6 : Int × Bool) (x10 : Int) : Option ((Int) ⊕ (Int × Bool)) :=
 bif (decide (x10 < (x_x9.length : Int))) then
  (ixO x_x9 x10).bind fun x_x11 =>
  (ixO cap3.Keep k1).bind fun x_x12 =>
  bif (x_x12 == (x_x11 != r6.1)) then
   (ixO cap3.To x_x11).bind fun x_x13 =>
   (ixO cap3.To r6.1).bind fun x_x14 =>
   bif (x_x13 == x_x14) then
    lft (some (x_x11,true))
   else
    cnt (IntKind.i64.wrap (x10 + 1))
  else
   cnt (IntKind.i64.wrap (x10 + 1))
 else
  lft (some (0,false))
noncomputable def Pp (cap4 : OO) (k1 : Int) (cap3 : OP) (r6 : Int × Bool) : Option (Int × Bool) :=
 (ixO cap4.Out k1).bind fun x_x9 =>
 Pd (fun s=>PV x_x9 cap3 k1 r6 s) 0
noncomputable def PE (k1 : Int) (cap2 : OJ) (cap3 : OP) (cap4 : OO) : Option (Int × Bool) :=
 (ixO cap2.Code k1).bind fun x_x5 =>
 (Su x_x5).bind fun r6 =>
 bif (!r6.2) then
  some (0,false)
 else
  bif (x_x5.Op == 17) then
   (ixO cap3.To x_x5.A).bind fun x_x7 =>
   (ixO cap3.To x_x5.B).bind fun x_x8 =>
   bif (x_x7 == x_x8) then
    some (0,false)
   else
    Pp cap4 k1 cap3 r6
  else
   Pp cap4 k1 cap3 r6

noncomputable def RW (f1 : OJ) (r3 : OP) (l2 : OO) (x6 : Int) : Option ((Int) ⊕ (Int × Int × Bool)) :=
 bif (decide (x6 < (f1.Code.length : Int))) then
  (PE x6 f1 r3 l2).bind fun r7 =>
  bif r7.2 then
   lft (some (x6,r7.1,true))
  else
   cnt (IntKind.i64.wrap (x6 + 1))
 else
  lft (some (0,0,false))
noncomputable def RX (f1 : OJ) (r3 : OP) (l2 : OO) : Option (Int × Int × Bool) :=
 Pd (fun s=>RW f1 r3 l2 s) 0
noncomputable def QB (f1 : OJ) (l2 : OO) (r3 : OP) : Option (Int × Int × Bool) :=
 (Tm f1 l2).bind fun r4 =>
 bif (r4 != 0) then
  some (0,0,false)
 else
  (Ur f1 r3).bind fun r5 =>
  bif (r5 != 0) then
   some (0,0,false)
  else
   RX f1 r3 l2

noncomputable def SC (f1 : OJ) (l2 : OO) (r3 : OP) : Option (Int) :=
 (Tm f1 l2).bind fun r4 =>
 bif (r4 != 0) then
  some 11
 else
  (Ur f1 r3).bind fun r5 =>
  bif (r5 != 0) then
   some 12
  else
   (QB f1 l2 r3).bind fun r6 =>
   bif r6.2.2 then
    some 12
   else
    some 0

noncomputable def Yz  : Option (Bool) :=
 (SC (OJ.mk 0 ([(Pb.mk 8 8),(Pb.mk 8 8)] : List Pb) ([(OM.mk 16 0 0 0 0),(OM.mk 16 1 0 0 0),(OM.mk 15 0 0 0 0),(OM.mk 23 0 0 0 0)] : List OM)) (OO.mk ([([0] : List Int),([0] : List Int),([] : List Int),([] : List Int)] : List (List Int))) (OP.mk ([0,1] : List Int) ([true,true,true,true] : List Bool))).bind fun r1 =>
 bif (r1 == 0) then
  (SC (OJ.mk 0 ([(Pb.mk 8 8),(Pb.mk 8 8)] : List Pb) ([(OM.mk 16 0 0 0 0),(OM.mk 16 1 0 0 0),(OM.mk 15 0 0 0 0),(OM.mk 23 0 0 0 0)] : List OM)) (OO.mk ([([0] : List Int),([0] : List Int),([] : List Int),([] : List Int)] : List (List Int))) (OP.mk ([0,0] : List Int) ([true,true,true,true] : List Bool))).bind fun r2 =>
  some (r2 == 12)
 else
  some false

noncomputable def AbG (list1 : (List Int)) (limit2 : Int) : Option (Mk) :=
 chk (0 ≤ (Sw (list1.length : Int) limit2) ∧ (Sw (list1.length : Int) limit2) ≤ list1.length) <|
 some (Mk.mk (list1.take (Sw (list1.length : Int) limit2).toNat) 0)

noncomputable def WD (c1 : Mk) : Option (Bool × Mk) :=
 some ((decide (c1.at_ < (c1.list.length : Int))),c1)

noncomputable def UA (n2 : Int) (c3 : List Int) (c4 : Int) : Option (Int × Mk) :=
 (ixO c3 c4).bind fun x_x6 =>
 some (IntKind.i64.wrap ((IntKind.i64.wrap ((IntKind.i64.wrap (x_x6)) * n2)).tdiv 256),(Mk.mk c3 (IntKind.i64.wrap (c4 + 1))))
noncomputable def OQ (c1 : Mk) (n2 : Int) : Option (Int × Mk) :=
 (WD c1).bind fun r5 =>
 bif (!r5.1) then
  some (0,r5.2)
 else
  bif (decide (n2 < 1)) then
   some (0,r5.2)
  else
   UA n2 r5.2.list r5.2.at_

noncomputable def UB (c1 : Mk) : Option (Pb × Mk) :=
 (OQ c1 7).bind fun r2 =>
 chk (0 ≤ r2.1 ∧ r2.1 < ([8,4,8,1,2,16,8] : List Int).length) <|
 ((([8,4,8,1,2,16,8] : List Int))[r2.1.toNat]?).bind fun x_e3 =>
 (OQ r2.2 8).bind fun r4 =>
 chk (0 ≤ r4.1 ∧ r4.1 < ([8,4,1,8,16,2,32,64] : List Int).length) <|
 ((([8,4,1,8,16,2,32,64] : List Int))[r4.1.toNat]?).bind fun x_e5 =>
 some ((Pb.mk x_e3 x_e5),r4.2)

noncomputable def Ub (c4 : List Int) (c5 : Int) (l6 : List Pb) (n7 : Int) : Option (((List Int) × Int × (List Pb) × Int) ⊕ ((List Pb) × Mk)) :=
 bif (decide (n7 > 0)) then
  (UB (Mk.mk c4 c5)).bind fun r8 =>
  chk (l6.length + ([r8.1] : List Pb).length ≤ 16777216) <|
  cnt (r8.2.list,r8.2.at_,l6 ++ ([r8.1] : List Pb),IntKind.i64.wrap (n7 - 1))
 else
  lft (some (l6,(Mk.mk c4 c5)))
noncomputable def TV (c1 : Mk) (most2 : Int) : Option ((List Pb) × Mk) :=
 (OQ c1 (IntKind.i64.wrap (most2 + 1))).bind fun r3 =>
 Pd (fun s=>Ub s.1 s.2.1 s.2.2.1 s.2.2.2) (r3.2.list,r3.2.at_,([] : List Pb),r3.1)

noncomputable def UE (f2 : OJ) (s3 : Int) (c1 : Mk) (l4 : List Int) (k5 : Int) : Option (((List Int) × Int) ⊕ (Int × Mk)) :=
 bif (decide (k5 < (f2.Slots.length : Int))) then
  (ixO f2.Slots k5).bind fun x_x6 =>
  (ixO f2.Slots s3).bind fun x_x7 =>
  bif (x_x6.Size == x_x7.Size) then
   chk (l4.length + ([k5] : List Int).length ≤ 16777216) <|
   cnt (l4 ++ ([k5] : List Int),IntKind.i64.wrap (k5 + 1))
  else
   cnt (l4,IntKind.i64.wrap (k5 + 1))
 else
  lft (
   (OQ c1 (l4.length : Int)).bind fun r8 =>
   chk (0 ≤ r8.1 ∧ r8.1 < l4.length) <|
   ((l4)[r8.1.toNat]?).bind fun l_e9 =>
   some (l_e9,r8.2))
noncomputable def Tk (c1 : Mk) (f2 : OJ) (s3 : Int) : Option (Int × Mk) :=
 Pd (fun s=>UE f2 s3 c1 s.1 s.2) (([] : List Int),0)

noncomputable def Tj (c1 : Mk) : Option (Int × Mk) :=
 (OQ c1 6).bind fun r2 =>
 bif (r2.1 == 0) then
  (OQ r2.2 3).bind fun r3 =>
  some (IntKind.u64.wrap (18446744073709551615 - (IntKind.u64.wrap (r3.1))),r3.2)
 else
  bif (r2.1 == 1) then
   (OQ r2.2 64).bind fun r4 =>
   chk (0 ≤ r4.1) <|
   some (IntKind.u64.wrap (1 * 2 ^ (Nat.min r4.1.toNat IntKind.u64.bits)),r4.2)
  else
   bif (r2.1 == 2) then
    some (0,r2.2)
   else
    (OQ r2.2 256).bind fun r5 =>
    some (IntKind.u64.wrap (r5.1),r5.2)

noncomputable def UD (params4 : (List Int)) (i3 : Int) (r23 : Int × Mk) (c24 : List Int) (c25 : Int) (out26 : List OM) (a27 : Int) : Option (((List Int) × Int × (List OM) × Int) ⊕ ((List OM) × Mk)) :=
 (ixO params4 (IntKind.i64.wrap ((IntKind.i64.wrap (i3 + 1)) + r23.1))).bind fun x_x28 =>
 bif (decide (a27 < x_x28)) then
  (OQ (Mk.mk c24 c25) 8).bind fun r29 =>
  bif (decide (r29.1 < 7)) then
   (OQ r29.2 4).bind fun r30 =>
   chk (out26.length + ([(OM.mk 18 a27 r30.1 0 0)] : List OM).length ≤ 16777216) <|
   cnt (r30.2.list,r30.2.at_,out26 ++ ([(OM.mk 18 a27 r30.1 0 0)] : List OM),IntKind.i64.wrap (a27 + 1))
  else
   cnt (r29.2.list,r29.2.at_,out26,IntKind.i64.wrap (a27 + 1))
 else
  lft (
   chk (out26.length + ([(OM.mk 22 (IntKind.i64.wrap ((IntKind.i64.wrap (i3 + 1)) + r23.1)) 0 0 0)] : List OM).length ≤ 16777216) <|
   some (out26 ++ ([(OM.mk 22 (IntKind.i64.wrap ((IntKind.i64.wrap (i3 + 1)) + r23.1)) 0 0 0)] : List OM),(Mk.mk c24 c25)))
noncomputable def Xh (r5 : Int × Mk) (r6 : Int × Mk) : Option ((List OM) × Mk) :=
 some (([(OM.mk 14 r5.1 0 0 0)] : List OM),r6.2)
noncomputable def RC (r6 : Int × Mk) (params4 : (List Int)) (i3 : Int) (r5 : Int × Mk) (x22 : Bool) : Option ((List OM) × Mk) :=
 bif x22 then
  (OQ r6.2 (IntKind.i64.wrap ((IntKind.i64.wrap ((params4.length : Int) - i3)) - 1))).bind fun r23 =>
  Pd (fun s=>UD params4 i3 r23 s.1 s.2.1 s.2.2.1 s.2.2.2) (r23.2.list,r23.2.at_,([] : List OM),0)
 else
  Xh r5 r6
noncomputable def RB (r6 : Int × Mk) (f2 : OJ) (r5 : Int × Mk) (params4 : (List Int)) (i3 : Int) (x20 : Bool) : Option ((List OM) × Mk) :=
 bif x20 then
  (OQ r6.2 f2.Params).bind fun r21 =>
  some (([(OM.mk 19 r5.1 r21.1 0 0)] : List OM),r21.2)
 else
  bif (decide (r6.1 ≥ 17)) then
   RC r6 params4 i3 r5 (decide ((IntKind.i64.wrap (i3 + 1)) < (params4.length : Int)))
  else
   RC r6 params4 i3 r5 false
noncomputable def RA (r6 : Int × Mk) (f2 : OJ) (r5 : Int × Mk) (params4 : (List Int)) (i3 : Int) (x11 : Bool) : Option ((List OM) × Mk) :=
 bif x11 then
  (OQ r6.2 (f2.Slots.length : Int)).bind fun r12 =>
  (Tk r12.2 f2 r12.1).bind fun r13 =>
  some (([(OM.mk 17 r13.1 r12.1 0 0)] : List OM),r13.2)
 else
  bif (decide (r6.1 < 11)) then
   (Tj r6.2).bind fun r14 =>
   some (([(OM.mk 0 r5.1 0 0 r14.1)] : List OM),r14.2)
  else
   bif (decide (r6.1 < 13)) then
    (OQ r6.2 10).bind fun r15 =>
    (OQ r15.2 4).bind fun r16 =>
    (OQ r16.2 8).bind fun r17 =>
    some (([(OM.mk (IntKind.i64.wrap (2 + r15.1)) r5.1 r16.1 r17.1 0)] : List OM),r17.2)
   else
    bif (decide (r6.1 < 15)) then
     some (([(OM.mk 14 r5.1 0 0 0)] : List OM),r6.2)
    else
     bif (r6.1 == 15) then
      (OQ r6.2 3).bind fun r18 =>
      chk (0 ≤ r18.1 ∧ r18.1 < ([13,12,1] : List Int).length) <|
      ((([13,12,1] : List Int))[r18.1.toNat]?).bind fun x_e19 =>
      some (([(OM.mk x_e19 r5.1 0 0 0)] : List OM),r18.2)
     else
      bif (r6.1 == 16) then
       RB r6 f2 r5 params4 i3 (decide (f2.Params > 0))
      else
       RB r6 f2 r5 params4 i3 false
noncomputable def Rz (r6 : Int × Mk) (f2 : OJ) (r5 : Int × Mk) (params4 : (List Int)) (i3 : Int) (x9 : Bool) : Option ((List OM) × Mk) :=
 bif x9 then
  (OQ r6.2 (f2.Slots.length : Int)).bind fun r10 =>
  some (([(OM.mk 15 r5.1 r10.1 0 0)] : List OM),r10.2)
 else
  bif (decide (r6.1 < 9)) then
   RA r6 f2 r5 params4 i3 (decide ((f2.Slots.length : Int) > 0))
  else
   RA r6 f2 r5 params4 i3 false
noncomputable def Ry (r6 : Int × Mk) (f2 : OJ) (r5 : Int × Mk) (params4 : (List Int)) (i3 : Int) (x7 : Bool) : Option ((List OM) × Mk) :=
 bif x7 then
  (OQ r6.2 (f2.Slots.length : Int)).bind fun r8 =>
  some (([(OM.mk 16 r8.1 r5.1 0 0)] : List OM),r8.2)
 else
  bif (decide (r6.1 < 6)) then
   Rz r6 f2 r5 params4 i3 (decide ((f2.Slots.length : Int) > 0))
  else
   Rz r6 f2 r5 params4 i3 false
noncomputable def UC (c1 : Mk) (f2 : OJ) (i3 : Int) (params4 : (List Int)) : Option ((List OM) × Mk) :=
 (OQ c1 4).bind fun r5 =>
 (OQ r5.2 20).bind fun r6 =>
 bif (decide (r6.1 < 3)) then
  Ry r6 f2 r5 params4 i3 (decide ((f2.Slots.length : Int) > 0))
 else
  Ry r6 f2 r5 params4 i3 false

noncomputable def Rp (k32 : Int) (code31 : List OM) (r33 : Int × Mk) (to34 : Int) (x35 : Bool) : Option (((List Int) × Int × (List OM) × Int) ⊕ (OJ × Mk)) :=
 bif x35 then
  chk (0 ≤ k32 ∧ k32 < code31.length) <|
  ((code31)[k32.toNat]?).bind fun code_o38 =>
  cnt (r33.2.list,r33.2.at_,code31.set k32.toNat (OM.mk code_o38.Op to34 code_o38.B code_o38.C code_o38.Imm),IntKind.i64.wrap (k32 + 1))
 else
  chk (0 ≤ k32 ∧ k32 < code31.length) <|
  ((code31)[k32.toNat]?).bind fun code_e39 =>
  bif (code_e39.Op == 21) then
   chk (0 ≤ k32 ∧ k32 < code31.length) <|
   ((code31)[k32.toNat]?).bind fun code_e40 =>
   bif (decide (code_e40.B < 0)) then
    chk (0 ≤ k32 ∧ k32 < code31.length) <|
    ((code31)[k32.toNat]?).bind fun code_o41 =>
    cnt (r33.2.list,r33.2.at_,code31.set k32.toNat (OM.mk code_o41.Op code_o41.A to34 code_o41.C code_o41.Imm),IntKind.i64.wrap (k32 + 1))
   else
    cnt (r33.2.list,r33.2.at_,code31,IntKind.i64.wrap (k32 + 1))
  else
   cnt (r33.2.list,r33.2.at_,code31,IntKind.i64.wrap (k32 + 1))
noncomputable def PR (k32 : Int) (code31 : List OM) (r33 : Int × Mk) (to34 : Int) : Option (((List Int) × Int × (List OM) × Int) ⊕ (OJ × Mk)) :=
 chk (0 ≤ k32 ∧ k32 < code31.length) <|
 ((code31)[k32.toNat]?).bind fun code_e36 =>
 bif (code_e36.Op == 20) then
  chk (0 ≤ k32 ∧ k32 < code31.length) <|
  ((code31)[k32.toNat]?).bind fun code_e37 =>
  Rp k32 code31 r33 to34 (decide (code_e37.A < 0))
 else
  Rp k32 code31 r33 to34 false
noncomputable def Ro (x_x5 : Int) (f17 : List Pb) (c29 : List Int) (c30 : Int) (code31 : List OM) (k32 : Int) : Option (((List Int) × Int × (List OM) × Int) ⊕ (OJ × Mk)) :=
 bif (decide (k32 < (code31.length : Int))) then
  (OQ (Mk.mk c29 c30) 8).bind fun r33 =>
  bif (decide ((IntKind.i64.wrap ((IntKind.i64.wrap (k32 + r33.1)) - 2)) < 0)) then
   PR k32 code31 r33 (IntKind.i64.wrap ((code31.length : Int) - 1))
  else
   bif (decide ((IntKind.i64.wrap ((IntKind.i64.wrap (k32 + r33.1)) - 2)) ≥ (code31.length : Int))) then
    PR k32 code31 r33 (IntKind.i64.wrap ((code31.length : Int) - 1))
   else
    PR k32 code31 r33 (IntKind.i64.wrap ((IntKind.i64.wrap (k32 + r33.1)) - 2))
 else
  lft (some ((OJ.mk x_x5 f17 code31),(Mk.mk c29 c30)))
noncomputable def Qx (code16 : List OM) (x_x5 : Int) (f17 : List Pb) (c23 : List Int) (c24 : Int) (end25 : Int) (end26 : Int) : Option (OJ × Mk) :=
 chk (code16.length + ([(OM.mk end25 0 0 0 end26)] : List OM).length ≤ 16777216) <|
 Pd (fun s=>Ro x_x5 f17 s.1 s.2.1 s.2.2.1 s.2.2.2) (c23,c24,code16 ++ ([(OM.mk end25 0 0 0 end26)] : List OM),0)
noncomputable def SM (x_x5 : Int) (i2 : Int) (params3 : (List Int)) (c14 : List Int) (c15 : Int) (code16 : List OM) (f17 : List Pb) (n18 : Int) : Option (((List Int) × Int × (List OM) × (List Pb) × Int) ⊕ (OJ × Mk)) :=
 bif (decide (n18 > 0)) then
  (UC (Mk.mk c14 c15) (OJ.mk x_x5 f17 ([])) i2 params3).bind fun r19 =>
  chk (code16.length + r19.1.length ≤ 16777216) <|
  (OQ r19.2 9).bind fun r20 =>
  bif (r20.1 == 7) then
   (OQ r20.2 4).bind fun r21 =>
   chk ((code16 ++ r19.1).length + ([(OM.mk 21 r21.1 (-1) 0 0)] : List OM).length ≤ 16777216) <|
   cnt (r21.2.list,r21.2.at_,(code16 ++ r19.1) ++ ([(OM.mk 21 r21.1 (-1) 0 0)] : List OM),f17,IntKind.i64.wrap (n18 - 1))
  else
   bif (r20.1 == 8) then
    (OQ r20.2 3).bind fun r22 =>
    bif (r22.1 == 2) then
     chk ((code16 ++ r19.1).length + ([(OM.mk 20 (-1) 0 0 0)] : List OM).length ≤ 16777216) <|
     cnt (r22.2.list,r22.2.at_,(code16 ++ r19.1) ++ ([(OM.mk 20 (-1) 0 0 0)] : List OM),f17,IntKind.i64.wrap (n18 - 1))
    else
     cnt (r22.2.list,r22.2.at_,code16 ++ r19.1,f17,IntKind.i64.wrap (n18 - 1))
   else
    cnt (r20.2.list,r20.2.at_,code16 ++ r19.1,f17,IntKind.i64.wrap (n18 - 1))
 else
  lft (
   (OQ (Mk.mk c14 c15) 12).bind fun r27 =>
   bif (r27.1 == 11) then
    (Tj r27.2).bind fun r28 =>
    Qx code16 x_x5 f17 r28.2.list r28.2.at_ 24 r28.1
   else
    Qx code16 x_x5 f17 r27.2.list r27.2.at_ 23 0)
noncomputable def SL (r6 : (List Pb) × Mk) (most4 : Int) (x_x5 : Int) (i2 : Int) (params3 : (List Int)) (c7 : List Int) (c8 : Int) (code9 : List OM) (s10 : Int) : Option (((List Int) × Int × (List OM) × Int) ⊕ (OJ × Mk)) :=
 bif (decide (s10 < (r6.1.length : Int))) then
  (OQ (Mk.mk c7 c8) 4).bind fun r11 =>
  bif (decide (r11.1 < 3)) then
   (OQ r11.2 4).bind fun r12 =>
   chk (code9.length + ([(OM.mk 16 s10 r12.1 0 0)] : List OM).length ≤ 16777216) <|
   cnt (r12.2.list,r12.2.at_,code9 ++ ([(OM.mk 16 s10 r12.1 0 0)] : List OM),IntKind.i64.wrap (s10 + 1))
  else
   cnt (r11.2.list,r11.2.at_,code9,IntKind.i64.wrap (s10 + 1))
 else
  lft (
   (OQ (Mk.mk c7 c8) (IntKind.i64.wrap (most4 + 1))).bind fun r13 =>
   Pd (fun s=>SM x_x5 i2 params3 s.1 s.2.1 s.2.2.1 s.2.2.2.1 s.2.2.2.2) (r13.2.list,r13.2.at_,code9,r6.1,r13.1))
noncomputable def Sp (c1 : Mk) (i2 : Int) (params3 : (List Int)) (most4 : Int) : Option (OJ × Mk) :=
 (ixO params3 i2).bind fun x_x5 =>
 (TV c1 6).bind fun r6 =>
 Pd (fun s=>SL r6 most4 x_x5 i2 params3 s.1 s.2.1 s.2.2.1 s.2.2.2) (r6.2.list,r6.2.at_,([] : List OM),0)

noncomputable def Tg (most3 : Int) (c10 : List Int) (c11 : Int) (p12 : List OJ) (i13 : Int) (params14 : List Int) : Option (((List Int) × Int × (List OJ) × Int × (List Int)) ⊕ (Pf × Mk)) :=
 bif (decide (i13 < (params14.length : Int))) then
  chk (([] : List OJ).length + p12.length ≤ 16777216) <|
  (Sp (Mk.mk c10 c11) i13 params14 most3).bind fun r15 =>
  chk ((([] : List OJ) ++ p12).length + ([r15.1] : List OJ).length ≤ 16777216) <|
  cnt (r15.2.list,r15.2.at_,(([] : List OJ) ++ p12) ++ ([r15.1] : List OJ),IntKind.i64.wrap (i13 + 1),params14)
 else
  lft (some ((Pf.mk p12),(Mk.mk c10 c11)))
noncomputable def Tf (most3 : Int) (c5 : List Int) (c6 : Int) (params7 : List Int) (n8 : Int) : Option (((List Int) × Int × (List Int) × Int) ⊕ (Pf × Mk)) :=
 bif (decide (n8 > 0)) then
  (OQ (Mk.mk c5 c6) 4).bind fun r9 =>
  chk (params7.length + ([r9.1] : List Int).length ≤ 16777216) <|
  cnt (r9.2.list,r9.2.at_,params7 ++ ([r9.1] : List Int),IntKind.i64.wrap (n8 - 1))
 else
  lft (Pd (fun s=>Tg most3 s.1 s.2.1 s.2.2.1 s.2.2.2.1 s.2.2.2.2) (c5,c6,[],0,params7))
noncomputable def Ta (c1 : Mk) (funcs2 : Int) (most3 : Int) : Option (Pf × Mk) :=
 (OQ c1 funcs2).bind fun r4 =>
 Pd (fun s=>Tf most3 s.1 s.2.1 s.2.2.1 s.2.2.2) (r4.2.list,r4.2.at_,([0] : List Int),r4.1)

noncomputable def QX (x_x3 : OM) (k2 : Int) (x4 : Bool) : Option ((List Int)) :=
 bif x4 then
  some ([] : List Int)
 else
  bif (x_x3.Op == 21) then
   bif (decide (x_x3.B < (IntKind.i64.wrap (k2 + 1)))) then
    some ([x_x3.B,IntKind.i64.wrap (k2 + 1)] : List Int)
   else
    bif (decide (x_x3.B > (IntKind.i64.wrap (k2 + 1)))) then
     some ([IntKind.i64.wrap (k2 + 1),x_x3.B] : List Int)
    else
     some ([IntKind.i64.wrap (k2 + 1)] : List Int)
  else
   some ([IntKind.i64.wrap (k2 + 1)] : List Int)
noncomputable def YV (f1 : OJ) (k2 : Int) : Option ((List Int)) :=
 (ixO f1.Code k2).bind fun x_x3 =>
 bif (x_x3.Op == 20) then
  some ([x_x3.A] : List Int)
 else
  bif (x_x3.Op == 23) then
   QX x_x3 k2 (x_x3.Op == 23)
  else
   QX x_x3 k2 (x_x3.Op == 24)
noncomputable def XH (f1 : OJ) (k2 : Int) : Option ((List Int)) :=
 bif (decide (k2 < 0)) then
  some ([] : List Int)
 else
  bif (decide (k2 ≥ (f1.Code.length : Int))) then
   some ([] : List Int)
  else
   YV f1 k2

noncomputable def Rm (x1 : OM) : Option (Bool) :=
 bif (x1.Op == 16) then
  some true
 else
  some (x1.Op == 17)

noncomputable def QY (x1 : OM) : Option (Int × Bool) :=
 (Rm x1).bind fun r2 =>
 bif r2 then
  some (x1.A,true)
 else
  some (0,false)

noncomputable def RT (s1 : (List Int)) (n2 : Int) (out3 : List Int) (i4 : Int) : Option (((List Int) × Int) ⊕ ((List Int))) :=
 bif (decide (i4 < (s1.length : Int))) then
  (ixO s1 i4).bind fun x_x5 =>
  bif (x_x5 != n2) then
   (ixO s1 i4).bind fun x_x6 =>
   chk (out3.length + ([x_x6] : List Int).length ≤ 16777216) <|
   cnt (out3 ++ ([x_x6] : List Int),IntKind.i64.wrap (i4 + 1))
  else
   cnt (out3,IntKind.i64.wrap (i4 + 1))
 else
  lft (some out3)
noncomputable def Vx (s1 : (List Int)) (n2 : Int) : Option ((List Int)) :=
 Pd (fun s=>RT s1 n2 s.1 s.2) (([] : List Int),0)

noncomputable def TH (x1 : OM) : Option ((List Int)) :=
 bif (x1.Op == 15) then
  some ([x1.B] : List Int)
 else
  bif (x1.Op == 17) then
   some ([x1.B] : List Int)
  else
   some ([] : List Int)

noncomputable def UJ (n1 : Int) : Option (Bool) :=
 bif (decide (n1 ≥ 0)) then
  some (decide (n1 < 512))
 else
  some false

noncomputable def RS (s1 : (List Int)) (i6 : Int) (out7 : List Int) (done8 : Bool) : Option (((List Int) × Bool × Int) ⊕ ((List Int))) :=
 (ixO s1 i6).bind fun x_x12 =>
 chk (out7.length + ([x_x12] : List Int).length ≤ 16777216) <|
 cnt (out7 ++ ([x_x12] : List Int),done8,IntKind.i64.wrap (i6 + 1))
noncomputable def Tc (s1 : (List Int)) (i6 : Int) (n2 : Int) (out4 : List Int) (done5 : Bool) (x9 : Bool) : Option (((List Int) × Bool × Int) ⊕ ((List Int))) :=
 bif x9 then
  (ixO s1 i6).bind fun x_x11 =>
  bif (decide (x_x11 > n2)) then
   chk (out4.length + ([n2] : List Int).length ≤ 16777216) <|
   RS s1 i6 (out4 ++ ([n2] : List Int)) true
  else
   RS s1 i6 out4 true
 else
  RS s1 i6 out4 done5
noncomputable def QP (s1 : (List Int)) (n2 : Int) (out4 : List Int) (done5 : Bool) (i6 : Int) : Option (((List Int) × Bool × Int) ⊕ ((List Int))) :=
 bif (decide (i6 < (s1.length : Int))) then
  bif (!done5) then
   (ixO s1 i6).bind fun x_x10 =>
   Tc s1 i6 n2 out4 done5 (decide (x_x10 ≥ n2))
  else
   Tc s1 i6 n2 out4 done5 false
 else
  lft (
   bif (!done5) then
    chk (out4.length + ([n2] : List Int).length ≤ 16777216) <|
    some (out4 ++ ([n2] : List Int))
   else
    some out4)
noncomputable def Sa (s1 : (List Int)) (n2 : Int) : Option ((List Int)) :=
 (UJ n2).bind fun r3 =>
 Pd (fun s=>QP s1 n2 s.1 s.2.1 s.2.2) (([] : List Int),(!r3),0)

noncomputable def TM (b2 : (List Int)) (out3 : List Int) (i4 : Int) : Option (((List Int) × Int) ⊕ ((List Int))) :=
 bif (decide (i4 < (b2.length : Int))) then
  (ixO b2 i4).bind fun x_x5 =>
  (Sa out3 x_x5).bind fun r6 =>
  cnt (r6,IntKind.i64.wrap (i4 + 1))
 else
  lft (some out3)
noncomputable def SR (a1 : (List Int)) (b2 : (List Int)) : Option ((List Int)) :=
 chk (([] : List Int).length + a1.length ≤ 16777216) <|
 Pd (fun s=>TM b2 s.1 s.2) (([] : List Int) ++ a1,0)

noncomputable def AaF (x1 : OM) (out2 : (List Int)) : Option ((List Int)) :=
 (QY x1).bind fun r3 =>
 bif r3.2 then
  (Vx out2 r3.1).bind fun r4 =>
  (TH x1).bind fun r5 =>
  (SR r4 r5).bind fun r6 =>
  some r6
 else
  (TH x1).bind fun r7 =>
  (SR out2 r7).bind fun r8 =>
  some r8

noncomputable def YX (k4 : Int) (x5 : List (List Int)) : Option (((List (List Int)) × Int) ⊕ (OO)) :=
 cnt (x5,IntKind.i64.wrap (k4 + 1))
noncomputable def Uo (r6 : (List Int)) (k4 : Int) (f1 : OJ) (l2 : OO) (x7 : List (List Int)) (i8 : Int) : Option (((List (List Int)) × Int) ⊕ (((List (List Int)) × Int) ⊕ (OO))) :=
 bif (decide (i8 < (r6.length : Int))) then
  chk (0 ≤ i8 ∧ i8 < r6.length) <|
  ((r6)[i8.toNat]?).bind fun next_e9 =>
  chk (0 ≤ k4 ∧ k4 < x7.length) <|
  ((x7)[k4.toNat]?).bind fun x_e10 =>
  (ixO f1.Code next_e9).bind fun x_x11 =>
  (ixO l2.Out next_e9).bind fun x_x12 =>
  (AaF x_x11 x_x12).bind fun r13 =>
  (SR x_e10 r13).bind fun r14 =>
  chk (0 ≤ k4 ∧ k4 < x7.length) <|
  ((x7)[k4.toNat]?).bind fun _ =>
  cnt (x7.set k4.toNat r14,IntKind.i64.wrap (i8 + 1))
 else
  lft (YX k4 x7)
noncomputable def Un (f1 : OJ) (l2 : OO) (x3 : List (List Int)) (k4 : Int) : Option (((List (List Int)) × Int) ⊕ (OO)) :=
 bif (decide (k4 < (f1.Code.length : Int))) then
  (XH f1 k4).bind fun r6 =>
  Pd (fun s=>Uo r6 k4 f1 l2 s.1 s.2) (x3,0)
 else
  lft (some (OO.mk x3))
noncomputable def ZZ (f1 : OJ) (l2 : OO) : Option (OO) :=
 chk (0 ≤ (f1.Code.length : Int) ∧ (f1.Code.length : Int) ≤ 16777216) <|
 Pd (fun s=>Un f1 l2 s.1 s.2) (List.replicate (f1.Code.length : Int).toNat ([] : (List Int)),0)

noncomputable def Tu (a1 : (List Int)) (b2 : (List Int)) (i3 : Int) : Option ((Int) ⊕ (Bool)) :=
 bif (decide (i3 < (a1.length : Int))) then
  (ixO a1 i3).bind fun x_x4 =>
  (ixO b2 i3).bind fun x_x5 =>
  bif (x_x4 != x_x5) then
   lft (some false)
  else
   cnt (IntKind.i64.wrap (i3 + 1))
 else
  lft (some true)
noncomputable def ZW (a1 : (List Int)) (b2 : (List Int)) : Option (Bool) :=
 bif ((a1.length : Int) != (b2.length : Int)) then
  some false
 else
  Pd (fun s=>Tu a1 b2 s) 0

noncomputable def Rt (a1 : (List (List Int))) (b2 : (List (List Int))) (i3 : Int) : Option ((Int) ⊕ (Bool)) :=
 bif (decide (i3 < (a1.length : Int))) then
  (ixO a1 i3).bind fun x_x4 =>
  (ixO b2 i3).bind fun x_x5 =>
  (ZW x_x4 x_x5).bind fun r6 =>
  bif (!r6) then
   lft (some false)
  else
   cnt (IntKind.i64.wrap (i3 + 1))
 else
  lft (some true)
noncomputable def Wi (a1 : (List (List Int))) (b2 : (List (List Int))) : Option (Bool) :=
 bif ((a1.length : Int) != (b2.length : Int)) then
  some false
 else
  Pd (fun s=>Rt a1 b2 s) 0

noncomputable def ZY (a1 : OO) (b2 : OO) : Option (Bool) :=
 (Wi a1.Out b2.Out).bind fun r3 =>
 some r3

noncomputable def XK (f1 : OJ) (l2 : List (List Int)) : Option (((List (List Int))) ⊕ (OO)) :=
 (ZZ f1 (OO.mk l2)).bind fun r3 =>
 (ZY r3 (OO.mk l2)).bind fun r4 =>
 bif r4 then
  lft (some (OO.mk l2))
 else
  cnt r3.Out
noncomputable def TI (f1 : OJ) : Option (OO) :=
 chk (0 ≤ (f1.Code.length : Int) ∧ (f1.Code.length : Int) ≤ 16777216) <|
 Pd (fun s=>XK f1 s) (List.replicate (f1.Code.length : Int).toNat ([] : (List Int)))

noncomputable def Ua (n8 : Int) (c9 : List Int) (c10 : Int) (x11 : List (List Int)) : Option (((List Int) × Int × (List (List Int)) × Int) ⊕ (OO × Mk)) :=
 cnt (c9,c10,x11,IntKind.i64.wrap (n8 - 1))
noncomputable def TY (r12 : Int × Mk) (n8 : Int) (x13 : List (List Int)) (k14 : Int) : Option (((List (List Int)) × Int) ⊕ (((List Int) × Int × (List (List Int)) × Int) ⊕ (OO × Mk))) :=
 bif (decide (k14 < (x13.length : Int))) then
  chk (0 ≤ k14 ∧ k14 < x13.length) <|
  ((x13)[k14.toNat]?).bind fun x_e15 =>
  (Sa x_e15 r12.1).bind fun r16 =>
  chk (0 ≤ k14 ∧ k14 < x13.length) <|
  ((x13)[k14.toNat]?).bind fun _ =>
  cnt (x13.set k14.toNat r16,IntKind.i64.wrap (k14 + 1))
 else
  lft (Ua n8 r12.2.list r12.2.at_ x13)
noncomputable def TZ (c5 : List Int) (c6 : Int) (f2 : OJ) (n8 : Int) (x7 : List (List Int)) : Option (((List Int) × Int × (List (List Int)) × Int) ⊕ (OO × Mk)) :=
 (OQ (Mk.mk c5 c6) (f2.Slots.length : Int)).bind fun r12 =>
 Pd (fun s=>TY r12 n8 s.1 s.2) (x7,0)
noncomputable def TX (f2 : OJ) (c5 : List Int) (c6 : Int) (x7 : List (List Int)) (n8 : Int) : Option (((List Int) × Int × (List (List Int)) × Int) ⊕ (OO × Mk)) :=
 bif (decide (n8 > 0)) then
  bif (decide ((f2.Slots.length : Int) > 0)) then
   TZ c5 c6 f2 n8 x7
  else
   lft (some ((OO.mk x7),(Mk.mk c5 c6)))
 else
  lft (some ((OO.mk x7),(Mk.mk c5 c6)))
noncomputable def TU (c1 : Mk) (f2 : OJ) : Option (OO × Mk) :=
 (TI f2).bind fun r3 =>
 chk (([] : List (List Int)).length + r3.Out.length ≤ 16777216) <|
 (OQ c1 3).bind fun r4 =>
 Pd (fun s=>TX f2 s.1 s.2.1 s.2.2.1 s.2.2.2) (r4.2.list,r4.2.at_,([] : List (List Int)) ++ r3.Out,r4.1)

noncomputable def Sr (c1 : Mk) : Option (Int × Mk) :=
 (OQ c1 12).bind fun r2 =>
 bif (r2.1 == 11) then
  (OQ r2.2 (([9223372036854775807,(-9223372036854775808),2147483648,2147483647,(-1),16777216,33554432,1048577,512,80] : List Int).length : Int)).bind fun r3 =>
  chk (0 ≤ r3.1 ∧ r3.1 < ([9223372036854775807,(-9223372036854775808),2147483648,2147483647,(-1),16777216,33554432,1048577,512,80] : List Int).length) <|
  ((([9223372036854775807,(-9223372036854775808),2147483648,2147483647,(-1),16777216,33554432,1048577,512,80] : List Int))[r3.1.toNat]?).bind fun l_e4 =>
  some (l_e4,r3.2)
 else
  (OQ r2.2 256).bind fun r5 =>
  (OQ r5.2 7).bind fun r6 =>
  chk (0 ≤ r6.1) <|
  some (IntKind.i64.wrap ((r5.1.fdiv (2 ^ (Nat.min r6.1.toNat IntKind.i64.bits))) - (IntKind.i64.wrap (r2.1.tdiv 9))),r6.2)

noncomputable def QO (n12 : Int) (c13 : List Int) (c14 : Int) (x15 : List (List Int)) : Option (((List Int) × Int × (List (List Int)) × Int) ⊕ (OO × Mk)) :=
 cnt (c13,c14,x15,IntKind.i64.wrap (n12 - 1))
noncomputable def Uy (r16 : Int × Mk) (n12 : Int) (r17 : Int × Mk) (x18 : List (List Int)) (k19 : Int) : Option (((List (List Int)) × Int) ⊕ (((List Int) × Int × (List (List Int)) × Int) ⊕ (OO × Mk))) :=
 bif (decide (k19 < (x18.length : Int))) then
  chk (0 ≤ k19 ∧ k19 < x18.length) <|
  ((x18)[k19.toNat]?).bind fun x_e20 =>
  (Sa x_e20 r16.1).bind fun r21 =>
  chk (0 ≤ k19 ∧ k19 < x18.length) <|
  ((x18)[k19.toNat]?).bind fun _ =>
  cnt (x18.set k19.toNat r21,IntKind.i64.wrap (k19 + 1))
 else
  lft (QO n12 r17.2.list r17.2.at_ x18)
noncomputable def Uz (c9 : List Int) (c10 : Int) (f2 : OJ) (n12 : Int) (x11 : List (List Int)) : Option (((List Int) × Int × (List (List Int)) × Int) ⊕ (OO × Mk)) :=
 (OQ (Mk.mk c9 c10) (f2.Slots.length : Int)).bind fun r16 =>
 (OQ r16.2 2).bind fun r17 =>
 bif (r17.1 == 0) then
  Pd (fun s=>Uy r16 n12 r17 s.1 s.2) (x11,0)
 else
  (OQ r17.2 (x11.length : Int)).bind fun r23 =>
  (OQ r23.2 2).bind fun r24 =>
  bif (r24.1 == 0) then
   chk (0 ≤ r23.1 ∧ r23.1 < x11.length) <|
   ((x11)[r23.1.toNat]?).bind fun x_e25 =>
   (Sa x_e25 r16.1).bind fun r26 =>
   chk (0 ≤ r23.1 ∧ r23.1 < x11.length) <|
   ((x11)[r23.1.toNat]?).bind fun _ =>
   QO n12 r24.2.list r24.2.at_ (x11.set r23.1.toNat r26)
  else
   chk (0 ≤ r23.1 ∧ r23.1 < x11.length) <|
   ((x11)[r23.1.toNat]?).bind fun x_e28 =>
   (Vx x_e28 r16.1).bind fun r29 =>
   chk (0 ≤ r23.1 ∧ r23.1 < x11.length) <|
   ((x11)[r23.1.toNat]?).bind fun _ =>
   QO n12 r24.2.list r24.2.at_ (x11.set r23.1.toNat r29)
noncomputable def Rx (c5 : List Int) (c6 : Int) (x7 : List (List Int)) : Option (OO × Mk) :=
 (OQ (Mk.mk c5 c6) 12).bind fun r31 =>
 bif (r31.1 == 10) then
  chk (0 ≤ (1 : Int) ∧ (1 : Int) ≤ x7.length) <|
  some ((OO.mk (x7.drop ((1 : Int).toNat))),r31.2)
 else
  bif (r31.1 == 11) then
   (Sr r31.2).bind fun r32 =>
   (Sr r32.2).bind fun r33 =>
   chk (0 ≤ (0 : Int) ∧ (0 : Int) < x7.length) <|
   ((x7)[(0 : Int).toNat]?).bind fun _ =>
   some ((OO.mk (x7.set ((0 : Int).toNat) ([r32.1,r33.1] : List Int))),r33.2)
  else
   some ((OO.mk x7),r31.2)
noncomputable def Ux (f2 : OJ) (c9 : List Int) (c10 : Int) (x11 : List (List Int)) (n12 : Int) : Option (((List Int) × Int × (List (List Int)) × Int) ⊕ (OO × Mk)) :=
 bif (decide (n12 > 0)) then
  bif (decide ((f2.Slots.length : Int) > 0)) then
   Uz c9 c10 f2 n12 x11
  else
   lft (Rx c9 c10 x11)
 else
  lft (Rx c9 c10 x11)
noncomputable def Uw (c1 : Mk) (f2 : OJ) : Option (OO × Mk) :=
 (TI f2).bind fun r3 =>
 (OQ c1 3).bind fun r4 =>
 bif (r4.1 == 0) then
  some (r3,r4.2)
 else
  chk (([] : List (List Int)).length + r3.Out.length ≤ 16777216) <|
  (OQ r4.2 4).bind fun r8 =>
  Pd (fun s=>Ux f2 s.1 s.2.1 s.2.2.1 s.2.2.2) (r8.2.list,r8.2.at_,([] : List (List Int)) ++ r3.Out,r8.1)

noncomputable def RG (s1 : (List Int)) (i2 : Int) : Option ((Int) ⊕ (Bool)) :=
 bif (decide (i2 < (s1.length : Int))) then
  (ixO s1 i2).bind fun x_x3 =>
  (UJ x_x3).bind fun r4 =>
  bif (!r4) then
   lft (some false)
  else
   bif (decide (i2 > 0)) then
    (ixO s1 i2).bind fun x_x5 =>
    (ixO s1 (IntKind.i64.wrap (i2 - 1))).bind fun x_x6 =>
    bif (decide (x_x5 ≤ x_x6)) then
     lft (some false)
    else
     cnt (IntKind.i64.wrap (i2 + 1))
   else
    cnt (IntKind.i64.wrap (i2 + 1))
 else
  lft (some true)
noncomputable def Wu (s1 : (List Int)) : Option (Bool) :=
 Pd (fun s=>RG s1 s) 0

noncomputable def XM (l2 : OO) (f1 : OJ) (k3 : Int) : Option ((Int) ⊕ (Bool)) :=
 bif (decide (k3 < (l2.Out.length : Int))) then
  (ixO l2.Out k3).bind fun x_x4 =>
  (Wu x_x4).bind fun r5 =>
  bif (!r5) then
   lft (some false)
  else
   (ixO l2.Out k3).bind fun x_x6 =>
   bif (decide ((x_x6.length : Int) > 0)) then
    (ixO l2.Out k3).bind fun x_x7 =>
    (ixO x_x7 (IntKind.i64.wrap ((x_x6.length : Int) - 1))).bind fun x_x8 =>
    bif (decide (x_x8 ≥ (f1.Slots.length : Int))) then
     lft (some false)
    else
     cnt (IntKind.i64.wrap (k3 + 1))
   else
    cnt (IntKind.i64.wrap (k3 + 1))
 else
  lft (some true)
noncomputable def Wv (f1 : OJ) (l2 : OO) : Option (Bool) :=
 bif ((l2.Out.length : Int) != (f1.Code.length : Int)) then
  some false
 else
  Pd (fun s=>XM l2 f1 s) 0

noncomputable def Vv (s1 : (List Int)) (n2 : Int) (i3 : Int) : Option ((Int) ⊕ (Bool)) :=
 bif (decide (i3 < (s1.length : Int))) then
  (ixO s1 i3).bind fun x_x4 =>
  bif (x_x4 == n2) then
   lft (some true)
  else
   cnt (IntKind.i64.wrap (i3 + 1))
 else
  lft (some false)
noncomputable def Td (s1 : (List Int)) (n2 : Int) : Option (Bool) :=
 Pd (fun s=>Vv s1 n2 s) 0

noncomputable def Sx (a1 : (List Int)) (b2 : (List Int)) (out3 : List Int) (i4 : Int) : Option (((List Int) × Int) ⊕ ((List Int))) :=
 bif (decide (i4 < (a1.length : Int))) then
  (ixO a1 i4).bind fun x_x5 =>
  (Td b2 x_x5).bind fun r6 =>
  bif (!r6) then
   (ixO a1 i4).bind fun x_x7 =>
   chk (out3.length + ([x_x7] : List Int).length ≤ 16777216) <|
   cnt (out3 ++ ([x_x7] : List Int),IntKind.i64.wrap (i4 + 1))
  else
   cnt (out3,IntKind.i64.wrap (i4 + 1))
 else
  lft (some out3)
noncomputable def YC (a1 : (List Int)) (b2 : (List Int)) : Option ((List Int)) :=
 Pd (fun s=>Sx a1 b2 s.1 s.2) (([] : List Int),0)

noncomputable def Sy (r4 : (List Int)) (f1 : OJ) (l2 : OO) (k3 : Int) (out5 : List Int) (i6 : Int) : Option (((List Int) × Int) ⊕ ((List Int))) :=
 bif (decide (i6 < (r4.length : Int))) then
  chk (0 ≤ i6 ∧ i6 < r4.length) <|
  ((r4)[i6.toNat]?).bind fun next_e7 =>
  (ixO f1.Code next_e7).bind fun x_x8 =>
  (ixO l2.Out next_e7).bind fun x_x9 =>
  (AaF x_x8 x_x9).bind fun r10 =>
  (ixO l2.Out k3).bind fun x_x11 =>
  (YC r10 x_x11).bind fun r12 =>
  (SR out5 r12).bind fun r13 =>
  cnt (r13,IntKind.i64.wrap (i6 + 1))
 else
  lft (some out5)
noncomputable def Wl (f1 : OJ) (l2 : OO) (k3 : Int) : Option ((List Int)) :=
 (XH f1 k3).bind fun r4 =>
 Pd (fun s=>Sy r4 f1 l2 k3 s.1 s.2) (([] : List Int),0)

noncomputable def XL (f1 : OJ) (l2 : OO) (k4 : Int) : Option ((Int) ⊕ (Int × Int × Bool)) :=
 bif (decide (k4 < (f1.Code.length : Int))) then
  (Wl f1 l2 k4).bind fun r5 =>
  bif (decide ((r5.length : Int) > 0)) then
   chk (0 ≤ (0 : Int) ∧ (0 : Int) < r5.length) <|
   ((r5)[(0 : Int).toNat]?).bind fun m_e6 =>
   lft (some (k4,m_e6,true))
  else
   cnt (IntKind.i64.wrap (k4 + 1))
 else
  lft (some (0,0,false))
noncomputable def YE (f1 : OJ) (l2 : OO) : Option (Int × Int × Bool) :=
 (Wv f1 l2).bind fun r3 =>
 bif (!r3) then
  some (0,0,false)
 else
  Pd (fun s=>XL f1 l2 s) 0

noncomputable def UU (f1 : OJ) (l2 : OO) : Option (Int) :=
 (YE f1 l2).bind fun r3 =>
 bif r3.2.2 then
  some 11
 else
  (Wv f1 l2).bind fun r4 =>
  bif (!r4) then
   some 11
  else
   some 0

noncomputable def RH (r14 : Int × Bool) (out15 : List (List Int)) (x_x19 : Int) (i16 : Int) (x20 : Bool) (x21 : Bool) (x22 : Bool) (x23 : Bool) : Option (((List (List Int)) × Int) ⊕ (((List (List Int)) × Int) ⊕ ((List (List Int)) × Int))) :=
 chk (0 ≤ r14.1 ∧ r14.1 < out15.length) <|
 ((out15)[r14.1.toNat]?).bind fun out_e24 =>
 (Sa out_e24 x_x19).bind fun r25 =>
 chk (0 ≤ x_x19 ∧ x_x19 < out15.length) <|
 ((out15)[x_x19.toNat]?).bind fun out_e26 =>
 (Sa out_e26 r14.1).bind fun r27 =>
 chk (0 ≤ r14.1 ∧ r14.1 < out15.length) <|
 ((out15)[r14.1.toNat]?).bind fun _ =>
 chk (0 ≤ x_x19 ∧ x_x19 < (out15.set r14.1.toNat r25).length) <|
 ((out15.set r14.1.toNat r25)[x_x19.toNat]?).bind fun _ =>
 cnt ((out15.set r14.1.toNat r25).set x_x19.toNat r27,IntKind.i64.wrap (i16 + 1))
noncomputable def XU (l2 : OO) (k6 : Int) (i16 : Int) (r14 : Int × Bool) (out15 : List (List Int)) (strict3 : Bool) (x_x13 : OM) : Option (((List (List Int)) × Int) ⊕ (((List (List Int)) × Int) ⊕ ((List (List Int)) × Int))) :=
 (ixO l2.Out k6).bind fun x_x18 =>
 (ixO x_x18 i16).bind fun x_x19 =>
 bif (x_x19 == r14.1) then
  cnt (out15,IntKind.i64.wrap (i16 + 1))
 else
  bif (!strict3) then
   bif (x_x13.Op == 17) then
    bif (x_x13.B == x_x19) then
     cnt (out15,IntKind.i64.wrap (i16 + 1))
    else
     RH r14 out15 x_x19 i16 true (x_x13.Op == 17) true (x_x13.B == x_x19)
   else
    RH r14 out15 x_x19 i16 true (x_x13.Op == 17) false false
  else
   RH r14 out15 x_x19 i16 false false false false
noncomputable def Sz (k6 : Int) (x7 : Int) (x8 : Int) (x9 : Int) (x10 : Int) (x11 : Int) (out12 : List (List Int)) : Option (((List (List Int)) × Int) ⊕ ((List (List Int)) × Int)) :=
 cnt (out12,IntKind.i64.wrap (k6 + 1))
noncomputable def Vz (l2 : OO) (k6 : Int) (r14 : Int × Bool) (strict3 : Bool) (x_x13 : OM) (out15 : List (List Int)) (i16 : Int) : Option (((List (List Int)) × Int) ⊕ (((List (List Int)) × Int) ⊕ ((List (List Int)) × Int))) :=
 (ixO l2.Out k6).bind fun x_x17 =>
 bif (decide (i16 < (x_x17.length : Int))) then
  bif r14.2 then
   XU l2 k6 i16 r14 out15 strict3 x_x13
  else
   lft (Sz k6 x_x13.Op x_x13.A x_x13.B x_x13.C x_x13.Imm out15)
 else
  lft (Sz k6 x_x13.Op x_x13.A x_x13.B x_x13.C x_x13.Imm out15)
noncomputable def TO (l2 : OO) (k6 : Int) (r14 : Int × Bool) (strict3 : Bool) (x_x13 : OM) (out5 : List (List Int)) : Option (((List (List Int)) × Int) ⊕ ((List (List Int)) × Int)) :=
 Pd (fun s=>Vz l2 k6 r14 strict3 x_x13 s.1 s.2) (out5,0)
noncomputable def XT (f1 : OJ) (l2 : OO) (strict3 : Bool) (out5 : List (List Int)) (k6 : Int) : Option (((List (List Int)) × Int) ⊕ ((List (List Int)) × Int)) :=
 bif (decide (k6 < (f1.Code.length : Int))) then
  (ixO f1.Code k6).bind fun x_x13 =>
  (QY x_x13).bind fun r14 =>
  bif (x_x13.Op == 17) then
   bif (x_x13.A == x_x13.B) then
    Sz k6 x_x13.Op x_x13.A x_x13.B x_x13.C x_x13.Imm out5
   else
    TO l2 k6 r14 strict3 x_x13 out5
  else
   TO l2 k6 r14 strict3 x_x13 out5
 else
  lft (some (out5,0))
noncomputable def Ww (f1 : OJ) (l2 : OO) (strict3 : Bool) : Option ((List (List Int)) × Int) :=
 (UU f1 l2).bind fun r4 =>
 bif (r4 != 0) then
  some (([] : List (List Int)),r4)
 else
  chk (0 ≤ (f1.Slots.length : Int) ∧ (f1.Slots.length : Int) ≤ 16777216) <|
  Pd (fun s=>XT f1 l2 strict3 s.1 s.2) (List.replicate (f1.Slots.length : Int).toNat ([] : (List Int)),0)

noncomputable def YG (f1 : OJ) (l2 : OO) : Option ((List (List Int)) × Int) :=
 (Ww f1 l2 false).bind fun r3 =>
 some (r3.1,r3.2)

noncomputable def Vy (k3 : Int) (out4 : List PG) : Option (((List PG) × Int) ⊕ ((List PG))) :=
 cnt (out4,IntKind.i64.wrap (k3 + 1))
noncomputable def XS (out2 : List PG) (x_x5 : OM) (k3 : Int) (old7 : Bool) (i8 : Int) : Option ((Bool × Int) ⊕ (((List PG) × Int) ⊕ ((List PG)))) :=
 bif (decide (i8 < (out2.length : Int))) then
  bif old7 then
   cnt (true,IntKind.i64.wrap (i8 + 1))
  else
   chk (0 ≤ i8 ∧ i8 < out2.length) <|
   ((out2)[i8.toNat]?).bind fun out_e9 =>
   cnt (((out_e9.a0 == x_x5.A) && ((out_e9.a1 == x_x5.B) && true)),IntKind.i64.wrap (i8 + 1))
 else
  lft (
   bif (!old7) then
    chk (out2.length + ([(PG.mk x_x5.A x_x5.B)] : List PG).length ≤ 16777216) <|
    Vy k3 (out2 ++ ([(PG.mk x_x5.A x_x5.B)] : List PG))
   else
    Vy k3 out2)
noncomputable def TN (out2 : List PG) (x_x5 : OM) (k3 : Int) (old6 : Bool) : Option (((List PG) × Int) ⊕ ((List PG))) :=
 Pd (fun s=>XS out2 x_x5 k3 s.1 s.2) (old6,0)
noncomputable def XR (f1 : OJ) (out2 : List PG) (k3 : Int) : Option (((List PG) × Int) ⊕ ((List PG))) :=
 bif (decide (k3 < (f1.Code.length : Int))) then
  (ixO f1.Code k3).bind fun x_x5 =>
  bif (x_x5.Op != 17) then
   TN out2 x_x5 k3 true
  else
   TN out2 x_x5 k3 (x_x5.A == x_x5.B)
 else
  lft (some out2)
noncomputable def YH (f1 : OJ) : Option ((List PG)) :=
 Pd (fun s=>XR f1 s.1 s.2) (([] : List PG),0)

noncomputable def VP (to1 : (List Int)) (s2 : Int) (out3 : List Int) (t4 : Int) : Option (((List Int) × Int) ⊕ ((List Int))) :=
 bif (decide (t4 < (to1.length : Int))) then
  (ixO to1 t4).bind fun x_x5 =>
  bif (x_x5 == s2) then
   chk (out3.length + ([t4] : List Int).length ≤ 16777216) <|
   cnt (out3 ++ ([t4] : List Int),IntKind.i64.wrap (t4 + 1))
  else
   cnt (out3,IntKind.i64.wrap (t4 + 1))
 else
  lft (some out3)
noncomputable def Tv (to1 : (List Int)) (s2 : Int) : Option ((List Int)) :=
 Pd (fun s=>VP to1 s2 s.1 s.2) (([] : List Int),0)

noncomputable def XZ (i7 : Int) : Option ((Int) ⊕ (Bool)) :=
 cnt (IntKind.i64.wrap (i7 + 1))
noncomputable def XY (r6 : (List Int)) (i7 : Int) (r5 : (List Int)) (g1 : (List (List Int))) (k8 : Int) : Option ((Int) ⊕ ((Int) ⊕ (Bool))) :=
 bif (decide (k8 < (r6.length : Int))) then
  chk (0 ≤ i7 ∧ i7 < r5.length) <|
  ((r5)[i7.toNat]?).bind fun x_e9 =>
  (ixO g1 x_e9).bind fun x_x10 =>
  chk (0 ≤ k8 ∧ k8 < r6.length) <|
  ((r6)[k8.toNat]?).bind fun y_e11 =>
  (Td x_x10 y_e11).bind fun r12 =>
  bif r12 then
   lft (lft (some false))
  else
   cnt (IntKind.i64.wrap (k8 + 1))
 else
  lft (XZ i7)
noncomputable def XX (r5 : (List Int)) (r6 : (List Int)) (g1 : (List (List Int))) (i7 : Int) : Option ((Int) ⊕ (Bool)) :=
 bif (decide (i7 < (r5.length : Int))) then
  Pd (fun s=>XY r6 i7 r5 g1 s) 0
 else
  lft (some true)
noncomputable def YJ (g1 : (List (List Int))) (to2 : (List Int)) (a3 : Int) (b4 : Int) : Option (Bool) :=
 (Tv to2 a3).bind fun r5 =>
 (Tv to2 b4).bind fun r6 =>
 Pd (fun s=>XX r5 r6 g1 s) 0

noncomputable def SA (s17 : Int) (to16 : List Int) (to_e10 : Int) (to_e12 : Int) (x18 : Bool) : Option (((List Int) × Int) ⊕ (((List Int) × Int) ⊕ ((List Int)))) :=
 bif x18 then
  chk (0 ≤ s17 ∧ s17 < to16.length) <|
  ((to16)[s17.toNat]?).bind fun _ =>
  cnt (to16.set s17.toNat (Sw to_e10 to_e12),IntKind.i64.wrap (s17 + 1))
 else
  cnt (to16,IntKind.i64.wrap (s17 + 1))
noncomputable def QQ (i7 : Int) (to8 : List Int) : Option (((List Int) × Int) ⊕ ((List Int))) :=
 cnt (to8,IntKind.i64.wrap (i7 + 1))
noncomputable def VN (to_e10 : Int) (to_e12 : Int) (i7 : Int) (to16 : List Int) (s17 : Int) : Option (((List Int) × Int) ⊕ (((List Int) × Int) ⊕ ((List Int)))) :=
 bif (decide (s17 < (to16.length : Int))) then
  chk (0 ≤ s17 ∧ s17 < to16.length) <|
  ((to16)[s17.toNat]?).bind fun to_e19 =>
  bif (to_e19 == to_e10) then
   SA s17 to16 to_e10 to_e12 true
  else
   chk (0 ≤ s17 ∧ s17 < to16.length) <|
   ((to16)[s17.toNat]?).bind fun to_e20 =>
   SA s17 to16 to_e10 to_e12 (to_e20 == to_e12)
 else
  lft (QQ i7 to16)
noncomputable def VO (to_e10 : Int) (to_e12 : Int) (i7 : Int) (to6 : List Int) (x13 : Bool) (x14 : Bool) : Option (((List Int) × Int) ⊕ ((List Int))) :=
 Pd (fun s=>VN to_e10 to_e12 i7 s.1 s.2) (to6,0)
noncomputable def VM (r5 : (List PG)) (g2 : (List (List Int))) (to6 : List Int) (i7 : Int) : Option (((List Int) × Int) ⊕ ((List Int))) :=
 bif (decide (i7 < (r5.length : Int))) then
  chk (0 ≤ i7 ∧ i7 < r5.length) <|
  ((r5)[i7.toNat]?).bind fun moves_e9 =>
  chk (0 ≤ moves_e9.a0 ∧ moves_e9.a0 < to6.length) <|
  ((to6)[moves_e9.a0.toNat]?).bind fun to_e10 =>
  chk (0 ≤ i7 ∧ i7 < r5.length) <|
  ((r5)[i7.toNat]?).bind fun moves_e11 =>
  chk (0 ≤ moves_e11.a1 ∧ moves_e11.a1 < to6.length) <|
  ((to6)[moves_e11.a1.toNat]?).bind fun to_e12 =>
  bif (to_e10 == to_e12) then
   QQ i7 to6
  else
   (YJ g2 to6 to_e10 to_e12).bind fun r15 =>
   bif (!r15) then
    QQ i7 to6
   else
    VO to_e10 to_e12 i7 to6 r15 (!r15)
 else
  lft (some to6)
noncomputable def VL (f1 : OJ) (g2 : (List (List Int))) (to3 : List Int) (s4 : Int) : Option (((List Int) × Int) ⊕ ((List Int))) :=
 bif (decide (s4 < (f1.Slots.length : Int))) then
  chk (to3.length + ([s4] : List Int).length ≤ 16777216) <|
  cnt (to3 ++ ([s4] : List Int),IntKind.i64.wrap (s4 + 1))
 else
  lft (
   (YH f1).bind fun r5 =>
   Pd (fun s=>VM r5 g2 s.1 s.2) (to3,0))
noncomputable def Up (f1 : OJ) (g2 : (List (List Int))) : Option ((List Int)) :=
 Pd (fun s=>VL f1 g2 s.1 s.2) (([] : List Int),0)

noncomputable def Aac (f1 : OJ) (l2 : OO) (k3 : Int) : Option (Bool) :=
 (ixO f1.Code k3).bind fun x_x4 =>
 (QY x_x4).bind fun r5 =>
 bif r5.2 then
  (ixO l2.Out k3).bind fun x_x6 =>
  (Td x_x6 r5.1).bind fun r7 =>
  some (!r7)
 else
  some false

noncomputable def YZ (f1 : OJ) (l2 : OO) (to3 : (List Int)) (out4 : List Bool) (k5 : Int) : Option (((List Bool) × Int) ⊕ ((List Bool))) :=
 bif (decide (k5 < (f1.Code.length : Int))) then
  (ixO f1.Code k5).bind fun x_x6 =>
  (Aac f1 l2 k5).bind fun r7 =>
  bif (!r7) then
   bif (x_x6.Op == 17) then
    (ixO to3 x_x6.A).bind fun x_x8 =>
    (ixO to3 x_x6.B).bind fun x_x9 =>
    chk (out4.length + ([(!(x_x8 == x_x9))] : List Bool).length ≤ 16777216) <|
    cnt (out4 ++ ([(!(x_x8 == x_x9))] : List Bool),IntKind.i64.wrap (k5 + 1))
   else
    chk (out4.length + ([true] : List Bool).length ≤ 16777216) <|
    cnt (out4 ++ ([true] : List Bool),IntKind.i64.wrap (k5 + 1))
  else
   chk (out4.length + ([false] : List Bool).length ≤ 16777216) <|
   cnt (out4 ++ ([false] : List Bool),IntKind.i64.wrap (k5 + 1))
 else
  lft (some out4)
noncomputable def Ya (f1 : OJ) (l2 : OO) (to3 : (List Int)) : Option ((List Bool)) :=
 Pd (fun s=>YZ f1 l2 to3 s.1 s.2) (([] : List Bool),0)

noncomputable def XW (to2 : (List Int)) (f1 : OJ) (s6 : Int) : Option ((Int) ⊕ (Bool)) :=
 bif (decide (s6 < (to2.length : Int))) then
  (ixO to2 s6).bind fun x_x7 =>
  (ixO f1.Slots x_x7).bind fun x_x8 =>
  (ixO f1.Slots s6).bind fun x_x9 =>
  bif (x_x8.Size != x_x9.Size) then
   lft (some false)
  else
   (ixO to2 s6).bind fun x_x10 =>
   (ixO to2 x_x10).bind fun x_x11 =>
   (ixO to2 s6).bind fun x_x12 =>
   bif (x_x11 != x_x12) then
    lft (some false)
   else
    cnt (IntKind.i64.wrap (s6 + 1))
 else
  lft (some true)
noncomputable def XV (to2 : (List Int)) (f1 : OJ) (s3 : Int) : Option ((Int) ⊕ (Bool)) :=
 bif (decide (s3 < (to2.length : Int))) then
  (ixO to2 s3).bind fun x_x4 =>
  bif (decide (x_x4 < 0)) then
   lft (some false)
  else
   (ixO to2 s3).bind fun x_x5 =>
   bif (decide (x_x5 ≥ (to2.length : Int))) then
    lft (some false)
   else
    cnt (IntKind.i64.wrap (s3 + 1))
 else
  lft (Pd (fun s=>XW to2 f1 s) 0)
noncomputable def YI (f1 : OJ) (to2 : (List Int)) : Option (Bool) :=
 bif ((to2.length : Int) != (f1.Slots.length : Int)) then
  some false
 else
  Pd (fun s=>XV to2 f1 s) 0

noncomputable def Yf (f1 : OJ) (r2 : OP) (k4 : Int) : Option ((Int) ⊕ (Int)) :=
 bif (decide (k4 < (f1.Code.length : Int))) then
  (ixO r2.Keep k4).bind fun x_x5 =>
  bif (!x_x5) then
   (ixO f1.Code k4).bind fun x_x6 =>
   (Rm x_x6).bind fun r7 =>
   bif (!r7) then
    lft (some 12)
   else
    cnt (IntKind.i64.wrap (k4 + 1))
  else
   cnt (IntKind.i64.wrap (k4 + 1))
 else
  lft (some 0)
noncomputable def Yg (f1 : OJ) (r2 : OP) : Option (Int) :=
 Pd (fun s=>Yf f1 r2 s) 0
noncomputable def UX (f1 : OJ) (r2 : OP) : Option (Int) :=
 (YI f1 r2.To).bind fun r3 =>
 bif (!r3) then
  some 12
 else
  bif ((r2.Keep.length : Int) != (f1.Code.length : Int)) then
   some 12
  else
   Yg f1 r2

noncomputable def Sb (s1 : Int) (to2 : (List Int)) : Option (Int) :=
 bif (decide (s1 < 0)) then
  some s1
 else
  bif (decide (s1 ≥ (to2.length : Int))) then
   some s1
  else
   (ixO to2 s1).bind fun x_x3 =>
   some x_x3

noncomputable def Um (x1 : OM) (to2 : (List Int)) : Option (OM) :=
 bif (x1.Op == 15) then
  (Sb x1.B to2).bind fun r3 =>
  some (OM.mk x1.Op x1.A r3 x1.C x1.Imm)
 else
  bif (x1.Op == 16) then
   (Sb x1.A to2).bind fun r4 =>
   some (OM.mk x1.Op r4 x1.B x1.C x1.Imm)
  else
   bif (x1.Op == 17) then
    (Sb x1.A to2).bind fun r5 =>
    (Sb x1.B to2).bind fun r6 =>
    some (OM.mk x1.Op r5 r6 x1.C x1.Imm)
   else
    some x1

noncomputable def Zd (r2 : OP) (k4 : Int) (out3 : List Int) (f1 : OJ) : Option (((List Int) × Int) ⊕ ((List Int))) :=
 (ixO r2.Keep k4).bind fun x_x5 =>
 bif (!x_x5) then
  cnt (out3,IntKind.i64.wrap (k4 + 1))
 else
  (ixO f1.Code k4).bind fun x_x6 =>
  (Um x_x6 r2.To).bind fun r7 =>
  (TH r7).bind fun r8 =>
  (SR out3 r8).bind fun r9 =>
  (QY r7).bind fun r10 =>
  bif r10.2 then
   (Sa r9 r10.1).bind fun r11 =>
   cnt (r11,IntKind.i64.wrap (k4 + 1))
  else
   cnt (r9,IntKind.i64.wrap (k4 + 1))
noncomputable def Zc (f1 : OJ) (r2 : OP) (out3 : List Int) (k4 : Int) : Option (((List Int) × Int) ⊕ ((List Int))) :=
 bif (decide (k4 < (f1.Code.length : Int))) then
  bif (decide (k4 < (r2.Keep.length : Int))) then
   Zd r2 k4 out3 f1
  else
   lft (some out3)
 else
  lft (some out3)
noncomputable def Aad (f1 : OJ) (r2 : OP) : Option ((List Int)) :=
 Pd (fun s=>Zc f1 r2 s.1 s.2) (([] : List Int),0)

noncomputable def VU (s4 : Int) (out5 : List Int) : Option (((List Int) × Int) ⊕ ((List Int))) :=
 cnt (out5,IntKind.i64.wrap (s4 + 1))
noncomputable def VT (used2 : (List Int)) (r1 : OP) (s4 : Int) (out3 : List Int) (n6 : Int) (i7 : Int) : Option ((Int × Int) ⊕ (((List Int) × Int) ⊕ ((List Int)))) :=
 bif (decide (i7 < (used2.length : Int))) then
  (ixO used2 i7).bind fun x_x8 =>
  (ixO r1.To s4).bind fun x_x9 =>
  bif (x_x8 == x_x9) then
   cnt (i7,IntKind.i64.wrap (i7 + 1))
  else
   cnt (n6,IntKind.i64.wrap (i7 + 1))
 else
  lft (
   chk (out3.length + ([n6] : List Int).length ≤ 16777216) <|
   VU s4 (out3 ++ ([n6] : List Int)))
noncomputable def VS (r1 : OP) (used2 : (List Int)) (out3 : List Int) (s4 : Int) : Option (((List Int) × Int) ⊕ ((List Int))) :=
 bif (decide (s4 < (r1.To.length : Int))) then
  Pd (fun s=>VT used2 r1 s4 out3 s.1 s.2) (0,0)
 else
  lft (some out3)
noncomputable def Wm (r1 : OP) (used2 : (List Int)) : Option ((List Int)) :=
 Pd (fun s=>VS r1 used2 s.1 s.2) (([] : List Int),0)

noncomputable def WT (r1 : OP) (out2 : List Int) (n3 : Int) (k4 : Int) : Option (((List Int) × Int × Int) ⊕ ((List Int))) :=
 bif (decide (k4 < (r1.Keep.length : Int))) then
  chk (out2.length + ([n3] : List Int).length ≤ 16777216) <|
  (ixO r1.Keep k4).bind fun x_x5 =>
  bif x_x5 then
   cnt (out2 ++ ([n3] : List Int),IntKind.i64.wrap (n3 + 1),IntKind.i64.wrap (k4 + 1))
  else
   cnt (out2 ++ ([n3] : List Int),n3,IntKind.i64.wrap (k4 + 1))
 else
  lft (some out2)
noncomputable def Xn (r1 : OP) : Option ((List Int)) :=
 Pd (fun s=>WT r1 s.1 s.2.1 s.2.2) (([] : List Int),0,0)

noncomputable def Ye (i6 : Int) (slots7 : List Pb) : Option (((List Pb) × Int) ⊕ (OJ × Int)) :=
 cnt (slots7,IntKind.i64.wrap (i6 + 1))
noncomputable def VA (r11 : (List Int)) (f1 : OJ) (out5 : List Pb) (x_x9 : Pb) (i6 : Int) (s12 : Int) (k13 : Int) : Option ((Int × Int) ⊕ (((List Pb) × Int) ⊕ (OJ × Int))) :=
 bif (decide (k13 < (r11.length : Int))) then
  chk (0 ≤ k13 ∧ k13 < r11.length) <|
  ((r11)[k13.toNat]?).bind fun l_e14 =>
  (ixO f1.Slots l_e14).bind fun x_x15 =>
  cnt (Aay s12 x_x15.Align,IntKind.i64.wrap (k13 + 1))
 else
  lft (
   chk (([] : List Pb).length + out5.length ≤ 16777216) <|
   chk ((([] : List Pb) ++ out5).length + ([(Pb.mk x_x9.Size s12)] : List Pb).length ≤ 16777216) <|
   Ye i6 ((([] : List Pb) ++ out5) ++ ([(Pb.mk x_x9.Size s12)] : List Pb)))
noncomputable def SB (out18 : List OM) (r22 : OM) (k19 : Int) (x23 : Int) (x24 : Int) : Option (((List OM) × Int) ⊕ (OJ × Int)) :=
 chk (([] : List OM).length + out18.length ≤ 16777216) <|
 chk ((([] : List OM) ++ out18).length + ([(OM.mk r22.Op x23 x24 r22.C r22.Imm)] : List OM).length ≤ 16777216) <|
 cnt ((([] : List OM) ++ out18) ++ ([(OM.mk r22.Op x23 x24 r22.C r22.Imm)] : List OM),IntKind.i64.wrap (k19 + 1))
noncomputable def VB (f1 : OJ) (r2 : OP) (r16 : (List Int)) (r17 : (List Int)) (out5 : List Pb) (out18 : List OM) (k19 : Int) : Option (((List OM) × Int) ⊕ (OJ × Int)) :=
 bif (decide (k19 < (f1.Code.length : Int))) then
  (ixO r2.Keep k19).bind fun x_x20 =>
  bif (!x_x20) then
   cnt (out18,IntKind.i64.wrap (k19 + 1))
  else
   (ixO f1.Code k19).bind fun x_x21 =>
   (Um x_x21 r16).bind fun r22 =>
   bif (r22.Op == 20) then
    chk (0 ≤ r22.A ∧ r22.A < r17.length) <|
    ((r17)[r22.A.toNat]?).bind fun places_e25 =>
    SB out18 r22 k19 places_e25 r22.B
   else
    bif (r22.Op == 21) then
     chk (0 ≤ r22.B ∧ r22.B < r17.length) <|
     ((r17)[r22.B.toNat]?).bind fun places_e26 =>
     SB out18 r22 k19 r22.A places_e26
    else
     SB out18 r22 k19 r22.A r22.B
 else
  lft (some ((OJ.mk f1.Params out5 out18),0))
noncomputable def Yd (r4 : (List Int)) (f1 : OJ) (r2 : OP) (out5 : List Pb) (i6 : Int) : Option (((List Pb) × Int) ⊕ (OJ × Int)) :=
 bif (decide (i6 < (r4.length : Int))) then
  chk (0 ≤ i6 ∧ i6 < r4.length) <|
  ((r4)[i6.toNat]?).bind fun used_e8 =>
  (ixO f1.Slots used_e8).bind fun x_x9 =>
  chk (0 ≤ i6 ∧ i6 < r4.length) <|
  ((r4)[i6.toNat]?).bind fun used_e10 =>
  (Tv r2.To used_e10).bind fun r11 =>
  Pd (fun s=>VA r11 f1 out5 x_x9 i6 s.1 s.2) (x_x9.Align,0)
 else
  lft (
   (Wm r2 r4).bind fun r16 =>
   (Xn r2).bind fun r17 =>
   Pd (fun s=>VB f1 r2 r16 r17 out5 s.1 s.2) ([],0))
noncomputable def UW (f1 : OJ) (r2 : OP) : Option (OJ × Int) :=
 (UX f1 r2).bind fun r3 =>
 bif (r3 != 0) then
  some ((OJ.mk 0 ([]) ([])),r3)
 else
  (Aad f1 r2).bind fun r4 =>
  Pd (fun s=>Yd r4 f1 r2 s.1 s.2) ([],0)

noncomputable def Aaa (f1 : OJ) (l2 : OO) : Option ((List (List Int)) × Int) :=
 (Ww f1 l2 true).bind fun r3 =>
 some (r3.1,r3.2)

noncomputable def Zg (x_x3 : OJ) (p1 : Pf) (n4 : Int) (k5 : Int) : Option ((Int × Int) ⊕ (Int)) :=
 bif (decide (k5 < (x_x3.Code.length : Int))) then
  (ixO x_x3.Code k5).bind fun x_x6 =>
  bif (x_x6.Op == 18) then
   (ixO x_x3.Code k5).bind fun x_x7 =>
   cnt (Aay n4 (IntKind.i64.wrap (x_x7.A + 1)),IntKind.i64.wrap (k5 + 1))
  else
   bif (x_x6.Op == 22) then
    (ixO x_x3.Code k5).bind fun x_x8 =>
    (ixO p1.Funcs x_x8.A).bind fun x_x9 =>
    cnt (Aay n4 x_x9.Params,IntKind.i64.wrap (k5 + 1))
   else
    cnt (n4,IntKind.i64.wrap (k5 + 1))
 else
  lft (some (IntKind.i64.wrap (n4 * 16)))
noncomputable def Yk (p1 : Pf) (i2 : Int) : Option (Int) :=
 (ixO p1.Funcs i2).bind fun x_x3 =>
 Pd (fun s=>Zg x_x3 p1 s.1 s.2) (0,0)

noncomputable def ZP (n1 : Int) : Option (Bool) :=
 bif (n1 == 1) then
  some true
 else
  bif (n1 == 2) then
   some true
  else
   bif (n1 == 4) then
    some true
   else
    bif (n1 == 8) then
     some true
    else
     some (n1 == 16)

noncomputable def XB (n1 : Int) (k2 : Int) : Option ((Int) ⊕ (Bool)) :=
 bif (decide (k2 ≤ 16777216)) then
  bif (n1 == k2) then
   lft (some true)
  else
   cnt (IntKind.i64.wrap (k2 * 2))
 else
  lft (some false)
noncomputable def US (n1 : Int) : Option (Bool) :=
 Pd (fun s=>XB n1 s) 1

noncomputable def XC (s1 : (List Pb)) (i2 : Int) : Option ((Int) ⊕ (Int)) :=
 bif (decide (i2 < (s1.length : Int))) then
  (ixO s1 i2).bind fun x_x3 =>
  (ZP x_x3.Size).bind fun r4 =>
  bif (!r4) then
   lft (some 5)
  else
   (ixO s1 i2).bind fun x_x5 =>
   (US x_x5.Align).bind fun r6 =>
   bif (!r6) then
    lft (some 5)
   else
    cnt (IntKind.i64.wrap (i2 + 1))
 else
  lft (some 0)
noncomputable def Wq (s1 : (List Pb)) : Option (Int) :=
 bif (decide ((s1.length : Int) > 512)) then
  some 3
 else
  Pd (fun s=>XC s1 s) 0

noncomputable def XP (x3 : Int) (x4 : (List Int)) (x5 : List Int) (x6 : Bool) : Option ((Int) ⊕ (Bool)) :=
 cnt (IntKind.i64.wrap (x3 + 1))
noncomputable def XO (g1 : (List (List Int))) (x3 : Int) (n2 : Int) (x7 : (List Int)) (x8 : List Int) (x9 : Bool) (i14 : Int) : Option ((Int) ⊕ ((Int) ⊕ (Bool))) :=
 (ixO g1 x3).bind fun x_x15 =>
 bif (decide (i14 < (x_x15.length : Int))) then
  (ixO g1 x3).bind fun x_x16 =>
  (ixO x_x16 i14).bind fun x_x17 =>
  bif (decide (x_x17 ≥ n2)) then
   lft (lft (some false))
  else
   (ixO g1 x_x17).bind fun x_x18 =>
   (Td x_x18 x3).bind fun r19 =>
   bif (!r19) then
    lft (lft (some false))
   else
    cnt (IntKind.i64.wrap (i14 + 1))
 else
  lft (XP x3 x7 x8 x9)
noncomputable def XQ (g1 : (List (List Int))) (x3 : Int) (n2 : Int) (x7 : (List Int)) (x8 : List Int) (x9 : Bool) : Option ((Int) ⊕ (Bool)) :=
 Pd (fun s=>XO g1 x3 n2 x7 x8 x9 s) 0
noncomputable def XN (n2 : Int) (g1 : (List (List Int))) (x3 : Int) : Option ((Int) ⊕ (Bool)) :=
 bif (decide (x3 < n2)) then
  (ixO g1 x3).bind fun x_x10 =>
  (Wu x_x10).bind fun r11 =>
  bif (!r11) then
   lft (some false)
  else
   (ixO g1 x3).bind fun x_x12 =>
   (Td x_x12 x3).bind fun r13 =>
   bif r13 then
    lft (some false)
   else
    XQ g1 x3 n2 x_x12 x_x12 r13
 else
  lft (some true)
noncomputable def YF (g1 : (List (List Int))) (n2 : Int) : Option (Bool) :=
 bif ((g1.length : Int) != n2) then
  some false
 else
  Pd (fun s=>XN n2 g1 s) 0

noncomputable def RM (n1 : Int) : Option (Bool) :=
 bif (decide (n1 ≥ 0)) then
  some (decide (n1 ≤ 2147483647))
 else
  some false

noncomputable def Xp (a1 : Pb) (b2 : Pb) : Option (Bool) :=
 bif (decide (a1.Align > b2.Align)) then
  some true
 else
  bif (a1.Align == b2.Align) then
   some (decide (a1.Size > b2.Size))
  else
   some false

noncomputable def Yj (i3 : Int) (out4 : List Int) : Option (((List Int) × Int) ⊕ ((List Int))) :=
 cnt (out4,IntKind.i64.wrap (i3 + 1))
noncomputable def TQ (out2 : List Int) (i3 : Int) (k5 : Int) : Option (((List Int) × Int) ⊕ ((List Int))) :=
 chk (0 ≤ k5 ∧ k5 ≤ out2.length) <|
 chk (([] : List Int).length + (out2.take k5.toNat).length ≤ 16777216) <|
 chk ((([] : List Int) ++ (out2.take k5.toNat)).length + ([i3] : List Int).length ≤ 16777216) <|
 chk (0 ≤ k5 ∧ k5 ≤ out2.length) <|
 chk (((([] : List Int) ++ (out2.take k5.toNat)) ++ ([i3] : List Int)).length + (out2.drop k5.toNat).length ≤ 16777216) <|
 Yj i3 (((([] : List Int) ++ (out2.take k5.toNat)) ++ ([i3] : List Int)) ++ (out2.drop k5.toNat))
noncomputable def Yi (s1 : (List Pb)) (i3 : Int) (out2 : List Int) (k6 : Int) : Option ((Int) ⊕ (((List Int) × Int) ⊕ ((List Int)))) :=
 bif (decide (k6 > 0)) then
  (ixO s1 i3).bind fun x_x7 =>
  chk (0 ≤ (IntKind.i64.wrap (k6 - 1)) ∧ (IntKind.i64.wrap (k6 - 1)) < out2.length) <|
  ((out2)[(IntKind.i64.wrap (k6 - 1)).toNat]?).bind fun out_e8 =>
  (ixO s1 out_e8).bind fun x_x9 =>
  (Xp x_x7 x_x9).bind fun r10 =>
  bif r10 then
   cnt (IntKind.i64.wrap (k6 - 1))
  else
   lft (TQ out2 i3 k6)
 else
  lft (TQ out2 i3 k6)
noncomputable def Yh (s1 : (List Pb)) (out2 : List Int) (i3 : Int) : Option (((List Int) × Int) ⊕ ((List Int))) :=
 bif (decide (i3 < (s1.length : Int))) then
  Pd (fun s=>Yi s1 i3 out2 s) (out2.length : Int)
 else
  lft (some out2)
noncomputable def YL (s1 : (List Pb)) : Option ((List Int)) :=
 Pd (fun s=>Yh s1 s.1 s.2) (([] : List Int),0)

noncomputable def SQ (a1 : Pc) : Option (Bool) :=
 (RM a1.Off).bind fun r2 =>
 bif r2 then
  (RM a1.Size).bind fun r3 =>
  bif r3 then
   some (decide ((IntKind.i64.wrap (a1.Off + a1.Size)) ≤ 2147483647))
  else
   some false
 else
  some false

noncomputable def Ws (m5 : Int) : Option (Int × Int) :=
 bif (decide (m5 > 2147483647)) then
  some (0,9)
 else
  some (m5,0)
noncomputable def AaL (align2 : Int) (n1 : Int) : Option (Int × Int) :=
 chk (align2 ≠ 0) <|
 bif ((n1.tmod align2) != 0) then
  chk (align2 ≠ 0) <|
  Ws (IntKind.i64.wrap ((IntKind.i64.wrap (n1 - (n1.tmod align2))) + align2))
 else
  Ws n1
noncomputable def AaD (n1 : Int) (align2 : Int) : Option (Int × Int) :=
 (RM n1).bind fun r3 =>
 bif (!r3) then
  some (0,4)
 else
  (US align2).bind fun r4 =>
  bif (!r4) then
   some (0,4)
  else
   AaL align2 n1

noncomputable def Wh (a1 : Pc) (b2 : Pc) : Option (Bool) :=
 (SQ a1).bind fun r3 =>
 bif r3 then
  (SQ b2).bind fun r4 =>
  bif r4 then
   bif (decide (a1.Size > 0)) then
    bif (decide (b2.Size > 0)) then
     bif (decide (a1.Off < (IntKind.i64.wrap (b2.Off + b2.Size)))) then
      some (decide (b2.Off < (IntKind.i64.wrap (a1.Off + a1.Size))))
     else
      some false
    else
     some false
   else
    some false
  else
   some false
 else
  some false

noncomputable def YU (used1 : (List Pc)) (x2 : Pc) (i3 : Int) : Option ((Int) ⊕ (Bool)) :=
 bif (decide (i3 < (used1.length : Int))) then
  (ixO used1 i3).bind fun x_x4 =>
  (Wh x_x4 x2).bind fun r5 =>
  bif r5 then
   lft (some false)
  else
   cnt (IntKind.i64.wrap (i3 + 1))
 else
  lft (some true)
noncomputable def ZV (used1 : (List Pc)) (x2 : Pc) : Option (Bool) :=
 Pd (fun s=>YU used1 x2 s) 0

noncomputable def Vu (align4 : Int) (size3 : Int) (used1 : (List Pc)) (found12 : Bool) (i13 : Int) (best11 : Int) (at14 : Int) : Option ((Int × Bool × Int) ⊕ (Int × Int)) :=
 (AaD at14 align4).bind fun r17 =>
 bif (r17.2 == 0) then
  (SQ (Pc.mk r17.1 size3)).bind fun r18 =>
  bif r18 then
   (ZV used1 (Pc.mk r17.1 size3)).bind fun r19 =>
   bif r19 then
    bif (!found12) then
     cnt (r17.1,true,IntKind.i64.wrap (i13 + 1))
    else
     bif (decide (r17.1 < best11)) then
      cnt (r17.1,true,IntKind.i64.wrap (i13 + 1))
     else
      cnt (best11,found12,IntKind.i64.wrap (i13 + 1))
   else
    cnt (best11,found12,IntKind.i64.wrap (i13 + 1))
  else
   cnt (best11,found12,IntKind.i64.wrap (i13 + 1))
 else
  cnt (best11,found12,IntKind.i64.wrap (i13 + 1))
noncomputable def ZR (used1 : (List Pc)) (align4 : Int) (size3 : Int) (from2 : Int) (best11 : Int) (found12 : Bool) (i13 : Int) : Option ((Int × Bool × Int) ⊕ (Int × Int)) :=
 bif (decide (i13 < (used1.length : Int))) then
  bif (decide (i13 ≥ 0)) then
   (ixO used1 i13).bind fun x_x15 =>
   (ixO used1 i13).bind fun x_x16 =>
   Vu align4 size3 used1 found12 i13 best11 (Aay from2 (IntKind.i64.wrap (x_x15.Off + x_x16.Size)))
  else
   Vu align4 size3 used1 found12 i13 best11 from2
 else
  lft (
   bif (!found12) then
    some (0,9)
   else
    some (best11,0))
noncomputable def ZQ (used1 : (List Pc)) (align4 : Int) (size3 : Int) (from2 : Int) (i8 : Int) : Option ((Int) ⊕ (Int × Int)) :=
 bif (decide (i8 < (used1.length : Int))) then
  (ixO used1 i8).bind fun x_x9 =>
  (SQ x_x9).bind fun r10 =>
  bif (!r10) then
   lft (some (0,4))
  else
   cnt (IntKind.i64.wrap (i8 + 1))
 else
  lft (Pd (fun s=>ZR used1 align4 size3 from2 s.1 s.2.1 s.2.2) (0,false,(-1)))
noncomputable def ZS (used1 : (List Pc)) (align4 : Int) (size3 : Int) (from2 : Int) : Option (Int × Int) :=
 Pd (fun s=>ZQ used1 align4 size3 from2 s) 0
noncomputable def AaZ (used1 : (List Pc)) (from2 : Int) (size3 : Int) (align4 : Int) : Option (Int × Int) :=
 (RM from2).bind fun r5 =>
 bif (!r5) then
  some (0,4)
 else
  (RM size3).bind fun r6 =>
  bif (!r6) then
   some (0,4)
  else
   (US align4).bind fun r7 =>
   bif (!r7) then
    some (0,4)
   else
    ZS used1 align4 size3 from2

noncomputable def Ts (y15 : Int) (off9 : List Int) (s1 : (List Pb)) (used14 : List Pc) (x16 : Bool) : Option (((List Pc) × Int) ⊕ (((List Bool) × (List Int) × Int) ⊕ ((List Int) × Int))) :=
 bif x16 then
  chk (0 ≤ y15 ∧ y15 < off9.length) <|
  ((off9)[y15.toNat]?).bind fun off_e20 =>
  (ixO s1 y15).bind fun x_x21 =>
  chk (used14.length + ([(Pc.mk off_e20 x_x21.Size)] : List Pc).length ≤ 16777216) <|
  cnt (used14 ++ ([(Pc.mk off_e20 x_x21.Size)] : List Pc),IntKind.i64.wrap (y15 + 1))
 else
  cnt (used14,IntKind.i64.wrap (y15 + 1))
noncomputable def WY (i10 : Int) (done11 : List Bool) (off12 : List Int) : Option (((List Bool) × (List Int) × Int) ⊕ ((List Int) × Int)) :=
 cnt (done11,off12,IntKind.i64.wrap (i10 + 1))
noncomputable def WV (s1 : (List Pb)) (done8 : List Bool) (g2 : (List (List Int))) (order_e13 : Int) (off9 : List Int) (from3 : Int) (i10 : Int) (used14 : List Pc) (y15 : Int) : Option (((List Pc) × Int) ⊕ (((List Bool) × (List Int) × Int) ⊕ ((List Int) × Int))) :=
 bif (decide (y15 < (s1.length : Int))) then
  chk (0 ≤ y15 ∧ y15 < done8.length) <|
  ((done8)[y15.toNat]?).bind fun done_e17 =>
  bif done_e17 then
   (ixO g2 order_e13).bind fun x_x18 =>
   (Td x_x18 y15).bind fun r19 =>
   Ts y15 off9 s1 used14 r19
  else
   Ts y15 off9 s1 used14 false
 else
  lft (
   (ixO s1 order_e13).bind fun x_x22 =>
   (ixO s1 order_e13).bind fun x_x23 =>
   (AaZ used14 from3 x_x22.Size x_x23.Align).bind fun r24 =>
   bif (r24.2 != 0) then
    lft (some (([] : List Int),r24.2))
   else
    chk (0 ≤ order_e13 ∧ order_e13 < off9.length) <|
    ((off9)[order_e13.toNat]?).bind fun _ =>
    chk (0 ≤ order_e13 ∧ order_e13 < done8.length) <|
    ((done8)[order_e13.toNat]?).bind fun _ =>
    WY i10 (done8.set order_e13.toNat true) (off9.set order_e13.toNat r24.1))
noncomputable def WU (r7 : (List Int)) (s1 : (List Pb)) (g2 : (List (List Int))) (from3 : Int) (done8 : List Bool) (off9 : List Int) (i10 : Int) : Option (((List Bool) × (List Int) × Int) ⊕ ((List Int) × Int)) :=
 bif (decide (i10 < (r7.length : Int))) then
  chk (0 ≤ i10 ∧ i10 < r7.length) <|
  ((r7)[i10.toNat]?).bind fun order_e13 =>
  Pd (fun s=>WV s1 done8 g2 order_e13 off9 from3 i10 s.1 s.2) (([] : List Pc),0)
 else
  lft (some (off9,0))
noncomputable def WX (s1 : (List Pb)) (g2 : (List (List Int))) (from3 : Int) : Option ((List Int) × Int) :=
 chk (0 ≤ (s1.length : Int) ∧ (s1.length : Int) ≤ 16777216) <|
 chk (0 ≤ (s1.length : Int) ∧ (s1.length : Int) ≤ 16777216) <|
 (YL s1).bind fun r7 =>
 Pd (fun s=>WU r7 s1 g2 from3 s.1 s.2.1 s.2.2) (List.replicate (s1.length : Int).toNat false,List.replicate (s1.length : Int).toNat (0 : Int),0)
noncomputable def Xo (s1 : (List Pb)) (g2 : (List (List Int))) (from3 : Int) : Option ((List Int) × Int) :=
 (Wq s1).bind fun r4 =>
 bif (r4 != 0) then
  some (([] : List Int),r4)
 else
  (YF g2 (s1.length : Int)).bind fun r5 =>
  bif (!r5) then
   some (([] : List Int),4)
  else
   (RM from3).bind fun r6 =>
   bif (!r6) then
    some (([] : List Int),4)
   else
    WX s1 g2 from3

noncomputable def Zb (p1 : Pf) (i2 : Int) (f3 : OJ) : Option (Pf) :=
 chk (([] : List OJ).length + p1.Funcs.length ≤ 16777216) <|
 chk (0 ≤ i2 ∧ i2 < (([] : List OJ) ++ p1.Funcs).length) <|
 ((([] : List OJ) ++ p1.Funcs)[i2.toNat]?).bind fun _ =>
 some (Pf.mk ((([] : List OJ) ++ p1.Funcs).set i2.toNat f3))

noncomputable def Abs (p1 : Pf) (i2 : Int) (f3 : OJ) : Option (Pf) :=
 (Zb p1 i2 f3).bind fun r4 =>
 some r4

noncomputable def Xz (s1 : (List Pb)) (a3 : Int) (i4 : Int) : Option ((Int × Int) ⊕ (Int)) :=
 bif (decide (i4 < (s1.length : Int))) then
  (ixO s1 i4).bind fun x_x5 =>
  cnt (Aay a3 x_x5.Align,IntKind.i64.wrap (i4 + 1))
 else
  lft (some a3)
noncomputable def YB (s1 : (List Pb)) : Option (Int) :=
 (Wq s1).bind fun r2 =>
 bif (r2 != 0) then
  some 16
 else
  Pd (fun s=>Xz s1 s.1 s.2) (16,0)

noncomputable def XG (p1 : Pf) (a2 : Int) (i3 : Int) : Option ((Int × Int) ⊕ (Int)) :=
 bif (decide (i3 < (p1.Funcs.length : Int))) then
  (ixO p1.Funcs i3).bind fun x_x4 =>
  (YB x_x4.Slots).bind fun r5 =>
  cnt (Aay a2 r5,IntKind.i64.wrap (i3 + 1))
 else
  lft (some a2)
noncomputable def YD (p1 : Pf) : Option (Int) :=
 Pd (fun s=>XG p1 s.1 s.2) (16,0)

noncomputable def Aaf (off2 : (List Int)) (i4 : Int) (s1 : (List Pb)) (n3 : Int) : Option ((Int × Int) ⊕ (Int)) :=
 (ixO off2 i4).bind fun x_x5 =>
 (ixO s1 i4).bind fun x_x6 =>
 cnt (Aay n3 (IntKind.i64.wrap (x_x5 + x_x6.Size)),IntKind.i64.wrap (i4 + 1))
noncomputable def Aae (s1 : (List Pb)) (off2 : (List Int)) (n3 : Int) (i4 : Int) : Option ((Int × Int) ⊕ (Int)) :=
 bif (decide (i4 < (s1.length : Int))) then
  bif (decide (i4 < (off2.length : Int))) then
   Aaf off2 i4 s1 n3
  else
   lft (some n3)
 else
  lft (some n3)
noncomputable def Abb (s1 : (List Pb)) (off2 : (List Int)) : Option (Int) :=
 Pd (fun s=>Aae s1 off2 s.1 s.2) (0,0)

noncomputable def WZ (x_x5 : OJ) (off4 : (List Int)) (p1 : Pf) (i2 : Int) (align3 : Int) (k6 : Int) : Option ((Int) ⊕ (QI × Int)) :=
 bif (decide (k6 < (x_x5.Slots.length : Int))) then
  (ixO off4 k6).bind fun x_x7 =>
  (ixO x_x5.Slots k6).bind fun x_x8 =>
  (SQ (Pc.mk x_x7 x_x8.Size)).bind fun r9 =>
  bif (!r9) then
   lft (some ((QI.mk 0 0 ([])),13))
  else
   cnt (IntKind.i64.wrap (k6 + 1))
 else
  lft (
   (Yk p1 i2).bind fun r10 =>
   (Abb x_x5.Slots off4).bind fun r11 =>
   (AaD (Aay r10 r11) align3).bind fun r12 =>
   bif (r12.2 != 0) then
    some ((QI.mk 0 0 ([])),9)
   else
    bif (decide (r12.1 > 2147483519)) then
     some ((QI.mk 0 0 ([])),9)
    else
     chk (([] : List Int).length + off4.length ≤ 16777216) <|
     some ((QI.mk r10 r12.1 (([] : List Int) ++ off4)),0))
noncomputable def Xq (p1 : Pf) (i2 : Int) (align3 : Int) (off4 : (List Int)) : Option (QI × Int) :=
 (ixO p1.Funcs i2).bind fun x_x5 =>
 bif ((off4.length : Int) != (x_x5.Slots.length : Int)) then
  some ((QI.mk 0 0 ([])),13)
 else
  Pd (fun s=>WZ x_x5 off4 p1 i2 align3 s) 0

noncomputable def Wn (p1 : Pf) (i2 : Int) : Option (SU) :=
 (ixO p1.Funcs i2).bind fun x_x3 =>
 (TI x_x3).bind fun r4 =>
 (YG x_x3 r4).bind fun r5 =>
 (Up x_x3 r5.1).bind fun r6 =>
 (Ya x_x3 r4 r6).bind fun r7 =>
 (UW x_x3 (OP.mk r6 r7)).bind fun r8 =>
 (TI r8.1).bind fun r9 =>
 (Aaa r8.1 r9).bind fun r10 =>
 (Yk p1 i2).bind fun r11 =>
 (Xo r8.1.Slots r10.1 r11).bind fun r12 =>
 bif (r12.2 != 0) then
  some (SU.mk r4 (OP.mk r6 r7) r9 (QI.mk 0 0 ([])))
 else
  (Abs p1 i2 r8.1).bind fun r13 =>
  (YD p1).bind fun r14 =>
  (Xq r13 i2 r14 r12.1).bind fun r15 =>
  some (SU.mk r4 (OP.mk r6 r7) r9 r15.1)

noncomputable def Py (n22 : Int) (c23 : List Int) (c24 : Int) (x25 : List Int) (x26 : List Bool) : Option (((List Int) × Int × (List Int) × (List Bool) × Int) ⊕ (OP × Mk)) :=
 cnt (c23,c24,x25,x26,IntKind.i64.wrap (n22 - 1))
noncomputable def Qp (r27 : Int × Mk) (x21 : List Bool) (n22 : Int) (x20 : List Int) (c31 : List Int) (c32 : Int) (x33 : Bool) : Option (((List Int) × Int × (List Int) × (List Bool) × Int) ⊕ (OP × Mk)) :=
 bif x33 then
  chk (0 ≤ r27.1 ∧ r27.1 < x21.length) <|
  ((x21)[r27.1.toNat]?).bind fun x_e35 =>
  chk (0 ≤ r27.1 ∧ r27.1 < x21.length) <|
  ((x21)[r27.1.toNat]?).bind fun _ =>
  Py n22 c31 c32 x20 (x21.set r27.1.toNat (!x_e35))
 else
  Py n22 c31 c32 x20 x21
noncomputable def TF (r37 : Int × Mk) (x_e39 : Int) (n22 : Int) (r38 : Int × Mk) (x21 : List Bool) (x40 : List Int) (u41 : Int) : Option (((List Int) × Int) ⊕ (((List Int) × Int × (List Int) × (List Bool) × Int) ⊕ (OP × Mk))) :=
 bif (decide (u41 < (x40.length : Int))) then
  chk (0 ≤ u41 ∧ u41 < x40.length) <|
  ((x40)[u41.toNat]?).bind fun x_e42 =>
  bif (x_e42 == r37.1) then
   chk (0 ≤ u41 ∧ u41 < x40.length) <|
   ((x40)[u41.toNat]?).bind fun _ =>
   cnt (x40.set u41.toNat x_e39,IntKind.i64.wrap (u41 + 1))
  else
   cnt (x40,IntKind.i64.wrap (u41 + 1))
 else
  lft (Py n22 r38.2.list r38.2.at_ x40 x21)
noncomputable def Re (x_x4 : OJ) (x20 : List Int) (n22 : Int) (x21 : List Bool) (c44 : List Int) (c45 : Int) (x46 : Bool) : Option (((List Int) × Int × (List Int) × (List Bool) × Int) ⊕ (OP × Mk)) :=
 bif x46 then
  (OQ (Mk.mk c44 c45) (x_x4.Slots.length : Int)).bind fun r48 =>
  (Sr r48.2).bind fun r49 =>
  chk (0 ≤ r48.1 ∧ r48.1 < x20.length) <|
  ((x20)[r48.1.toNat]?).bind fun _ =>
  Py n22 r49.2.list r49.2.at_ (x20.set r48.1.toNat r49.1) x21
 else
  Py n22 c44 c45 x20 x21
noncomputable def Rc (x_x4 : OJ) (r27 : Int × Mk) (x21 : List Bool) (n22 : Int) (x20 : List Int) (r28 : Int × Mk) (x29 : Bool) : Option (((List Int) × Int × (List Int) × (List Bool) × Int) ⊕ (OP × Mk)) :=
 bif x29 then
  (ixO x_x4.Code r27.1).bind fun x_x30 =>
  bif (x_x30.Op == 16) then
   Qp r27 x21 n22 x20 r28.2.list r28.2.at_ true
  else
   bif (x_x30.Op == 17) then
    Qp r27 x21 n22 x20 r28.2.list r28.2.at_ true
   else
    (OQ r28.2 8).bind fun r34 =>
    Qp r27 x21 n22 x20 r34.2.list r34.2.at_ (r34.1 == 7)
 else
  bif (r28.1 == 2) then
   bif (decide ((x_x4.Slots.length : Int) > 0)) then
    (OQ r28.2 (x_x4.Slots.length : Int)).bind fun r37 =>
    (Tk r37.2 x_x4 r37.1).bind fun r38 =>
    chk (0 ≤ r38.1 ∧ r38.1 < x20.length) <|
    ((x20)[r38.1.toNat]?).bind fun x_e39 =>
    Pd (fun s=>TF r37 x_e39 n22 r38 x21 s.1 s.2) (x20,0)
   else
    Py n22 r28.2.list r28.2.at_ x20 x21
  else
   bif (r28.1 == 3) then
    bif (decide ((x_x4.Slots.length : Int) > 0)) then
     (OQ r28.2 4).bind fun r47 =>
     Re x_x4 x20 n22 x21 r47.2.list r47.2.at_ (r47.1 == 3)
    else
     Re x_x4 x20 n22 x21 r28.2.list r28.2.at_ false
   else
    Py n22 r28.2.list r28.2.at_ x20 x21
noncomputable def TE (x_x4 : OJ) (c18 : List Int) (c19 : Int) (x20 : List Int) (x21 : List Bool) (n22 : Int) : Option (((List Int) × Int × (List Int) × (List Bool) × Int) ⊕ (OP × Mk)) :=
 bif (decide (n22 > 0)) then
  (OQ (Mk.mk c18 c19) (x_x4.Code.length : Int)).bind fun r27 =>
  (OQ r27.2 4).bind fun r28 =>
  bif (r28.1 == 0) then
   Rc x_x4 r27 x21 n22 x20 r28 (r28.1 == 0)
  else
   Rc x_x4 r27 x21 n22 x20 r28 (r28.1 == 1)
 else
  lft (some ((OP.mk x20 x21),(Mk.mk c18 c19)))
noncomputable def Rb (x_x4 : OJ) (c6 : List Int) (c7 : Int) (x8 : List Int) (x9 : List Bool) : Option (OP × Mk) :=
 (OQ (Mk.mk c6 c7) 4).bind fun r17 =>
 Pd (fun s=>TE x_x4 s.1 s.2.1 s.2.2.1 s.2.2.2.1 s.2.2.2.2) (r17.2.list,r17.2.at_,x8,x9,r17.1)
noncomputable def TD (x_x4 : OJ) (r10 : Int × Mk) (x11 : List Int) (x14 : List Bool) (k15 : Int) : Option (((List Bool) × Int) ⊕ (OP × Mk)) :=
 bif (decide (k15 < (x14.length : Int))) then
  chk (0 ≤ k15 ∧ k15 < x14.length) <|
  ((x14)[k15.toNat]?).bind fun _ =>
  cnt (x14.set k15.toNat true,IntKind.i64.wrap (k15 + 1))
 else
  lft (Rb x_x4 r10.2.list r10.2.at_ x11 x14)
noncomputable def TC (x_x4 : OJ) (r10 : Int × Mk) (r5 : SU) (x11 : List Int) (s12 : Int) : Option (((List Int) × Int) ⊕ (OP × Mk)) :=
 bif (decide (s12 < (x11.length : Int))) then
  chk (0 ≤ s12 ∧ s12 < x11.length) <|
  ((x11)[s12.toNat]?).bind fun _ =>
  cnt (x11.set s12.toNat s12,IntKind.i64.wrap (s12 + 1))
 else
  lft (Pd (fun s=>TD x_x4 r10 x11 s.1 s.2) (([] : List Bool) ++ r5.Rename.Keep,0))
noncomputable def Tw (c1 : Mk) (p2 : Pf) (i3 : Int) : Option (OP × Mk) :=
 (ixO p2.Funcs i3).bind fun x_x4 =>
 (Wn p2 i3).bind fun r5 =>
 chk (([] : List Int).length + r5.Rename.To.length ≤ 16777216) <|
 chk (([] : List Bool).length + r5.Rename.Keep.length ≤ 16777216) <|
 (OQ c1 3).bind fun r10 =>
 bif (r10.1 == 0) then
  Pd (fun s=>TC x_x4 r10 r5 s.1 s.2) (([] : List Int) ++ r5.Rename.To,0)
 else
  Rb x_x4 r10.2.list r10.2.at_ (([] : List Int) ++ r5.Rename.To) (([] : List Bool) ++ r5.Rename.Keep)

noncomputable def TL (r3 : Pf × Mk) (r4 : Int × Mk) (l7 : List (List Int)) (x8 : List Int) (x9 : Int) : Option (Pf × Int × OO × OP × Mk) :=
 (Tw (Mk.mk x8 x9) r3.1 r4.1).bind fun r13 =>
 some (r3.1,r4.1,(OO.mk l7),r13.1,r13.2)
noncomputable def YA (codes1 : (List Int)) : Option (Pf × Int × OO × OP × Mk) :=
 (AbG codes1 350).bind fun r2 =>
 (Ta r2 3 14).bind fun r3 =>
 (OQ r3.2 (r3.1.Funcs.length : Int)).bind fun r4 =>
 (ixO r3.1.Funcs r4.1).bind fun x_x5 =>
 (TU r4.2 x_x5).bind fun r6 =>
 (OQ r6.2 4).bind fun r10 =>
 bif (r10.1 == 3) then
  (ixO r3.1.Funcs r4.1).bind fun x_x11 =>
  (Uw r10.2 x_x11).bind fun r12 =>
  TL r3 r4 r12.1.Out r12.2.list r12.2.at_
 else
  TL r3 r4 r6.1.Out r10.2.list r10.2.at_

noncomputable def Vp (l2 : OO) (k4 : Int) (r6 : Int × Bool) (r3 : OP) (i12 : Int) : Option ((Int) ⊕ (Int × Bool)) :=
 (ixO l2.Out k4).bind fun x_x13 =>
 bif (decide (i12 < (x_x13.length : Int))) then
  (ixO l2.Out k4).bind fun x_x14 =>
  (ixO x_x14 i12).bind fun x_x15 =>
  bif (x_x15 != r6.1) then
   (ixO r3.To x_x15).bind fun x_x16 =>
   (ixO r3.To r6.1).bind fun x_x17 =>
   bif (x_x16 == x_x17) then
    lft (some (x_x15,true))
   else
    cnt (IntKind.i64.wrap (i12 + 1))
  else
   cnt (IntKind.i64.wrap (i12 + 1))
 else
  lft (some (0,false))
noncomputable def RY (r3 : OP) (k4 : Int) (l2 : OO) (r6 : Int × Bool) : Option (Int × Bool) :=
 (ixO r3.Keep k4).bind fun x_x9 =>
 bif (!x_x9) then
  (ixO l2.Out k4).bind fun x_x10 =>
  (Td x_x10 r6.1).bind fun r11 =>
  bif r11 then
   some (r6.1,true)
  else
   some (0,false)
 else
  Pd (fun s=>Vp l2 k4 r6 r3 s) 0
noncomputable def VC (f1 : OJ) (l2 : OO) (r3 : OP) (k4 : Int) : Option (Int × Bool) :=
 (ixO f1.Code k4).bind fun x_x5 =>
 (QY x_x5).bind fun r6 =>
 bif (!r6.2) then
  some (0,false)
 else
  bif (x_x5.Op == 17) then
   (ixO r3.To x_x5.A).bind fun x_x7 =>
   (ixO r3.To x_x5.B).bind fun x_x8 =>
   bif (x_x7 == x_x8) then
    some (0,false)
   else
    RY r3 k4 l2 r6
  else
   RY r3 k4 l2 r6

noncomputable def Vn (f1 : OJ) (l2 : OO) (r3 : OP) (k6 : Int) : Option ((Int) ⊕ (Int × Int × Bool)) :=
 bif (decide (k6 < (f1.Code.length : Int))) then
  (VC f1 l2 r3 k6).bind fun r7 =>
  bif r7.2 then
   lft (some (k6,r7.1,true))
  else
   cnt (IntKind.i64.wrap (k6 + 1))
 else
  lft (some (0,0,false))
noncomputable def Vo (f1 : OJ) (l2 : OO) (r3 : OP) : Option (Int × Int × Bool) :=
 Pd (fun s=>Vn f1 l2 r3 s) 0
noncomputable def TP (f1 : OJ) (l2 : OO) (r3 : OP) : Option (Int × Int × Bool) :=
 (UU f1 l2).bind fun r4 =>
 bif (r4 != 0) then
  some (0,0,false)
 else
  (UX f1 r3).bind fun r5 =>
  bif (r5 != 0) then
   some (0,0,false)
  else
   Vo f1 l2 r3

noncomputable def YK (f1 : OJ) (l2 : OO) (r3 : OP) : Option (Int) :=
 (UU f1 l2).bind fun r4 =>
 bif (r4 != 0) then
  some r4
 else
  (TP f1 l2 r3).bind fun r5 =>
  bif r5.2.2 then
   some 12
  else
   (UX f1 r3).bind fun r6 =>
   bif (r6 != 0) then
    some 12
   else
    some 0

noncomputable def SO (r6 : Pf × Int × OO × OP × Mk) (raw3 : OP) (x_x7 : OJ) (x_e9 : OO) (x8 : Int) (x10 : Int) : Option ((Int) ⊕ ((Int) ⊕ (Bool))) :=
 bif (decide (x10 < (([r6.2.2.2.1,raw3] : List OP).length : Int))) then
  chk (0 ≤ x10 ∧ x10 < ([r6.2.2.2.1,raw3] : List OP).length) <|
  ((([r6.2.2.2.1,raw3] : List OP))[x10.toNat]?).bind fun x_e11 =>
  (QB x_x7 x_e9 x_e11).bind fun r12 =>
  (TP x_x7 x_e9 x_e11).bind fun r13 =>
  (SC x_x7 x_e9 x_e11).bind fun r14 =>
  (YK x_x7 x_e9 x_e11).bind fun r15 =>
  bif (r14 != r15) then
   lft (lft (some false))
  else
   bif (r12.1 != r13.1) then
    lft (lft (some false))
   else
    bif (r12.2.1 != r13.2.1) then
     lft (lft (some false))
    else
     bif (!(r12.2.2 == r13.2.2)) then
      lft (lft (some false))
     else
      cnt (IntKind.i64.wrap (x10 + 1))
 else
  lft (cnt (IntKind.i64.wrap (x8 + 1)))
noncomputable def SN (r6 : Pf × Int × OO × OP × Mk) (live2 : OO) (raw3 : OP) (x_x7 : OJ) (x8 : Int) : Option ((Int) ⊕ (Bool)) :=
 bif (decide (x8 < (([r6.2.2.1,live2] : List OO).length : Int))) then
  chk (0 ≤ x8 ∧ x8 < ([r6.2.2.1,live2] : List OO).length) <|
  ((([r6.2.2.1,live2] : List OO))[x8.toNat]?).bind fun x_e9 =>
  Pd (fun s=>SO r6 raw3 x_x7 x_e9 x8 s) 0
 else
  lft (some true)
noncomputable def SP (codes1 : (List Int)) (live2 : OO) (raw3 : OP) : Option (Bool) :=
 (YA codes1).bind fun r6 =>
 (ixO r6.1.Funcs r6.2.1).bind fun x_x7 =>
 Pd (fun s=>SN r6 live2 raw3 x_x7 s) 0
noncomputable def PS (live2 : OO) (raw3 : OP) (codes1 : (List Int)) (x4 : Bool) : Option (Bool) :=
 bif x4 then
  bif (decide ((live2.Out.length : Int) > 100)) then
   some true
  else
   bif (decide ((raw3.To.length : Int) > 600)) then
    some true
   else
    some (decide ((raw3.Keep.length : Int) > 600))
 else
  SP codes1 live2 raw3
noncomputable def Sq (codes1 : (List Int)) (live2 : OO) (raw3 : OP) : Option (Bool) :=
 (Yz).bind fun r5 =>
 bif (!r5) then
  PS live2 raw3 codes1 true
 else
  bif (decide ((live2.Out.length : Int) > 100)) then
   PS live2 raw3 codes1 true
  else
   bif (decide ((raw3.To.length : Int) > 600)) then
    PS live2 raw3 codes1 true
   else
    PS live2 raw3 codes1 (decide ((raw3.Keep.length : Int) > 600))

end Go.Proofs.YtpagjjmondojpaaGreatDoor
