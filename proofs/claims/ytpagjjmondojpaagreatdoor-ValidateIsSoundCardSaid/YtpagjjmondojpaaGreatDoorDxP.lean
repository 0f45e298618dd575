/-
 The programs on typed data; written by a program (dx.py).
-/
import Derived.Test.YtpagjjmondojpaaGreatDoorDxT
namespace Go.Proofs.YtpagjjmondojpaaGreatDoor
open Go Go.Dw Go.Proofs
open Go.IntKind (i64 u64 u8)
set_option maxRecDepth 100000
set_option maxHeartbeats 40000000
noncomputable section
def Qi (n1 : Int) : Option (Bool) :=
 bif (decide (n1 >= 0)) then
 some (decide (n1 < 512))
 else
 some false

def QX (s1 : (List Int)) (x2 : Int) : Option ((Int) ⊕ (Bool)) :=
 bif (decide (x2 < (s1.length : Int))) then
 (ixO s1 x2).bind λx_x3 =>
 (Qi x_x3).bind λr4 =>
 bif (!r4) then
 lft (some false)
 else
 bif (decide (x2 > 0)) then
 (ixO s1 (i64.wrap (x2 - 1))).bind λx_x5 =>
 bif (decide (x_x3 <= x_x5)) then
 lft (some false)
 else
 cnt (i64.wrap (x2 + 1))
 else
 cnt (i64.wrap (x2 + 1))
 else
 lft (some true)
def Yi (s1 : (List Int)) : Option (Bool) :=
 NY (λs=>QX s1 s) 0

def Ru (s1 : (List Int)) (cap2 : Nz) : Option (Bool) :=
 (Yi s1).bind λr3 =>
 bif (!r3) then
 some true
 else
 bif (decide ((s1.length : Int) > 0)) then
 (ixO s1 (i64.wrap ((s1.length : Int) - 1))).bind λx_x4 =>
 some (decide (x_x4 >= (cap2.Slots.length : Int)))
 else
 some false

def PF (s1 : (List (List Int))) (f2 : Nz) (x3 : Int) : Option ((Int) ⊕ (Int)) :=
 bif (decide (x3 < (s1.length : Int))) then
 (ixO s1 x3).bind λx_x4 =>
 (Ru x_x4 f2).bind λr5 =>
 bif r5 then
 lft (some x3)
 else
 cnt (i64.wrap (x3 + 1))
 else
 lft (some (-1))
def Ps (s1 : (List (List Int))) (f2 : Nz) : Option (Int) :=
 NY (λs=>PF s1 f2 s) 0

def PE (s1 : (List (List Int))) (f2 : Nz) : Option (Bool) :=
 (Ps s1 f2).bind λr3 =>
 some (decide (r3 >= 0))

def Sn (f1 : Nz) (l2 : NQ) : Option (Bool) :=
 bif ((l2.Out.length : Int) == (f1.Code.length : Int)) then
 (PE l2.Out f1).bind λr3 =>
 some (!r3)
 else
 some false

def YJ (l1 : NQ) : Option (NQ) :=
 some l1

def ZB (op1 : Int) : Option (Bool) :=
 bif (op1 == 20) then
 some true
 else
 bif (op1 == 23) then
 some true
 else
 some (op1 == 24)

def Yn (x_x3 : NC) (l4 : List Int) : Option ((List Int)) :=
 bif (x_x3.Op == 20) then
 chk (l4.length + ([x_x3.A] : List Int).length <= 16777216) <|
 chk ((l4 ++ ([x_x3.A] : List Int)).length < 4611686018427387904) <|
 chk ((XZ (l4 ++ ([x_x3.A] : List Int))).length < 4611686018427387904) <|
 some (Lib.compact (XZ (l4 ++ ([x_x3.A] : List Int))))
 else
 bif (x_x3.Op == 21) then
 chk (l4.length + ([x_x3.B] : List Int).length <= 16777216) <|
 chk ((l4 ++ ([x_x3.B] : List Int)).length < 4611686018427387904) <|
 chk ((XZ (l4 ++ ([x_x3.B] : List Int))).length < 4611686018427387904) <|
 some (Lib.compact (XZ (l4 ++ ([x_x3.B] : List Int))))
 else
 chk (l4.length < 4611686018427387904) <|
 chk ((XZ l4).length < 4611686018427387904) <|
 some (Lib.compact (XZ l4))
def Abk (f1 : Nz) (k2 : Int) : Option ((List Int)) :=
 (ixO f1.Code k2).bind λx_x3 =>
 (ZB x_x3.Op).bind λr5 =>
 bif (!r5) then
 chk (([] : List Int).length + ([i64.wrap (k2 + 1)] : List Int).length <= 16777216) <|
 Yn x_x3 (([] : List Int) ++ ([i64.wrap (k2 + 1)] : List Int))
 else
 Yn x_x3 ([] : List Int)
def AcK (f1 : Nz) (k2 : Int) : Option ((List Int)) :=
 bif (decide (k2 < 0)) then
 some ([] : List Int)
 else
 bif (decide (k2 >= (f1.Code.length : Int))) then
 some ([] : List Int)
 else
 Abk f1 k2

def Um (j1 : Int) (cap2 : NQ) : Option ((List Int)) :=
 (ixO cap2.Out j1).bind λx_x3 =>
 some x_x3

def Sm (x1 : NC) : Option (Int × Bool) :=
 bif (x1.Op == 16) then
 bif (x1.Op == 16) then
 some (x1.A,true)
 else
 some (0,false)
 else
 bif (x1.Op == 17) then
 some (x1.A,true)
 else
 some (0,false)

def Rm (s1 : ND) (n2 : Int) (in3 : Bool) : Option (ND) :=
 chk (0 <= ((u64.wrap (n2)).tmod 64)) <|
 (Qi n2).bind λr4 =>
 bif (!r4) then
 some s1
 else
 bif in3 then
 chk (0 <= (i64.wrap (n2.tdiv 64)) /\ (i64.wrap (n2.tdiv 64)) < 8) <|
 ((s1.toList)[(i64.wrap (n2.tdiv 64)).toNat]?).bind λs_e5 =>
 chk (0 <= (i64.wrap (n2.tdiv 64)) /\ (i64.wrap (n2.tdiv 64)) < 8) <|
 ((s1.toList)[(i64.wrap (n2.tdiv 64)).toNat]?).bind λ_ =>
 some (s1.set ((i64.wrap (n2.tdiv 64)).toNat) (u64.wrap ((BitVec.ofInt u64.bits s_e5 ||| BitVec.ofInt u64.bits (u64.wrap (1 * 2 ^ (Nat.min ((u64.wrap (n2)).tmod 64).toNat u64.bits)))).toNat)))
 else
 chk (0 <= (i64.wrap (n2.tdiv 64)) /\ (i64.wrap (n2.tdiv 64)) < 8) <|
 ((s1.toList)[(i64.wrap (n2.tdiv 64)).toNat]?).bind λs_e7 =>
 chk (0 <= (i64.wrap (n2.tdiv 64)) /\ (i64.wrap (n2.tdiv 64)) < 8) <|
 ((s1.toList)[(i64.wrap (n2.tdiv 64)).toNat]?).bind λ_ =>
 some (s1.set ((i64.wrap (n2.tdiv 64)).toNat) (u64.wrap ((BitVec.ofInt u64.bits s_e7 &&& ~~~ BitVec.ofInt u64.bits (u64.wrap (1 * 2 ^ (Nat.min ((u64.wrap (n2)).tmod 64).toNat u64.bits)))).toNat)))

def Wy (l1 : (List Int)) (x2 : ND) (x3 : Int) : Option ((ND × Int) ⊕ (ND)) :=
 bif (decide (x3 < (l1.length : Int))) then
 (ixO l1 x3).bind λx_x4 =>
 (Rm x2 x_x4 true).bind λr5 =>
 cnt (r5,i64.wrap (x3 + 1))
 else
 lft (some x2)
def Qy (l1 : (List Int)) : Option (ND) :=
 NY (λs=>Wy l1 s.1 s.2) ((ND.mk 0 0 0 0 0 0 0 0),0)

def Sw (x3 : Int) (l5 : List Int) (x6 : Int) : Option (((List Int) × Int) ⊕ (((List Int) × Int) ⊕ ((List Int) × ND))) :=
 bif (x6 != 0) then
 (Agc x6).bind λr7 =>
 chk (l5.length + ([i64.wrap ((i64.wrap (64 * x3)) + r7)] : List Int).length <= 16777216) <|
 cnt (l5 ++ ([i64.wrap ((i64.wrap (64 * x3)) + r7)] : List Int),u64.wrap ((BitVec.ofInt u64.bits x6 &&& BitVec.ofInt u64.bits (u64.wrap (x6 - 1))).toNat))
 else
 lft (cnt (l5,i64.wrap (x3 + 1)))
def Sv (s1 : ND) (l2 : List Int) (x3 : Int) : Option (((List Int) × Int) ⊕ ((List Int) × ND)) :=
 bif (decide (x3 < 8)) then
 chk (0 <= x3 /\ x3 < 8) <|
 ((s1.toList)[x3.toNat]?).bind λs_e4 =>
 NY (λs=>Sw x3 s.1 s.2) (l2,s_e4)
 else
 lft (some (l2,s1))
def PH (s1 : ND) : Option ((List Int) × ND) :=
 NY (λs=>Sv s1 s.1 s.2) (([] : List Int),0)

def Ut (s1 : (List Int)) (n2 : Int) : Option ((List Int)) :=
 (Qy s1).bind λr3 =>
 (Rm r3 n2 false).bind λr4 =>
 (PH r4).bind λr5 =>
 some r5.1

def Xr (x1 : NC) : Option ((List Int)) :=
 bif (x1.Op == 15) then
 bif (x1.Op == 15) then
 some ([x1.B] : List Int)
 else
 some ([] : List Int)
 else
 bif (x1.Op == 17) then
 some ([x1.B] : List Int)
 else
 some ([] : List Int)

def Yj (l1 : (List Int)) : Option ((List Int)) :=
 (Qy l1).bind λr2 =>
 (PH r2).bind λr3 =>
 some r3.1

def VV (x1 : Int) (y2 : Int) : Option (Int) :=
 some (u64.wrap ((BitVec.ofInt u64.bits x1 ||| BitVec.ofInt u64.bits y2).toNat))

def Py (s1 : ND) (t2 : ND) (x3 : ND) (x4 : Int) : Option ((ND × Int) ⊕ (ND × ND × ND)) :=
 bif (decide (x4 < 8)) then
 chk (0 <= x4 /\ x4 < 8) <|
 ((s1.toList)[x4.toNat]?).bind λs_e5 =>
 chk (0 <= x4 /\ x4 < 8) <|
 ((t2.toList)[x4.toNat]?).bind λt_e6 =>
 (VV s_e5 t_e6).bind λr7 =>
 chk (0 <= x4 /\ x4 < 8) <|
 ((x3.toList)[x4.toNat]?).bind λ_ =>
 cnt ((x3.set x4.toNat r7),i64.wrap (x4 + 1))
 else
 lft (some (x3,s1,t2))
def PT (s1 : ND) (t2 : ND) : Option (ND × ND × ND) :=
 NY (λs=>Py s1 t2 s.1 s.2) ((ND.mk 0 0 0 0 0 0 0 0),0)

def SQ (a1 : (List Int)) (b2 : (List Int)) : Option ((List Int)) :=
 (Qy a1).bind λr3 =>
 (Qy b2).bind λr4 =>
 (PT r3 r4).bind λr5 =>
 (PH r5.1).bind λr6 =>
 some r6.1

def AcI (x1 : NC) (out2 : (List Int)) : Option ((List Int)) :=
 (Sm x1).bind λr3 =>
 bif r3.2 then
 (Ut out2 r3.1).bind λr4 =>
 (Xr x1).bind λr5 =>
 (Yj r5).bind λr6 =>
 (SQ r4 r6).bind λr7 =>
 some r7
 else
 (Xr x1).bind λr8 =>
 (Yj r8).bind λr9 =>
 (SQ out2 r9).bind λr10 =>
 some r10

def VU (x1 : Int) (y2 : Int) : Option (Int) :=
 some (u64.wrap ((BitVec.ofInt u64.bits x1 &&& ~~~ BitVec.ofInt u64.bits y2).toNat))

def Px (s1 : ND) (t2 : ND) (x3 : ND) (x4 : Int) : Option ((ND × Int) ⊕ (ND × ND × ND)) :=
 bif (decide (x4 < 8)) then
 chk (0 <= x4 /\ x4 < 8) <|
 ((s1.toList)[x4.toNat]?).bind λs_e5 =>
 chk (0 <= x4 /\ x4 < 8) <|
 ((t2.toList)[x4.toNat]?).bind λt_e6 =>
 (VU s_e5 t_e6).bind λr7 =>
 chk (0 <= x4 /\ x4 < 8) <|
 ((x3.toList)[x4.toNat]?).bind λ_ =>
 cnt ((x3.set x4.toNat r7),i64.wrap (x4 + 1))
 else
 lft (some (x3,s1,t2))
def PS (s1 : ND) (t2 : ND) : Option (ND × ND × ND) :=
 NY (λs=>Px s1 t2 s.1 s.2) ((ND.mk 0 0 0 0 0 0 0 0),0)

def VT (a1 : (List Int)) (b2 : (List Int)) : Option ((List Int)) :=
 (Qy a1).bind λr3 =>
 (Qy b2).bind λr4 =>
 (PS r3 r4).bind λr5 =>
 (PH r5.1).bind λr6 =>
 some r6.1

def RA (need1 : (List Int)) (cap2 : (List Int)) (cap3 : NQ) (cap4 : Int) : Option (Bool × (List Int)) :=
 (ixO cap3.Out cap4).bind λx_x5 =>
 (VT need1 x_x5).bind λr6 =>
 (SQ cap2 r6).bind λr7 =>
 some (true,r7)

def OU (r7 : (List Int)) (f1 : Nz) (set3 : NQ) (visit5 : NQ) (visit6 : Int) (x8 : List Int) (x9 : Int) : Option (((List Int) × Int) ⊕ (Bool × (List Int))) :=
 bif (decide (x9 < (r7.length : Int))) then
 chk (0 <= x9 /\ x9 < r7.length) <|
 ((r7)[x9.toNat]?).bind λx_e10 =>
 (ixO f1.Code x_e10).bind λx_x11 =>
 (Um x_e10 set3).bind λr12 =>
 (AcI x_x11 r12).bind λr13 =>
 (RA r13 x8 visit5 visit6).bind λr14 =>
 bif (!r14.1) then
 lft (some (false,r14.2))
 else
 cnt (r14.2,i64.wrap (x9 + 1))
 else
 lft (some (true,x8))
def Pr (f1 : Nz) (k2 : Int) (set3 : NQ) (visit4 : (List Int)) (visit5 : NQ) (visit6 : Int) : Option (Bool × (List Int)) :=
 (AcK f1 k2).bind λr7 =>
 NY (λs=>OU r7 f1 set3 visit5 visit6 s.1 s.2) (visit4,0)

def UU (f1 : Nz) (l2 : NQ) (x4 : Int) : Option ((Int) ⊕ (Int × Int × Bool)) :=
 bif (decide (x4 < (f1.Code.length : Int))) then
 (YJ l2).bind λr5 =>
 (Pr f1 x4 r5 ([]) l2 x4).bind λr6 =>
 bif (decide ((r6.2.length : Int) > 0)) then
 (ixO r6.2 0).bind λx_x7 =>
 lft (some (x4,x_x7,true))
 else
 cnt (i64.wrap (x4 + 1))
 else
 lft (some (0,0,false))
def UT (f1 : Nz) (l2 : NQ) : Option (Int × Int × Bool) :=
 (Sn f1 l2).bind λr3 =>
 bif (!r3) then
 some (0,0,false)
 else
 NY (λs=>UU f1 l2 s) 0

def Th (f1 : Nz) (l2 : NQ) : Option (Int) :=
 (Sn f1 l2).bind λr3 =>
 bif (!r3) then
 some 11
 else
 (UT f1 l2).bind λr4 =>
 bif r4.2.2 then
 some 11
 else
 some 0

def VA (to2 : (List Int)) (f1 : Nz) (x3 : Int) : Option ((Int) ⊕ (Bool)) :=
 bif (decide (x3 < (to2.length : Int))) then
 (ixO to2 x3).bind λx_x4 =>
 bif (decide (x_x4 < 0)) then
 lft (some false)
 else
 bif (decide (x_x4 >= (to2.length : Int))) then
 lft (some false)
 else
 (ixO f1.Slots x_x4).bind λx_x5 =>
 (ixO f1.Slots x3).bind λx_x6 =>
 bif (x_x5.Size != x_x6.Size) then
 lft (some false)
 else
 (ixO to2 x_x4).bind λx_x7 =>
 bif (x_x7 != x_x4) then
 lft (some false)
 else
 cnt (i64.wrap (x3 + 1))
 else
 lft (some true)
def VW (f1 : Nz) (to2 : (List Int)) : Option (Bool) :=
 bif ((to2.length : Int) != (f1.Slots.length : Int)) then
 some false
 else
 NY (λs=>VA to2 f1 s) 0

def WE (x1 : NC) : Option (Bool) :=
 (Sm x1).bind λr2 =>
 some r2.2

def Xd (f1 : Nz) (r2 : NM) (x4 : Int) : Option ((Int) ⊕ (Int)) :=
 bif (decide (x4 < (f1.Code.length : Int))) then
 (ixO f1.Code x4).bind λx_x5 =>
 (ixO r2.Keep x4).bind λx_x6 =>
 bif (!x_x6) then
 (WE x_x5).bind λr7 =>
 bif (!r7) then
 lft (some 12)
 else
 cnt (i64.wrap (x4 + 1))
 else
 cnt (i64.wrap (x4 + 1))
 else
 lft (some 0)
def Xe (f1 : Nz) (r2 : NM) : Option (Int) :=
 NY (λs=>Xd f1 r2 s) 0
def UC (f1 : Nz) (r2 : NM) : Option (Int) :=
 (VW f1 r2.To).bind λr3 =>
 bif (!r3) then
 some 12
 else
 bif ((r2.Keep.length : Int) != (f1.Code.length : Int)) then
 some 12
 else
 Xe f1 r2

def PW (x_x9 : (List Int)) (cap3 : NM) (k1 : Int) (r6 : Int × Bool) (x10 : Int) : Option ((Int) ⊕ (Int × Bool)) :=
 bif (decide (x10 < (x_x9.length : Int))) then
 (ixO x_x9 x10).bind λx_x11 =>
 (ixO cap3.Keep k1).bind λx_x12 =>
 bif (x_x12 == (x_x11 != r6.1)) then
 (ixO cap3.To x_x11).bind λx_x13 =>
 (ixO cap3.To r6.1).bind λx_x14 =>
 bif (x_x13 == x_x14) then
 lft (some (x_x11,true))
 else
 cnt (i64.wrap (x10 + 1))
 else
 cnt (i64.wrap (x10 + 1))
 else
 lft (some (0,false))
def Pg (cap4 : NQ) (k1 : Int) (cap3 : NM) (r6 : Int × Bool) : Option (Int × Bool) :=
 (ixO cap4.Out k1).bind λx_x9 =>
 NY (λs=>PW x_x9 cap3 k1 r6 s) 0
def PG (k1 : Int) (cap2 : Nz) (cap3 : NM) (cap4 : NQ) : Option (Int × Bool) :=
 (ixO cap2.Code k1).bind λx_x5 =>
 (Sm x_x5).bind λr6 =>
 bif (!r6.2) then
 some (0,false)
 else
 bif (x_x5.Op == 17) then
 (ixO cap3.To x_x5.A).bind λx_x7 =>
 (ixO cap3.To x_x5.B).bind λx_x8 =>
 bif (x_x7 == x_x8) then
 some (0,false)
 else
 Pg cap4 k1 cap3 r6
 else
 Pg cap4 k1 cap3 r6

def TG (f1 : Nz) (r3 : NM) (l2 : NQ) (x6 : Int) : Option ((Int) ⊕ (Int × Int × Bool)) :=
 bif (decide (x6 < (f1.Code.length : Int))) then
 (PG x6 f1 r3 l2).bind λr7 =>
 bif r7.2 then
 lft (some (x6,r7.1,true))
 else
 cnt (i64.wrap (x6 + 1))
 else
 lft (some (0,0,false))
def TI (f1 : Nz) (r3 : NM) (l2 : NQ) : Option (Int × Int × Bool) :=
 NY (λs=>TG f1 r3 l2 s) 0
def Tv (f1 : Nz) (l2 : NQ) (r3 : NM) : Option (Int × Int × Bool) :=
 (Th f1 l2).bind λr4 =>
 bif (r4 != 0) then
 some (0,0,false)
 else
 (UC f1 r3).bind λr5 =>
 bif (r5 != 0) then
 some (0,0,false)
 else
 TI f1 r3 l2

def Su (f1 : Nz) (l2 : NQ) (r3 : NM) : Option (Int) :=
 (Th f1 l2).bind λr4 =>
 bif (r4 != 0) then
 some 11
 else
 (UC f1 r3).bind λr5 =>
 bif (r5 != 0) then
 some 12
 else
 (Tv f1 l2 r3).bind λr6 =>
 bif r6.2.2 then
 some 12
 else
 some 0

def ZN  : Option (Bool) :=
 (Su (Nz.mk 0 ([(NV.mk 8 8),(NV.mk 8 8)] : List NV) ([(NC.mk 16 0 0 0 0),(NC.mk 16 1 0 0 0),(NC.mk 15 0 0 0 0),(NC.mk 23 0 0 0 0)] : List NC)) (NQ.mk ([([0] : List Int),([0] : List Int),([] : List Int),([] : List Int)] : List (List Int))) (NM.mk ([0,1] : List Int) ([true,true,true,true] : List Bool))).bind λr1 =>
 bif (r1 == 0) then
 (Su (Nz.mk 0 ([(NV.mk 8 8),(NV.mk 8 8)] : List NV) ([(NC.mk 16 0 0 0 0),(NC.mk 16 1 0 0 0),(NC.mk 15 0 0 0 0),(NC.mk 23 0 0 0 0)] : List NC)) (NQ.mk ([([0] : List Int),([0] : List Int),([] : List Int),([] : List Int)] : List (List Int))) (NM.mk ([0,0] : List Int) ([true,true,true,true] : List Bool))).bind λr2 =>
 some (r2 == 12)
 else
 some false

def AdJ (list1 : (List Int)) (limit2 : Int) : Option (Mk) :=
 chk (0 <= (Sl (list1.length : Int) limit2) /\ (Sl (list1.length : Int) limit2) <= list1.length) <|
 some (Mk.mk (list1.take (Sl (list1.length : Int) limit2).toNat) 0)

def XG (c1 : Mk) : Option (Bool × Mk) :=
 some ((decide (c1.at_ < (c1.list.length : Int))),c1)

def UM (n2 : Int) (c3 : List Int) (c4 : Int) : Option (Int × Mk) :=
 (ixO c3 c4).bind λx_x6 =>
 some (i64.wrap ((i64.wrap ((i64.wrap (x_x6)) * n2)).tdiv 256),(Mk.mk c3 (i64.wrap (c4 + 1))))
def NK (c1 : Mk) (n2 : Int) : Option (Int × Mk) :=
 (XG c1).bind λr5 =>
 bif (!r5.1) then
 some (0,r5.2)
 else
 bif (decide (n2 < 1)) then
 some (0,r5.2)
 else
 UM n2 r5.2.list r5.2.at_

def UN (c1 : Mk) : Option (NV × Mk) :=
 (NK c1 7).bind λr2 =>
 chk (0 <= r2.1 /\ r2.1 < ([8,4,8,1,2,16,8] : List Int).length) <|
 ((([8,4,8,1,2,16,8] : List Int))[r2.1.toNat]?).bind λx_e3 =>
 (NK r2.2 8).bind λr4 =>
 chk (0 <= r4.1 /\ r4.1 < ([8,4,1,8,16,2,32,64] : List Int).length) <|
 ((([8,4,1,8,16,2,32,64] : List Int))[r4.1.toNat]?).bind λx_e5 =>
 some ((NV.mk x_e3 x_e5),r4.2)

def Uh (c4 : List Int) (c5 : Int) (l6 : List NV) (n7 : Int) : Option (((List Int) × Int × (List NV) × Int) ⊕ ((List NV) × Mk)) :=
 bif (decide (n7 > 0)) then
 (UN (Mk.mk c4 c5)).bind λr8 =>
 chk (l6.length + ([r8.1] : List NV).length <= 16777216) <|
 cnt (r8.2.list,r8.2.at_,l6 ++ ([r8.1] : List NV),i64.wrap (n7 - 1))
 else
 lft (some (l6,(Mk.mk c4 c5)))
def TZ (c1 : Mk) (most2 : Int) : Option ((List NV) × Mk) :=
 (NK c1 (i64.wrap (most2 + 1))).bind λr3 =>
 NY (λs=>Uh s.1 s.2.1 s.2.2.1 s.2.2.2) (r3.2.list,r3.2.at_,([] : List NV),r3.1)

def UQ (f2 : Nz) (s3 : Int) (c1 : Mk) (l4 : List Int) (k5 : Int) : Option (((List Int) × Int) ⊕ (Int × Mk)) :=
 bif (decide (k5 < (f2.Slots.length : Int))) then
 (ixO f2.Slots k5).bind λx_x6 =>
 (ixO f2.Slots s3).bind λx_x7 =>
 bif (x_x6.Size == x_x7.Size) then
 chk (l4.length + ([k5] : List Int).length <= 16777216) <|
 cnt (l4 ++ ([k5] : List Int),i64.wrap (k5 + 1))
 else
 cnt (l4,i64.wrap (k5 + 1))
 else
 lft (
 (NK c1 (l4.length : Int)).bind λr8 =>
 chk (0 <= r8.1 /\ r8.1 < l4.length) <|
 ((l4)[r8.1.toNat]?).bind λl_e9 =>
 some (l_e9,r8.2))
def Tf (c1 : Mk) (f2 : Nz) (s3 : Int) : Option (Int × Mk) :=
 NY (λs=>UQ f2 s3 c1 s.1 s.2) (([] : List Int),0)

def RK (c1 : Mk) : Option (Int × Mk) :=
 (NK c1 6).bind λr2 =>
 bif (r2.1 == 0) then
 (NK r2.2 3).bind λr3 =>
 some (u64.wrap (18446744073709551615 - (u64.wrap (r3.1))),r3.2)
 else
 bif (r2.1 == 1) then
 (NK r2.2 64).bind λr4 =>
 chk (0 <= r4.1) <|
 some (u64.wrap (1 * 2 ^ (Nat.min r4.1.toNat u64.bits)),r4.2)
 else
 bif (r2.1 == 2) then
 some (0,r2.2)
 else
 (NK r2.2 256).bind λr5 =>
 some (u64.wrap (r5.1),r5.2)

def UP (params4 : (List Int)) (i3 : Int) (r23 : Int × Mk) (c24 : List Int) (c25 : Int) (out26 : List NC) (a27 : Int) : Option (((List Int) × Int × (List NC) × Int) ⊕ ((List NC) × Mk)) :=
 (ixO params4 (i64.wrap ((i64.wrap (i3 + 1)) + r23.1))).bind λx_x28 =>
 bif (decide (a27 < x_x28)) then
 (NK (Mk.mk c24 c25) 8).bind λr29 =>
 bif (decide (r29.1 < 7)) then
 (NK r29.2 4).bind λr30 =>
 chk (out26.length + ([(NC.mk 18 a27 r30.1 0 0)] : List NC).length <= 16777216) <|
 cnt (r30.2.list,r30.2.at_,out26 ++ ([(NC.mk 18 a27 r30.1 0 0)] : List NC),i64.wrap (a27 + 1))
 else
 cnt (r29.2.list,r29.2.at_,out26,i64.wrap (a27 + 1))
 else
 lft (
 chk (out26.length + ([(NC.mk 22 (i64.wrap ((i64.wrap (i3 + 1)) + r23.1)) 0 0 0)] : List NC).length <= 16777216) <|
 some (out26 ++ ([(NC.mk 22 (i64.wrap ((i64.wrap (i3 + 1)) + r23.1)) 0 0 0)] : List NC),(Mk.mk c24 c25)))
def Ym (r5 : Int × Mk) (r6 : Int × Mk) : Option ((List NC) × Mk) :=
 some (([(NC.mk 14 r5.1 0 0 0)] : List NC),r6.2)
def Rs (r6 : Int × Mk) (params4 : (List Int)) (i3 : Int) (r5 : Int × Mk) (x22 : Bool) : Option ((List NC) × Mk) :=
 bif x22 then
 (NK r6.2 (i64.wrap ((i64.wrap ((params4.length : Int) - i3)) - 1))).bind λr23 =>
 NY (λs=>UP params4 i3 r23 s.1 s.2.1 s.2.2.1 s.2.2.2) (r23.2.list,r23.2.at_,([] : List NC),0)
 else
 Ym r5 r6
def Rr (r6 : Int × Mk) (f2 : Nz) (r5 : Int × Mk) (params4 : (List Int)) (i3 : Int) (x20 : Bool) : Option ((List NC) × Mk) :=
 bif x20 then
 (NK r6.2 f2.Params).bind λr21 =>
 some (([(NC.mk 19 r5.1 r21.1 0 0)] : List NC),r21.2)
 else
 bif (decide (r6.1 >= 17)) then
 Rs r6 params4 i3 r5 (decide ((i64.wrap (i3 + 1)) < (params4.length : Int)))
 else
 Rs r6 params4 i3 r5 false
def Rq (r6 : Int × Mk) (f2 : Nz) (r5 : Int × Mk) (params4 : (List Int)) (i3 : Int) (x11 : Bool) : Option ((List NC) × Mk) :=
 bif x11 then
 (NK r6.2 (f2.Slots.length : Int)).bind λr12 =>
 (Tf r12.2 f2 r12.1).bind λr13 =>
 some (([(NC.mk 17 r13.1 r12.1 0 0)] : List NC),r13.2)
 else
 bif (decide (r6.1 < 11)) then
 (RK r6.2).bind λr14 =>
 some (([(NC.mk 0 r5.1 0 0 r14.1)] : List NC),r14.2)
 else
 bif (decide (r6.1 < 13)) then
 (NK r6.2 10).bind λr15 =>
 (NK r15.2 4).bind λr16 =>
 (NK r16.2 8).bind λr17 =>
 some (([(NC.mk (i64.wrap (2 + r15.1)) r5.1 r16.1 r17.1 0)] : List NC),r17.2)
 else
 bif (decide (r6.1 < 15)) then
 some (([(NC.mk 14 r5.1 0 0 0)] : List NC),r6.2)
 else
 bif (r6.1 == 15) then
 (NK r6.2 3).bind λr18 =>
 chk (0 <= r18.1 /\ r18.1 < ([13,12,1] : List Int).length) <|
 ((([13,12,1] : List Int))[r18.1.toNat]?).bind λx_e19 =>
 some (([(NC.mk x_e19 r5.1 0 0 0)] : List NC),r18.2)
 else
 bif (r6.1 == 16) then
 Rr r6 f2 r5 params4 i3 (decide (f2.Params > 0))
 else
 Rr r6 f2 r5 params4 i3 false
def Rp (r6 : Int × Mk) (f2 : Nz) (r5 : Int × Mk) (params4 : (List Int)) (i3 : Int) (x9 : Bool) : Option ((List NC) × Mk) :=
 bif x9 then
 (NK r6.2 (f2.Slots.length : Int)).bind λr10 =>
 some (([(NC.mk 15 r5.1 r10.1 0 0)] : List NC),r10.2)
 else
 bif (decide (r6.1 < 9)) then
 Rq r6 f2 r5 params4 i3 (decide ((f2.Slots.length : Int) > 0))
 else
 Rq r6 f2 r5 params4 i3 false
def Ro (r6 : Int × Mk) (f2 : Nz) (r5 : Int × Mk) (params4 : (List Int)) (i3 : Int) (x7 : Bool) : Option ((List NC) × Mk) :=
 bif x7 then
 (NK r6.2 (f2.Slots.length : Int)).bind λr8 =>
 some (([(NC.mk 16 r8.1 r5.1 0 0)] : List NC),r8.2)
 else
 bif (decide (r6.1 < 6)) then
 Rp r6 f2 r5 params4 i3 (decide ((f2.Slots.length : Int) > 0))
 else
 Rp r6 f2 r5 params4 i3 false
def UO (c1 : Mk) (f2 : Nz) (i3 : Int) (params4 : (List Int)) : Option ((List NC) × Mk) :=
 (NK c1 4).bind λr5 =>
 (NK r5.2 20).bind λr6 =>
 bif (decide (r6.1 < 3)) then
 Ro r6 f2 r5 params4 i3 (decide ((f2.Slots.length : Int) > 0))
 else
 Ro r6 f2 r5 params4 i3 false

def Rc (k32 : Int) (code31 : List NC) (r33 : Int × Mk) (to34 : Int) (x35 : Bool) : Option (((List Int) × Int × (List NC) × Int) ⊕ (Nz × Mk)) :=
 bif x35 then
 chk (0 <= k32 /\ k32 < code31.length) <|
 ((code31)[k32.toNat]?).bind λcode_o38 =>
 cnt (r33.2.list,r33.2.at_,code31.set k32.toNat (NC.mk code_o38.Op to34 code_o38.B code_o38.C code_o38.Imm),i64.wrap (k32 + 1))
 else
 chk (0 <= k32 /\ k32 < code31.length) <|
 ((code31)[k32.toNat]?).bind λcode_e39 =>
 bif (code_e39.Op == 21) then
 chk (0 <= k32 /\ k32 < code31.length) <|
 ((code31)[k32.toNat]?).bind λcode_e40 =>
 bif (decide (code_e40.B < 0)) then
 chk (0 <= k32 /\ k32 < code31.length) <|
 ((code31)[k32.toNat]?).bind λcode_o41 =>
 cnt (r33.2.list,r33.2.at_,code31.set k32.toNat (NC.mk code_o41.Op code_o41.A to34 code_o41.C code_o41.Imm),i64.wrap (k32 + 1))
 else
 cnt (r33.2.list,r33.2.at_,code31,i64.wrap (k32 + 1))
 else
 cnt (r33.2.list,r33.2.at_,code31,i64.wrap (k32 + 1))
def Pq (k32 : Int) (code31 : List NC) (r33 : Int × Mk) (to34 : Int) : Option (((List Int) × Int × (List NC) × Int) ⊕ (Nz × Mk)) :=
 chk (0 <= k32 /\ k32 < code31.length) <|
 ((code31)[k32.toNat]?).bind λcode_e36 =>
 bif (code_e36.Op == 20) then
 chk (0 <= k32 /\ k32 < code31.length) <|
 ((code31)[k32.toNat]?).bind λcode_e37 =>
 Rc k32 code31 r33 to34 (decide (code_e37.A < 0))
 else
 Rc k32 code31 r33 to34 false
def Ra (x_x5 : Int) (f17 : List NV) (c29 : List Int) (c30 : Int) (code31 : List NC) (k32 : Int) : Option (((List Int) × Int × (List NC) × Int) ⊕ (Nz × Mk)) :=
 bif (decide (k32 < (code31.length : Int))) then
 (NK (Mk.mk c29 c30) 8).bind λr33 =>
 bif (decide ((i64.wrap ((i64.wrap (k32 + r33.1)) - 2)) < 0)) then
 Pq k32 code31 r33 (i64.wrap ((code31.length : Int) - 1))
 else
 bif (decide ((i64.wrap ((i64.wrap (k32 + r33.1)) - 2)) >= (code31.length : Int))) then
 Pq k32 code31 r33 (i64.wrap ((code31.length : Int) - 1))
 else
 Pq k32 code31 r33 (i64.wrap ((i64.wrap (k32 + r33.1)) - 2))
 else
 lft (some ((Nz.mk x_x5 f17 code31),(Mk.mk c29 c30)))
def Qe (code16 : List NC) (x_x5 : Int) (f17 : List NV) (c23 : List Int) (c24 : Int) (end25 : Int) (end26 : Int) : Option (Nz × Mk) :=
 chk (code16.length + ([(NC.mk end25 0 0 0 end26)] : List NC).length <= 16777216) <|
 NY (λs=>Ra x_x5 f17 s.1 s.2.1 s.2.2.1 s.2.2.2) (c23,c24,code16 ++ ([(NC.mk end25 0 0 0 end26)] : List NC),0)
def SF (x_x5 : Int) (i2 : Int) (params3 : (List Int)) (c14 : List Int) (c15 : Int) (code16 : List NC) (f17 : List NV) (n18 : Int) : Option (((List Int) × Int × (List NC) × (List NV) × Int) ⊕ (Nz × Mk)) :=
 bif (decide (n18 > 0)) then
 (UO (Mk.mk c14 c15) (Nz.mk x_x5 f17 ([])) i2 params3).bind λr19 =>
 chk (code16.length + r19.1.length <= 16777216) <|
 (NK r19.2 9).bind λr20 =>
 bif (r20.1 == 7) then
 (NK r20.2 4).bind λr21 =>
 chk ((code16 ++ r19.1).length + ([(NC.mk 21 r21.1 (-1) 0 0)] : List NC).length <= 16777216) <|
 cnt (r21.2.list,r21.2.at_,(code16 ++ r19.1) ++ ([(NC.mk 21 r21.1 (-1) 0 0)] : List NC),f17,i64.wrap (n18 - 1))
 else
 bif (r20.1 == 8) then
 (NK r20.2 3).bind λr22 =>
 bif (r22.1 == 2) then
 chk ((code16 ++ r19.1).length + ([(NC.mk 20 (-1) 0 0 0)] : List NC).length <= 16777216) <|
 cnt (r22.2.list,r22.2.at_,(code16 ++ r19.1) ++ ([(NC.mk 20 (-1) 0 0 0)] : List NC),f17,i64.wrap (n18 - 1))
 else
 cnt (r22.2.list,r22.2.at_,code16 ++ r19.1,f17,i64.wrap (n18 - 1))
 else
 cnt (r20.2.list,r20.2.at_,code16 ++ r19.1,f17,i64.wrap (n18 - 1))
 else
 lft (
 (NK (Mk.mk c14 c15) 12).bind λr27 =>
 bif (r27.1 == 11) then
 (RK r27.2).bind λr28 =>
 Qe code16 x_x5 f17 r28.2.list r28.2.at_ 24 r28.1
 else
 Qe code16 x_x5 f17 r27.2.list r27.2.at_ 23 0)
def SE (r6 : (List NV) × Mk) (most4 : Int) (x_x5 : Int) (i2 : Int) (params3 : (List Int)) (c7 : List Int) (c8 : Int) (code9 : List NC) (s10 : Int) : Option (((List Int) × Int × (List NC) × Int) ⊕ (Nz × Mk)) :=
 bif (decide (s10 < (r6.1.length : Int))) then
 (NK (Mk.mk c7 c8) 4).bind λr11 =>
 bif (decide (r11.1 < 3)) then
 (NK r11.2 4).bind λr12 =>
 chk (code9.length + ([(NC.mk 16 s10 r12.1 0 0)] : List NC).length <= 16777216) <|
 cnt (r12.2.list,r12.2.at_,code9 ++ ([(NC.mk 16 s10 r12.1 0 0)] : List NC),i64.wrap (s10 + 1))
 else
 cnt (r11.2.list,r11.2.at_,code9,i64.wrap (s10 + 1))
 else
 lft (
 (NK (Mk.mk c7 c8) (i64.wrap (most4 + 1))).bind λr13 =>
 NY (λs=>SF x_x5 i2 params3 s.1 s.2.1 s.2.2.1 s.2.2.2.1 s.2.2.2.2) (r13.2.list,r13.2.at_,code9,r6.1,r13.1))
def Si (c1 : Mk) (i2 : Int) (params3 : (List Int)) (most4 : Int) : Option (Nz × Mk) :=
 (ixO params3 i2).bind λx_x5 =>
 (TZ c1 6).bind λr6 =>
 NY (λs=>SE r6 most4 x_x5 i2 params3 s.1 s.2.1 s.2.2.1 s.2.2.2) (r6.2.list,r6.2.at_,([] : List NC),0)

def Tc (most3 : Int) (c10 : List Int) (c11 : Int) (p12 : List Nz) (i13 : Int) (params14 : List Int) : Option (((List Int) × Int × (List Nz) × Int × (List Int)) ⊕ (NN × Mk)) :=
 bif (decide (i13 < (params14.length : Int))) then
 chk (([] : List Nz).length + p12.length <= 16777216) <|
 (Si (Mk.mk c10 c11) i13 params14 most3).bind λr15 =>
 chk ((([] : List Nz) ++ p12).length + ([r15.1] : List Nz).length <= 16777216) <|
 cnt (r15.2.list,r15.2.at_,(([] : List Nz) ++ p12) ++ ([r15.1] : List Nz),i64.wrap (i13 + 1),params14)
 else
 lft (some ((NN.mk p12),(Mk.mk c10 c11)))
def Tb (most3 : Int) (c5 : List Int) (c6 : Int) (params7 : List Int) (n8 : Int) : Option (((List Int) × Int × (List Int) × Int) ⊕ (NN × Mk)) :=
 bif (decide (n8 > 0)) then
 (NK (Mk.mk c5 c6) 4).bind λr9 =>
 chk (params7.length + ([r9.1] : List Int).length <= 16777216) <|
 cnt (r9.2.list,r9.2.at_,params7 ++ ([r9.1] : List Int),i64.wrap (n8 - 1))
 else
 lft (NY (λs=>Tc most3 s.1 s.2.1 s.2.2.1 s.2.2.2.1 s.2.2.2.2) (c5,c6,[],0,params7))
def SW (c1 : Mk) (funcs2 : Int) (most3 : Int) : Option (NN × Mk) :=
 (NK c1 funcs2).bind λr4 =>
 NY (λs=>Tb most3 s.1 s.2.1 s.2.2.1 s.2.2.2) (r4.2.list,r4.2.at_,([0] : List Int),r4.1)

def QC (x_x3 : NC) (k2 : Int) (x4 : Bool) : Option ((List Int)) :=
 bif x4 then
 some ([] : List Int)
 else
 bif (x_x3.Op == 21) then
 bif (decide (x_x3.B < (i64.wrap (k2 + 1)))) then
 some ([x_x3.B,i64.wrap (k2 + 1)] : List Int)
 else
 bif (decide (x_x3.B > (i64.wrap (k2 + 1)))) then
 some ([i64.wrap (k2 + 1),x_x3.B] : List Int)
 else
 some ([i64.wrap (k2 + 1)] : List Int)
 else
 some ([i64.wrap (k2 + 1)] : List Int)
def Aap (f1 : Nz) (k2 : Int) : Option ((List Int)) :=
 (ixO f1.Code k2).bind λx_x3 =>
 bif (x_x3.Op == 20) then
 some ([x_x3.A] : List Int)
 else
 bif (x_x3.Op == 23) then
 QC x_x3 k2 (x_x3.Op == 23)
 else
 QC x_x3 k2 (x_x3.Op == 24)
def YX (f1 : Nz) (k2 : Int) : Option ((List Int)) :=
 bif (decide (k2 < 0)) then
 some ([] : List Int)
 else
 bif (decide (k2 >= (f1.Code.length : Int))) then
 some ([] : List Int)
 else
 Aap f1 k2

def QY (x1 : NC) : Option (Bool) :=
 bif (x1.Op == 16) then
 some true
 else
 some (x1.Op == 17)

def QD (x1 : NC) : Option (Int × Bool) :=
 (QY x1).bind λr2 =>
 bif r2 then
 some (x1.A,true)
 else
 some (0,false)

def RQ (s1 : (List Int)) (n2 : Int) (out3 : List Int) (i4 : Int) : Option (((List Int) × Int) ⊕ ((List Int))) :=
 bif (decide (i4 < (s1.length : Int))) then
 (ixO s1 i4).bind λx_x5 =>
 bif (x_x5 != n2) then
 (ixO s1 i4).bind λx_x6 =>
 chk (out3.length + ([x_x6] : List Int).length <= 16777216) <|
 cnt (out3 ++ ([x_x6] : List Int),i64.wrap (i4 + 1))
 else
 cnt (out3,i64.wrap (i4 + 1))
 else
 lft (some out3)
def Wg (s1 : (List Int)) (n2 : Int) : Option ((List Int)) :=
 NY (λs=>RQ s1 n2 s.1 s.2) (([] : List Int),0)

def TF (x1 : NC) : Option ((List Int)) :=
 bif (x1.Op == 15) then
 some ([x1.B] : List Int)
 else
 bif (x1.Op == 17) then
 some ([x1.B] : List Int)
 else
 some ([] : List Int)

def Vc (n1 : Int) : Option (Bool) :=
 bif (decide (n1 >= 0)) then
 some (decide (n1 < 512))
 else
 some false

def RP (s1 : (List Int)) (i6 : Int) (out7 : List Int) (done8 : Bool) : Option (((List Int) × Bool × Int) ⊕ ((List Int))) :=
 (ixO s1 i6).bind λx_x12 =>
 chk (out7.length + ([x_x12] : List Int).length <= 16777216) <|
 cnt (out7 ++ ([x_x12] : List Int),done8,i64.wrap (i6 + 1))
def SY (s1 : (List Int)) (i6 : Int) (n2 : Int) (out4 : List Int) (done5 : Bool) (x9 : Bool) : Option (((List Int) × Bool × Int) ⊕ ((List Int))) :=
 bif x9 then
 (ixO s1 i6).bind λx_x11 =>
 bif (decide (x_x11 > n2)) then
 chk (out4.length + ([n2] : List Int).length <= 16777216) <|
 RP s1 i6 (out4 ++ ([n2] : List Int)) true
 else
 RP s1 i6 out4 true
 else
 RP s1 i6 out4 done5
def Qt (s1 : (List Int)) (n2 : Int) (out4 : List Int) (done5 : Bool) (i6 : Int) : Option (((List Int) × Bool × Int) ⊕ ((List Int))) :=
 bif (decide (i6 < (s1.length : Int))) then
 bif (!done5) then
 (ixO s1 i6).bind λx_x10 =>
 SY s1 i6 n2 out4 done5 (decide (x_x10 >= n2))
 else
 SY s1 i6 n2 out4 done5 false
 else
 lft (
 bif (!done5) then
 chk (out4.length + ([n2] : List Int).length <= 16777216) <|
 some (out4 ++ ([n2] : List Int))
 else
 some out4)
def RW (s1 : (List Int)) (n2 : Int) : Option ((List Int)) :=
 (Vc n2).bind λr3 =>
 NY (λs=>Qt s1 n2 s.1 s.2.1 s.2.2) (([] : List Int),(!r3),0)

def TO (b2 : (List Int)) (out3 : List Int) (i4 : Int) : Option (((List Int) × Int) ⊕ ((List Int))) :=
 bif (decide (i4 < (b2.length : Int))) then
 (ixO b2 i4).bind λx_x5 =>
 (RW out3 x_x5).bind λr6 =>
 cnt (r6,i64.wrap (i4 + 1))
 else
 lft (some out3)
def SJ (a1 : (List Int)) (b2 : (List Int)) : Option ((List Int)) :=
 chk (([] : List Int).length + a1.length <= 16777216) <|
 NY (λs=>TO b2 s.1 s.2) (([] : List Int) ++ a1,0)

def Aco (x1 : NC) (out2 : (List Int)) : Option ((List Int)) :=
 (QD x1).bind λr3 =>
 bif r3.2 then
 (Wg out2 r3.1).bind λr4 =>
 (TF x1).bind λr5 =>
 (SJ r4 r5).bind λr6 =>
 some r6
 else
 (TF x1).bind λr7 =>
 (SJ out2 r7).bind λr8 =>
 some r8

def Aar (k4 : Int) (x5 : List (List Int)) : Option (((List (List Int)) × Int) ⊕ (NQ)) :=
 cnt (x5,i64.wrap (k4 + 1))
def Uy (r6 : (List Int)) (k4 : Int) (f1 : Nz) (l2 : NQ) (x7 : List (List Int)) (i8 : Int) : Option (((List (List Int)) × Int) ⊕ (((List (List Int)) × Int) ⊕ (NQ))) :=
 bif (decide (i8 < (r6.length : Int))) then
 chk (0 <= i8 /\ i8 < r6.length) <|
 ((r6)[i8.toNat]?).bind λnext_e9 =>
 chk (0 <= k4 /\ k4 < x7.length) <|
 ((x7)[k4.toNat]?).bind λx_e10 =>
 (ixO f1.Code next_e9).bind λx_x11 =>
 (ixO l2.Out next_e9).bind λx_x12 =>
 (Aco x_x11 x_x12).bind λr13 =>
 (SJ x_e10 r13).bind λr14 =>
 chk (0 <= k4 /\ k4 < x7.length) <|
 ((x7)[k4.toNat]?).bind λ_ =>
 cnt (x7.set k4.toNat r14,i64.wrap (i8 + 1))
 else
 lft (Aar k4 x7)
def Ux (f1 : Nz) (l2 : NQ) (x3 : List (List Int)) (k4 : Int) : Option (((List (List Int)) × Int) ⊕ (NQ)) :=
 bif (decide (k4 < (f1.Code.length : Int))) then
 (YX f1 k4).bind λr6 =>
 NY (λs=>Uy r6 k4 f1 l2 s.1 s.2) (x3,0)
 else
 lft (some (NQ.mk x3))
def AbE (f1 : Nz) (l2 : NQ) : Option (NQ) :=
 chk (0 <= (f1.Code.length : Int) /\ (f1.Code.length : Int) <= 16777216) <|
 NY (λs=>Ux f1 l2 s.1 s.2) (List.replicate (f1.Code.length : Int).toNat ([] : (List Int)),0)

def Tm (a1 : (List Int)) (b2 : (List Int)) (i3 : Int) : Option ((Int) ⊕ (Bool)) :=
 bif (decide (i3 < (a1.length : Int))) then
 (ixO a1 i3).bind λx_x4 =>
 (ixO b2 i3).bind λx_x5 =>
 bif (x_x4 != x_x5) then
 lft (some false)
 else
 cnt (i64.wrap (i3 + 1))
 else
 lft (some true)
def Abv (a1 : (List Int)) (b2 : (List Int)) : Option (Bool) :=
 bif ((a1.length : Int) != (b2.length : Int)) then
 some false
 else
 NY (λs=>Tm a1 b2 s) 0

def Rk (a1 : (List (List Int))) (b2 : (List (List Int))) (i3 : Int) : Option ((Int) ⊕ (Bool)) :=
 bif (decide (i3 < (a1.length : Int))) then
 (ixO a1 i3).bind λx_x4 =>
 (ixO b2 i3).bind λx_x5 =>
 (Abv x_x4 x_x5).bind λr6 =>
 bif (!r6) then
 lft (some false)
 else
 cnt (i64.wrap (i3 + 1))
 else
 lft (some true)
def Xj (a1 : (List (List Int))) (b2 : (List (List Int))) : Option (Bool) :=
 bif ((a1.length : Int) != (b2.length : Int)) then
 some false
 else
 NY (λs=>Rk a1 b2 s) 0

def AbD (a1 : NQ) (b2 : NQ) : Option (Bool) :=
 (Xj a1.Out b2.Out).bind λr3 =>
 some r3

def Za (f1 : Nz) (l2 : List (List Int)) : Option (((List (List Int))) ⊕ (NQ)) :=
 (AbE f1 (NQ.mk l2)).bind λr3 =>
 (AbD r3 (NQ.mk l2)).bind λr4 =>
 bif r4 then
 lft (some (NQ.mk l2))
 else
 cnt r3.Out
def TJ (f1 : Nz) : Option (NQ) :=
 chk (0 <= (f1.Code.length : Int) /\ (f1.Code.length : Int) <= 16777216) <|
 NY (λs=>Za f1 s) (List.replicate (f1.Code.length : Int).toNat ([] : (List Int)))

def Ug (n8 : Int) (c9 : List Int) (c10 : Int) (x11 : List (List Int)) : Option (((List Int) × Int × (List (List Int)) × Int) ⊕ (NQ × Mk)) :=
 cnt (c9,c10,x11,i64.wrap (n8 - 1))
def Ue (r12 : Int × Mk) (n8 : Int) (x13 : List (List Int)) (k14 : Int) : Option (((List (List Int)) × Int) ⊕ (((List Int) × Int × (List (List Int)) × Int) ⊕ (NQ × Mk))) :=
 bif (decide (k14 < (x13.length : Int))) then
 chk (0 <= k14 /\ k14 < x13.length) <|
 ((x13)[k14.toNat]?).bind λx_e15 =>
 (RW x_e15 r12.1).bind λr16 =>
 chk (0 <= k14 /\ k14 < x13.length) <|
 ((x13)[k14.toNat]?).bind λ_ =>
 cnt (x13.set k14.toNat r16,i64.wrap (k14 + 1))
 else
 lft (Ug n8 r12.2.list r12.2.at_ x13)
def Uf (c5 : List Int) (c6 : Int) (f2 : Nz) (n8 : Int) (x7 : List (List Int)) : Option (((List Int) × Int × (List (List Int)) × Int) ⊕ (NQ × Mk)) :=
 (NK (Mk.mk c5 c6) (f2.Slots.length : Int)).bind λr12 =>
 NY (λs=>Ue r12 n8 s.1 s.2) (x7,0)
def Ud (f2 : Nz) (c5 : List Int) (c6 : Int) (x7 : List (List Int)) (n8 : Int) : Option (((List Int) × Int × (List (List Int)) × Int) ⊕ (NQ × Mk)) :=
 bif (decide (n8 > 0)) then
 bif (decide ((f2.Slots.length : Int) > 0)) then
 Uf c5 c6 f2 n8 x7
 else
 lft (some ((NQ.mk x7),(Mk.mk c5 c6)))
 else
 lft (some ((NQ.mk x7),(Mk.mk c5 c6)))
def TY (c1 : Mk) (f2 : Nz) : Option (NQ × Mk) :=
 (TJ f2).bind λr3 =>
 chk (([] : List (List Int)).length + r3.Out.length <= 16777216) <|
 (NK c1 3).bind λr4 =>
 NY (λs=>Ud f2 s.1 s.2.1 s.2.2.1 s.2.2.2) (r4.2.list,r4.2.at_,([] : List (List Int)) ++ r3.Out,r4.1)

def Sk (c1 : Mk) : Option (Int × Mk) :=
 (NK c1 12).bind λr2 =>
 bif (r2.1 == 11) then
 (NK r2.2 (([9223372036854775807,(-9223372036854775808),2147483648,2147483647,(-1),16777216,33554432,1048577,512,80] : List Int).length : Int)).bind λr3 =>
 chk (0 <= r3.1 /\ r3.1 < ([9223372036854775807,(-9223372036854775808),2147483648,2147483647,(-1),16777216,33554432,1048577,512,80] : List Int).length) <|
 ((([9223372036854775807,(-9223372036854775808),2147483648,2147483647,(-1),16777216,33554432,1048577,512,80] : List Int))[r3.1.toNat]?).bind λl_e4 =>
 some (l_e4,r3.2)
 else
 (NK r2.2 256).bind λr5 =>
 (NK r5.2 7).bind λr6 =>
 chk (0 <= r6.1) <|
 some (i64.wrap ((r5.1.fdiv (2 ^ (Nat.min r6.1.toNat i64.bits))) - (i64.wrap (r2.1.tdiv 9))),r6.2)

def Qs (n12 : Int) (c13 : List Int) (c14 : Int) (x15 : List (List Int)) : Option (((List Int) × Int × (List (List Int)) × Int) ⊕ (NQ × Mk)) :=
 cnt (c13,c14,x15,i64.wrap (n12 - 1))
def UK (r16 : Int × Mk) (n12 : Int) (r17 : Int × Mk) (x18 : List (List Int)) (k19 : Int) : Option (((List (List Int)) × Int) ⊕ (((List Int) × Int × (List (List Int)) × Int) ⊕ (NQ × Mk))) :=
 bif (decide (k19 < (x18.length : Int))) then
 chk (0 <= k19 /\ k19 < x18.length) <|
 ((x18)[k19.toNat]?).bind λx_e20 =>
 (RW x_e20 r16.1).bind λr21 =>
 chk (0 <= k19 /\ k19 < x18.length) <|
 ((x18)[k19.toNat]?).bind λ_ =>
 cnt (x18.set k19.toNat r21,i64.wrap (k19 + 1))
 else
 lft (Qs n12 r17.2.list r17.2.at_ x18)
def UL (c9 : List Int) (c10 : Int) (f2 : Nz) (n12 : Int) (x11 : List (List Int)) : Option (((List Int) × Int × (List (List Int)) × Int) ⊕ (NQ × Mk)) :=
 (NK (Mk.mk c9 c10) (f2.Slots.length : Int)).bind λr16 =>
 (NK r16.2 2).bind λr17 =>
 bif (r17.1 == 0) then
 NY (λs=>UK r16 n12 r17 s.1 s.2) (x11,0)
 else
 (NK r17.2 (x11.length : Int)).bind λr23 =>
 (NK r23.2 2).bind λr24 =>
 bif (r24.1 == 0) then
 chk (0 <= r23.1 /\ r23.1 < x11.length) <|
 ((x11)[r23.1.toNat]?).bind λx_e25 =>
 (RW x_e25 r16.1).bind λr26 =>
 chk (0 <= r23.1 /\ r23.1 < x11.length) <|
 ((x11)[r23.1.toNat]?).bind λ_ =>
 Qs n12 r24.2.list r24.2.at_ (x11.set r23.1.toNat r26)
 else
 chk (0 <= r23.1 /\ r23.1 < x11.length) <|
 ((x11)[r23.1.toNat]?).bind λx_e28 =>
 (Wg x_e28 r16.1).bind λr29 =>
 chk (0 <= r23.1 /\ r23.1 < x11.length) <|
 ((x11)[r23.1.toNat]?).bind λ_ =>
 Qs n12 r24.2.list r24.2.at_ (x11.set r23.1.toNat r29)
def Rn (c5 : List Int) (c6 : Int) (x7 : List (List Int)) : Option (NQ × Mk) :=
 (NK (Mk.mk c5 c6) 12).bind λr31 =>
 bif (r31.1 == 10) then
 chk (0 <= (1 : Int) /\ (1 : Int) <= x7.length) <|
 some ((NQ.mk (x7.drop ((1 : Int).toNat))),r31.2)
 else
 bif (r31.1 == 11) then
 (Sk r31.2).bind λr32 =>
 (Sk r32.2).bind λr33 =>
 chk (0 <= (0 : Int) /\ (0 : Int) < x7.length) <|
 ((x7)[(0 : Int).toNat]?).bind λ_ =>
 some ((NQ.mk (x7.set ((0 : Int).toNat) ([r32.1,r33.1] : List Int))),r33.2)
 else
 some ((NQ.mk x7),r31.2)
def UJ (f2 : Nz) (c9 : List Int) (c10 : Int) (x11 : List (List Int)) (n12 : Int) : Option (((List Int) × Int × (List (List Int)) × Int) ⊕ (NQ × Mk)) :=
 bif (decide (n12 > 0)) then
 bif (decide ((f2.Slots.length : Int) > 0)) then
 UL c9 c10 f2 n12 x11
 else
 lft (Rn c9 c10 x11)
 else
 lft (Rn c9 c10 x11)
def UI (c1 : Mk) (f2 : Nz) : Option (NQ × Mk) :=
 (TJ f2).bind λr3 =>
 (NK c1 3).bind λr4 =>
 bif (r4.1 == 0) then
 some (r3,r4.2)
 else
 chk (([] : List (List Int)).length + r3.Out.length <= 16777216) <|
 (NK r4.2 4).bind λr8 =>
 NY (λs=>UJ f2 s.1 s.2.1 s.2.2.1 s.2.2.2) (r8.2.list,r8.2.at_,([] : List (List Int)) ++ r3.Out,r8.1)

def Rv (s1 : (List Int)) (i2 : Int) : Option ((Int) ⊕ (Bool)) :=
 bif (decide (i2 < (s1.length : Int))) then
 (ixO s1 i2).bind λx_x3 =>
 (Vc x_x3).bind λr4 =>
 bif (!r4) then
 lft (some false)
 else
 bif (decide (i2 > 0)) then
 (ixO s1 i2).bind λx_x5 =>
 (ixO s1 (i64.wrap (i2 - 1))).bind λx_x6 =>
 bif (decide (x_x5 <= x_x6)) then
 lft (some false)
 else
 cnt (i64.wrap (i2 + 1))
 else
 cnt (i64.wrap (i2 + 1))
 else
 lft (some true)
def Xx (s1 : (List Int)) : Option (Bool) :=
 NY (λs=>Rv s1 s) 0

def Zc (l2 : NQ) (f1 : Nz) (k3 : Int) : Option ((Int) ⊕ (Bool)) :=
 bif (decide (k3 < (l2.Out.length : Int))) then
 (ixO l2.Out k3).bind λx_x4 =>
 (Xx x_x4).bind λr5 =>
 bif (!r5) then
 lft (some false)
 else
 (ixO l2.Out k3).bind λx_x6 =>
 bif (decide ((x_x6.length : Int) > 0)) then
 (ixO l2.Out k3).bind λx_x7 =>
 (ixO x_x7 (i64.wrap ((x_x6.length : Int) - 1))).bind λx_x8 =>
 bif (decide (x_x8 >= (f1.Slots.length : Int))) then
 lft (some false)
 else
 cnt (i64.wrap (k3 + 1))
 else
 cnt (i64.wrap (k3 + 1))
 else
 lft (some true)
def Xz (f1 : Nz) (l2 : NQ) : Option (Bool) :=
 bif ((l2.Out.length : Int) != (f1.Code.length : Int)) then
 some false
 else
 NY (λs=>Zc l2 f1 s) 0

def We (s1 : (List Int)) (n2 : Int) (i3 : Int) : Option ((Int) ⊕ (Bool)) :=
 bif (decide (i3 < (s1.length : Int))) then
 (ixO s1 i3).bind λx_x4 =>
 bif (x_x4 == n2) then
 lft (some true)
 else
 cnt (i64.wrap (i3 + 1))
 else
 lft (some false)
def SZ (s1 : (List Int)) (n2 : Int) : Option (Bool) :=
 NY (λs=>We s1 n2 s) 0

def So (a1 : (List Int)) (b2 : (List Int)) (out3 : List Int) (i4 : Int) : Option (((List Int) × Int) ⊕ ((List Int))) :=
 bif (decide (i4 < (a1.length : Int))) then
 (ixO a1 i4).bind λx_x5 =>
 (SZ b2 x_x5).bind λr6 =>
 bif (!r6) then
 (ixO a1 i4).bind λx_x7 =>
 chk (out3.length + ([x_x7] : List Int).length <= 16777216) <|
 cnt (out3 ++ ([x_x7] : List Int),i64.wrap (i4 + 1))
 else
 cnt (out3,i64.wrap (i4 + 1))
 else
 lft (some out3)
def ZS (a1 : (List Int)) (b2 : (List Int)) : Option ((List Int)) :=
 NY (λs=>So a1 b2 s.1 s.2) (([] : List Int),0)

def Sp (r4 : (List Int)) (f1 : Nz) (l2 : NQ) (k3 : Int) (out5 : List Int) (i6 : Int) : Option (((List Int) × Int) ⊕ ((List Int))) :=
 bif (decide (i6 < (r4.length : Int))) then
 chk (0 <= i6 /\ i6 < r4.length) <|
 ((r4)[i6.toNat]?).bind λnext_e7 =>
 (ixO f1.Code next_e7).bind λx_x8 =>
 (ixO l2.Out next_e7).bind λx_x9 =>
 (Aco x_x8 x_x9).bind λr10 =>
 (ixO l2.Out k3).bind λx_x11 =>
 (ZS r10 x_x11).bind λr12 =>
 (SJ out5 r12).bind λr13 =>
 cnt (r13,i64.wrap (i6 + 1))
 else
 lft (some out5)
def Xn (f1 : Nz) (l2 : NQ) (k3 : Int) : Option ((List Int)) :=
 (YX f1 k3).bind λr4 =>
 NY (λs=>Sp r4 f1 l2 k3 s.1 s.2) (([] : List Int),0)

def Zb (f1 : Nz) (l2 : NQ) (k4 : Int) : Option ((Int) ⊕ (Int × Int × Bool)) :=
 bif (decide (k4 < (f1.Code.length : Int))) then
 (Xn f1 l2 k4).bind λr5 =>
 bif (decide ((r5.length : Int) > 0)) then
 chk (0 <= (0 : Int) /\ (0 : Int) < r5.length) <|
 ((r5)[(0 : Int).toNat]?).bind λm_e6 =>
 lft (some (k4,m_e6,true))
 else
 cnt (i64.wrap (k4 + 1))
 else
 lft (some (0,0,false))
def ZX (f1 : Nz) (l2 : NQ) : Option (Int × Int × Bool) :=
 (Xz f1 l2).bind λr3 =>
 bif (!r3) then
 some (0,0,false)
 else
 NY (λs=>Zb f1 l2 s) 0

def Vw (f1 : Nz) (l2 : NQ) : Option (Int) :=
 (ZX f1 l2).bind λr3 =>
 bif r3.2.2 then
 some 11
 else
 (Xz f1 l2).bind λr4 =>
 bif (!r4) then
 some 11
 else
 some 0

def Rx (r14 : Int × Bool) (out15 : List (List Int)) (x_x19 : Int) (i16 : Int) (_x20 : Bool) (_x21 : Bool) (_x22 : Bool) (_x23 : Bool) : Option (((List (List Int)) × Int) ⊕ (((List (List Int)) × Int) ⊕ ((List (List Int)) × Int))) :=
 chk (0 <= r14.1 /\ r14.1 < out15.length) <|
 ((out15)[r14.1.toNat]?).bind λout_e24 =>
 (RW out_e24 x_x19).bind λr25 =>
 chk (0 <= x_x19 /\ x_x19 < out15.length) <|
 ((out15)[x_x19.toNat]?).bind λout_e26 =>
 (RW out_e26 r14.1).bind λr27 =>
 chk (0 <= r14.1 /\ r14.1 < out15.length) <|
 ((out15)[r14.1.toNat]?).bind λ_ =>
 chk (0 <= x_x19 /\ x_x19 < (out15.set r14.1.toNat r25).length) <|
 ((out15.set r14.1.toNat r25)[x_x19.toNat]?).bind λ_ =>
 cnt ((out15.set r14.1.toNat r25).set x_x19.toNat r27,i64.wrap (i16 + 1))
def Zk (l2 : NQ) (k6 : Int) (i16 : Int) (r14 : Int × Bool) (out15 : List (List Int)) (strict3 : Bool) (x_x13 : NC) : Option (((List (List Int)) × Int) ⊕ (((List (List Int)) × Int) ⊕ ((List (List Int)) × Int))) :=
 (ixO l2.Out k6).bind λx_x18 =>
 (ixO x_x18 i16).bind λx_x19 =>
 bif (x_x19 == r14.1) then
 cnt (out15,i64.wrap (i16 + 1))
 else
 bif (!strict3) then
 bif (x_x13.Op == 17) then
 bif (x_x13.B == x_x19) then
 cnt (out15,i64.wrap (i16 + 1))
 else
 Rx r14 out15 x_x19 i16 true (x_x13.Op == 17) true (x_x13.B == x_x19)
 else
 Rx r14 out15 x_x19 i16 true (x_x13.Op == 17) false false
 else
 Rx r14 out15 x_x19 i16 false false false false
def Sq (k6 : Int) (_x7 : Int) (_x8 : Int) (_x9 : Int) (_x10 : Int) (_x11 : Int) (out12 : List (List Int)) : Option (((List (List Int)) × Int) ⊕ ((List (List Int)) × Int)) :=
 cnt (out12,i64.wrap (k6 + 1))
def Wl (l2 : NQ) (k6 : Int) (r14 : Int × Bool) (strict3 : Bool) (x_x13 : NC) (out15 : List (List Int)) (i16 : Int) : Option (((List (List Int)) × Int) ⊕ (((List (List Int)) × Int) ⊕ ((List (List Int)) × Int))) :=
 (ixO l2.Out k6).bind λx_x17 =>
 bif (decide (i16 < (x_x17.length : Int))) then
 bif r14.2 then
 Zk l2 k6 i16 r14 out15 strict3 x_x13
 else
 lft (Sq k6 x_x13.Op x_x13.A x_x13.B x_x13.C x_x13.Imm out15)
 else
 lft (Sq k6 x_x13.Op x_x13.A x_x13.B x_x13.C x_x13.Imm out15)
def TQ (l2 : NQ) (k6 : Int) (r14 : Int × Bool) (strict3 : Bool) (x_x13 : NC) (out5 : List (List Int)) : Option (((List (List Int)) × Int) ⊕ ((List (List Int)) × Int)) :=
 NY (λs=>Wl l2 k6 r14 strict3 x_x13 s.1 s.2) (out5,0)
def Zj (f1 : Nz) (l2 : NQ) (strict3 : Bool) (out5 : List (List Int)) (k6 : Int) : Option (((List (List Int)) × Int) ⊕ ((List (List Int)) × Int)) :=
 bif (decide (k6 < (f1.Code.length : Int))) then
 (ixO f1.Code k6).bind λx_x13 =>
 (QD x_x13).bind λr14 =>
 bif (x_x13.Op == 17) then
 bif (x_x13.A == x_x13.B) then
 Sq k6 x_x13.Op x_x13.A x_x13.B x_x13.C x_x13.Imm out5
 else
 TQ l2 k6 r14 strict3 x_x13 out5
 else
 TQ l2 k6 r14 strict3 x_x13 out5
 else
 lft (some (out5,0))
def XA (f1 : Nz) (l2 : NQ) (strict3 : Bool) : Option ((List (List Int)) × Int) :=
 (Vw f1 l2).bind λr4 =>
 bif (r4 != 0) then
 some (([] : List (List Int)),r4)
 else
 chk (0 <= (f1.Slots.length : Int) /\ (f1.Slots.length : Int) <= 16777216) <|
 NY (λs=>Zj f1 l2 strict3 s.1 s.2) (List.replicate (f1.Slots.length : Int).toNat ([] : (List Int)),0)

def ZZ (f1 : Nz) (l2 : NQ) : Option ((List (List Int)) × Int) :=
 (XA f1 l2 false).bind λr3 =>
 some (r3.1,r3.2)

def Wj (k3 : Int) (out4 : List Pe) : Option (((List Pe) × Int) ⊕ ((List Pe))) :=
 cnt (out4,i64.wrap (k3 + 1))
def Zi (out2 : List Pe) (x_x5 : NC) (k3 : Int) (old7 : Bool) (i8 : Int) : Option ((Bool × Int) ⊕ (((List Pe) × Int) ⊕ ((List Pe)))) :=
 bif (decide (i8 < (out2.length : Int))) then
 bif old7 then
 cnt (true,i64.wrap (i8 + 1))
 else
 chk (0 <= i8 /\ i8 < out2.length) <|
 ((out2)[i8.toNat]?).bind λout_e9 =>
 cnt (((out_e9.a0 == x_x5.A) && ((out_e9.a1 == x_x5.B) && true)),i64.wrap (i8 + 1))
 else
 lft (
 bif (!old7) then
 chk (out2.length + ([(Pe.mk x_x5.A x_x5.B)] : List Pe).length <= 16777216) <|
 Wj k3 (out2 ++ ([(Pe.mk x_x5.A x_x5.B)] : List Pe))
 else
 Wj k3 out2)
def TP (out2 : List Pe) (x_x5 : NC) (k3 : Int) (old6 : Bool) : Option (((List Pe) × Int) ⊕ ((List Pe))) :=
 NY (λs=>Zi out2 x_x5 k3 s.1 s.2) (old6,0)
def Zh (f1 : Nz) (out2 : List Pe) (k3 : Int) : Option (((List Pe) × Int) ⊕ ((List Pe))) :=
 bif (decide (k3 < (f1.Code.length : Int))) then
 (ixO f1.Code k3).bind λx_x5 =>
 bif (x_x5.Op != 17) then
 TP out2 x_x5 k3 true
 else
 TP out2 x_x5 k3 (x_x5.A == x_x5.B)
 else
 lft (some out2)
def Aaa (f1 : Nz) : Option ((List Pe)) :=
 NY (λs=>Zh f1 s.1 s.2) (([] : List Pe),0)

def WM (to1 : (List Int)) (s2 : Int) (out3 : List Int) (t4 : Int) : Option (((List Int) × Int) ⊕ ((List Int))) :=
 bif (decide (t4 < (to1.length : Int))) then
 (ixO to1 t4).bind λx_x5 =>
 bif (x_x5 == s2) then
 chk (out3.length + ([t4] : List Int).length <= 16777216) <|
 cnt (out3 ++ ([t4] : List Int),i64.wrap (t4 + 1))
 else
 cnt (out3,i64.wrap (t4 + 1))
 else
 lft (some out3)
def Tn (to1 : (List Int)) (s2 : Int) : Option ((List Int)) :=
 NY (λs=>WM to1 s2 s.1 s.2) (([] : List Int),0)

def Zp (i7 : Int) : Option ((Int) ⊕ (Bool)) :=
 cnt (i64.wrap (i7 + 1))
def Zo (r6 : (List Int)) (i7 : Int) (r5 : (List Int)) (g1 : (List (List Int))) (k8 : Int) : Option ((Int) ⊕ ((Int) ⊕ (Bool))) :=
 bif (decide (k8 < (r6.length : Int))) then
 chk (0 <= i7 /\ i7 < r5.length) <|
 ((r5)[i7.toNat]?).bind λx_e9 =>
 (ixO g1 x_e9).bind λx_x10 =>
 chk (0 <= k8 /\ k8 < r6.length) <|
 ((r6)[k8.toNat]?).bind λy_e11 =>
 (SZ x_x10 y_e11).bind λr12 =>
 bif r12 then
 lft (lft (some false))
 else
 cnt (i64.wrap (k8 + 1))
 else
 lft (Zp i7)
def Zn (r5 : (List Int)) (r6 : (List Int)) (g1 : (List (List Int))) (i7 : Int) : Option ((Int) ⊕ (Bool)) :=
 bif (decide (i7 < (r5.length : Int))) then
 NY (λs=>Zo r6 i7 r5 g1 s) 0
 else
 lft (some true)
def Aac (g1 : (List (List Int))) (to2 : (List Int)) (a3 : Int) (b4 : Int) : Option (Bool) :=
 (Tn to2 a3).bind λr5 =>
 (Tn to2 b4).bind λr6 =>
 NY (λs=>Zn r5 r6 g1 s) 0

def Sr (s17 : Int) (to16 : List Int) (to_e10 : Int) (to_e12 : Int) (x18 : Bool) : Option (((List Int) × Int) ⊕ (((List Int) × Int) ⊕ ((List Int)))) :=
 bif x18 then
 chk (0 <= s17 /\ s17 < to16.length) <|
 ((to16)[s17.toNat]?).bind λ_ =>
 cnt (to16.set s17.toNat (Sl to_e10 to_e12),i64.wrap (s17 + 1))
 else
 cnt (to16,i64.wrap (s17 + 1))
def Qu (i7 : Int) (to8 : List Int) : Option (((List Int) × Int) ⊕ ((List Int))) :=
 cnt (to8,i64.wrap (i7 + 1))
def WK (to_e10 : Int) (to_e12 : Int) (i7 : Int) (to16 : List Int) (s17 : Int) : Option (((List Int) × Int) ⊕ (((List Int) × Int) ⊕ ((List Int)))) :=
 bif (decide (s17 < (to16.length : Int))) then
 chk (0 <= s17 /\ s17 < to16.length) <|
 ((to16)[s17.toNat]?).bind λto_e19 =>
 bif (to_e19 == to_e10) then
 Sr s17 to16 to_e10 to_e12 true
 else
 chk (0 <= s17 /\ s17 < to16.length) <|
 ((to16)[s17.toNat]?).bind λto_e20 =>
 Sr s17 to16 to_e10 to_e12 (to_e20 == to_e12)
 else
 lft (Qu i7 to16)
def WL (to_e10 : Int) (to_e12 : Int) (i7 : Int) (to6 : List Int) (_x13 : Bool) (_x14 : Bool) : Option (((List Int) × Int) ⊕ ((List Int))) :=
 NY (λs=>WK to_e10 to_e12 i7 s.1 s.2) (to6,0)
def WJ (r5 : (List Pe)) (g2 : (List (List Int))) (to6 : List Int) (i7 : Int) : Option (((List Int) × Int) ⊕ ((List Int))) :=
 bif (decide (i7 < (r5.length : Int))) then
 chk (0 <= i7 /\ i7 < r5.length) <|
 ((r5)[i7.toNat]?).bind λmoves_e9 =>
 chk (0 <= moves_e9.a0 /\ moves_e9.a0 < to6.length) <|
 ((to6)[moves_e9.a0.toNat]?).bind λto_e10 =>
 chk (0 <= i7 /\ i7 < r5.length) <|
 ((r5)[i7.toNat]?).bind λmoves_e11 =>
 chk (0 <= moves_e11.a1 /\ moves_e11.a1 < to6.length) <|
 ((to6)[moves_e11.a1.toNat]?).bind λto_e12 =>
 bif (to_e10 == to_e12) then
 Qu i7 to6
 else
 (Aac g2 to6 to_e10 to_e12).bind λr15 =>
 bif (!r15) then
 Qu i7 to6
 else
 WL to_e10 to_e12 i7 to6 r15 (!r15)
 else
 lft (some to6)
def WI (f1 : Nz) (g2 : (List (List Int))) (to3 : List Int) (s4 : Int) : Option (((List Int) × Int) ⊕ ((List Int))) :=
 bif (decide (s4 < (f1.Slots.length : Int))) then
 chk (to3.length + ([s4] : List Int).length <= 16777216) <|
 cnt (to3 ++ ([s4] : List Int),i64.wrap (s4 + 1))
 else
 lft (
 (Aaa f1).bind λr5 =>
 NY (λs=>WJ r5 g2 s.1 s.2) (to3,0))
def UA (f1 : Nz) (g2 : (List (List Int))) : Option ((List Int)) :=
 NY (λs=>WI f1 g2 s.1 s.2) (([] : List Int),0)

def AbH (f1 : Nz) (l2 : NQ) (k3 : Int) : Option (Bool) :=
 (ixO f1.Code k3).bind λx_x4 =>
 (QD x_x4).bind λr5 =>
 bif r5.2 then
 (ixO l2.Out k3).bind λx_x6 =>
 (SZ x_x6 r5.1).bind λr7 =>
 some (!r7)
 else
 some false

def Aat (f1 : Nz) (l2 : NQ) (to3 : (List Int)) (out4 : List Bool) (k5 : Int) : Option (((List Bool) × Int) ⊕ ((List Bool))) :=
 bif (decide (k5 < (f1.Code.length : Int))) then
 (ixO f1.Code k5).bind λx_x6 =>
 (AbH f1 l2 k5).bind λr7 =>
 bif (!r7) then
 bif (x_x6.Op == 17) then
 (ixO to3 x_x6.A).bind λx_x8 =>
 (ixO to3 x_x6.B).bind λx_x9 =>
 chk (out4.length + ([(!(x_x8 == x_x9))] : List Bool).length <= 16777216) <|
 cnt (out4 ++ ([(!(x_x8 == x_x9))] : List Bool),i64.wrap (k5 + 1))
 else
 chk (out4.length + ([true] : List Bool).length <= 16777216) <|
 cnt (out4 ++ ([true] : List Bool),i64.wrap (k5 + 1))
 else
 chk (out4.length + ([false] : List Bool).length <= 16777216) <|
 cnt (out4 ++ ([false] : List Bool),i64.wrap (k5 + 1))
 else
 lft (some out4)
def Zq (f1 : Nz) (l2 : NQ) (to3 : (List Int)) : Option ((List Bool)) :=
 NY (λs=>Aat f1 l2 to3 s.1 s.2) (([] : List Bool),0)

def Zm (to2 : (List Int)) (f1 : Nz) (s6 : Int) : Option ((Int) ⊕ (Bool)) :=
 bif (decide (s6 < (to2.length : Int))) then
 (ixO to2 s6).bind λx_x7 =>
 (ixO f1.Slots x_x7).bind λx_x8 =>
 (ixO f1.Slots s6).bind λx_x9 =>
 bif (x_x8.Size != x_x9.Size) then
 lft (some false)
 else
 (ixO to2 s6).bind λx_x10 =>
 (ixO to2 x_x10).bind λx_x11 =>
 (ixO to2 s6).bind λx_x12 =>
 bif (x_x11 != x_x12) then
 lft (some false)
 else
 cnt (i64.wrap (s6 + 1))
 else
 lft (some true)
def Zl (to2 : (List Int)) (f1 : Nz) (s3 : Int) : Option ((Int) ⊕ (Bool)) :=
 bif (decide (s3 < (to2.length : Int))) then
 (ixO to2 s3).bind λx_x4 =>
 bif (decide (x_x4 < 0)) then
 lft (some false)
 else
 (ixO to2 s3).bind λx_x5 =>
 bif (decide (x_x5 >= (to2.length : Int))) then
 lft (some false)
 else
 cnt (i64.wrap (s3 + 1))
 else
 lft (NY (λs=>Zm to2 f1 s) 0)
def Aab (f1 : Nz) (to2 : (List Int)) : Option (Bool) :=
 bif ((to2.length : Int) != (f1.Slots.length : Int)) then
 some false
 else
 NY (λs=>Zl to2 f1 s) 0

def Zv (f1 : Nz) (r2 : NM) (k4 : Int) : Option ((Int) ⊕ (Int)) :=
 bif (decide (k4 < (f1.Code.length : Int))) then
 (ixO r2.Keep k4).bind λx_x5 =>
 bif (!x_x5) then
 (ixO f1.Code k4).bind λx_x6 =>
 (QY x_x6).bind λr7 =>
 bif (!r7) then
 lft (some 12)
 else
 cnt (i64.wrap (k4 + 1))
 else
 cnt (i64.wrap (k4 + 1))
 else
 lft (some 0)
def Zw (f1 : Nz) (r2 : NM) : Option (Int) :=
 NY (λs=>Zv f1 r2 s) 0
def Vx (f1 : Nz) (r2 : NM) : Option (Int) :=
 (Aab f1 r2.To).bind λr3 =>
 bif (!r3) then
 some 12
 else
 bif ((r2.Keep.length : Int) != (f1.Code.length : Int)) then
 some 12
 else
 Zw f1 r2

def RX (s1 : Int) (to2 : (List Int)) : Option (Int) :=
 bif (decide (s1 < 0)) then
 some s1
 else
 bif (decide (s1 >= (to2.length : Int))) then
 some s1
 else
 (ixO to2 s1).bind λx_x3 =>
 some x_x3

def Uw (x1 : NC) (to2 : (List Int)) : Option (NC) :=
 bif (x1.Op == 15) then
 (RX x1.B to2).bind λr3 =>
 some (NC.mk x1.Op x1.A r3 x1.C x1.Imm)
 else
 bif (x1.Op == 16) then
 (RX x1.A to2).bind λr4 =>
 some (NC.mk x1.Op r4 x1.B x1.C x1.Imm)
 else
 bif (x1.Op == 17) then
 (RX x1.A to2).bind λr5 =>
 (RX x1.B to2).bind λr6 =>
 some (NC.mk x1.Op r5 r6 x1.C x1.Imm)
 else
 some x1

def Aaw (r2 : NM) (k4 : Int) (out3 : List Int) (f1 : Nz) : Option (((List Int) × Int) ⊕ ((List Int))) :=
 (ixO r2.Keep k4).bind λx_x5 =>
 bif (!x_x5) then
 cnt (out3,i64.wrap (k4 + 1))
 else
 (ixO f1.Code k4).bind λx_x6 =>
 (Uw x_x6 r2.To).bind λr7 =>
 (TF r7).bind λr8 =>
 (SJ out3 r8).bind λr9 =>
 (QD r7).bind λr10 =>
 bif r10.2 then
 (RW r9 r10.1).bind λr11 =>
 cnt (r11,i64.wrap (k4 + 1))
 else
 cnt (r9,i64.wrap (k4 + 1))
def Aav (f1 : Nz) (r2 : NM) (out3 : List Int) (k4 : Int) : Option (((List Int) × Int) ⊕ ((List Int))) :=
 bif (decide (k4 < (f1.Code.length : Int))) then
 bif (decide (k4 < (r2.Keep.length : Int))) then
 Aaw r2 k4 out3 f1
 else
 lft (some out3)
 else
 lft (some out3)
def AbJ (f1 : Nz) (r2 : NM) : Option ((List Int)) :=
 NY (λs=>Aav f1 r2 s.1 s.2) (([] : List Int),0)

def WS (s4 : Int) (out5 : List Int) : Option (((List Int) × Int) ⊕ ((List Int))) :=
 cnt (out5,i64.wrap (s4 + 1))
def WR (used2 : (List Int)) (r1 : NM) (s4 : Int) (out3 : List Int) (n6 : Int) (i7 : Int) : Option ((Int × Int) ⊕ (((List Int) × Int) ⊕ ((List Int)))) :=
 bif (decide (i7 < (used2.length : Int))) then
 (ixO used2 i7).bind λx_x8 =>
 (ixO r1.To s4).bind λx_x9 =>
 bif (x_x8 == x_x9) then
 cnt (i7,i64.wrap (i7 + 1))
 else
 cnt (n6,i64.wrap (i7 + 1))
 else
 lft (
 chk (out3.length + ([n6] : List Int).length <= 16777216) <|
 WS s4 (out3 ++ ([n6] : List Int)))
def WQ (r1 : NM) (used2 : (List Int)) (out3 : List Int) (s4 : Int) : Option (((List Int) × Int) ⊕ ((List Int))) :=
 bif (decide (s4 < (r1.To.length : Int))) then
 NY (λs=>WR used2 r1 s4 out3 s.1 s.2) (0,0)
 else
 lft (some out3)
def Xo (r1 : NM) (used2 : (List Int)) : Option ((List Int)) :=
 NY (λs=>WQ r1 used2 s.1 s.2) (([] : List Int),0)

def XV (r1 : NM) (out2 : List Int) (n3 : Int) (k4 : Int) : Option (((List Int) × Int × Int) ⊕ ((List Int))) :=
 bif (decide (k4 < (r1.Keep.length : Int))) then
 chk (out2.length + ([n3] : List Int).length <= 16777216) <|
 (ixO r1.Keep k4).bind λx_x5 =>
 bif x_x5 then
 cnt (out2 ++ ([n3] : List Int),i64.wrap (n3 + 1),i64.wrap (k4 + 1))
 else
 cnt (out2 ++ ([n3] : List Int),n3,i64.wrap (k4 + 1))
 else
 lft (some out2)
def Yy (r1 : NM) : Option ((List Int)) :=
 NY (λs=>XV r1 s.1 s.2.1 s.2.2) (([] : List Int),0,0)

def Zu (i6 : Int) (slots7 : List NV) : Option (((List NV) × Int) ⊕ (Nz × Int)) :=
 cnt (slots7,i64.wrap (i6 + 1))
def Wm (r11 : (List Int)) (f1 : Nz) (out5 : List NV) (x_x9 : NV) (i6 : Int) (s12 : Int) (k13 : Int) : Option ((Int × Int) ⊕ (((List NV) × Int) ⊕ (Nz × Int))) :=
 bif (decide (k13 < (r11.length : Int))) then
 chk (0 <= k13 /\ k13 < r11.length) <|
 ((r11)[k13.toNat]?).bind λl_e14 =>
 (ixO f1.Slots l_e14).bind λx_x15 =>
 cnt (WC s12 x_x15.Align,i64.wrap (k13 + 1))
 else
 lft (
 chk (([] : List NV).length + out5.length <= 16777216) <|
 chk ((([] : List NV) ++ out5).length + ([(NV.mk x_x9.Size s12)] : List NV).length <= 16777216) <|
 Zu i6 ((([] : List NV) ++ out5) ++ ([(NV.mk x_x9.Size s12)] : List NV)))
def Ss (out18 : List NC) (r22 : NC) (k19 : Int) (x23 : Int) (x24 : Int) : Option (((List NC) × Int) ⊕ (Nz × Int)) :=
 chk (([] : List NC).length + out18.length <= 16777216) <|
 chk ((([] : List NC) ++ out18).length + ([(NC.mk r22.Op x23 x24 r22.C r22.Imm)] : List NC).length <= 16777216) <|
 cnt ((([] : List NC) ++ out18) ++ ([(NC.mk r22.Op x23 x24 r22.C r22.Imm)] : List NC),i64.wrap (k19 + 1))
def Wn (f1 : Nz) (r2 : NM) (r16 : (List Int)) (r17 : (List Int)) (out5 : List NV) (out18 : List NC) (k19 : Int) : Option (((List NC) × Int) ⊕ (Nz × Int)) :=
 bif (decide (k19 < (f1.Code.length : Int))) then
 (ixO r2.Keep k19).bind λx_x20 =>
 bif (!x_x20) then
 cnt (out18,i64.wrap (k19 + 1))
 else
 (ixO f1.Code k19).bind λx_x21 =>
 (Uw x_x21 r16).bind λr22 =>
 bif (r22.Op == 20) then
 chk (0 <= r22.A /\ r22.A < r17.length) <|
 ((r17)[r22.A.toNat]?).bind λplaces_e25 =>
 Ss out18 r22 k19 places_e25 r22.B
 else
 bif (r22.Op == 21) then
 chk (0 <= r22.B /\ r22.B < r17.length) <|
 ((r17)[r22.B.toNat]?).bind λplaces_e26 =>
 Ss out18 r22 k19 r22.A places_e26
 else
 Ss out18 r22 k19 r22.A r22.B
 else
 lft (some ((Nz.mk f1.Params out5 out18),0))
def Zt (r4 : (List Int)) (f1 : Nz) (r2 : NM) (out5 : List NV) (i6 : Int) : Option (((List NV) × Int) ⊕ (Nz × Int)) :=
 bif (decide (i6 < (r4.length : Int))) then
 chk (0 <= i6 /\ i6 < r4.length) <|
 ((r4)[i6.toNat]?).bind λused_e8 =>
 (ixO f1.Slots used_e8).bind λx_x9 =>
 chk (0 <= i6 /\ i6 < r4.length) <|
 ((r4)[i6.toNat]?).bind λused_e10 =>
 (Tn r2.To used_e10).bind λr11 =>
 NY (λs=>Wm r11 f1 out5 x_x9 i6 s.1 s.2) (x_x9.Align,0)
 else
 lft (
 (Xo r2 r4).bind λr16 =>
 (Yy r2).bind λr17 =>
 NY (λs=>Wn f1 r2 r16 r17 out5 s.1 s.2) ([],0))
def RG (f1 : Nz) (r2 : NM) : Option (Nz × Int) :=
 (Vx f1 r2).bind λr3 =>
 bif (r3 != 0) then
 some ((Nz.mk 0 ([]) ([])),r3)
 else
 (AbJ f1 r2).bind λr4 =>
 NY (λs=>Zt r4 f1 r2 s.1 s.2) ([],0)

def AbF (f1 : Nz) (l2 : NQ) : Option ((List (List Int)) × Int) :=
 (XA f1 l2 true).bind λr3 =>
 some (r3.1,r3.2)

def Aaz (x_x3 : Nz) (p1 : NN) (n4 : Int) (k5 : Int) : Option ((Int × Int) ⊕ (Int)) :=
 bif (decide (k5 < (x_x3.Code.length : Int))) then
 (ixO x_x3.Code k5).bind λx_x6 =>
 bif (x_x6.Op == 18) then
 (ixO x_x3.Code k5).bind λx_x7 =>
 cnt (WC n4 (i64.wrap (x_x7.A + 1)),i64.wrap (k5 + 1))
 else
 bif (x_x6.Op == 22) then
 (ixO x_x3.Code k5).bind λx_x8 =>
 (ixO p1.Funcs x_x8.A).bind λx_x9 =>
 cnt (WC n4 x_x9.Params,i64.wrap (k5 + 1))
 else
 cnt (n4,i64.wrap (k5 + 1))
 else
 lft (some (i64.wrap (n4 * 16)))
def ZA (p1 : NN) (i2 : Int) : Option (Int) :=
 (ixO p1.Funcs i2).bind λx_x3 =>
 NY (λs=>Aaz x_x3 p1 s.1 s.2) (0,0)

def SG (n1 : Int) : Option (Bool) :=
 bif (n1 == 1) then
 some true
 else
 bif (n1 == 2) then
 some true
 else
 bif (n1 == 4) then
 some true
 else
 bif (n1 == 8) then
 some true
 else
 some (n1 == 16)

def Wc (n1 : Int) (k2 : Int) : Option ((Int) ⊕ (Bool)) :=
 bif (decide (k2 <= 16777216)) then
 bif (n1 == k2) then
 lft (some true)
 else
 cnt (i64.wrap (k2 * 2))
 else
 lft (some false)
def Re (n1 : Int) : Option (Bool) :=
 NY (λs=>Wc n1 s) 1

def Wd (s1 : (List NV)) (i2 : Int) : Option ((Int) ⊕ (Int)) :=
 bif (decide (i2 < (s1.length : Int))) then
 (ixO s1 i2).bind λx_x3 =>
 (SG x_x3.Size).bind λr4 =>
 bif (!r4) then
 lft (some 5)
 else
 (ixO s1 i2).bind λx_x5 =>
 (Re x_x5.Align).bind λr6 =>
 bif (!r6) then
 lft (some 5)
 else
 cnt (i64.wrap (i2 + 1))
 else
 lft (some 0)
def SI (s1 : (List NV)) : Option (Int) :=
 bif (decide ((s1.length : Int) > 512)) then
 some 3
 else
 NY (λs=>Wd s1 s) 0

def Zf (x3 : Int) (_x4 : (List Int)) (_x5 : List Int) (_x6 : Bool) : Option ((Int) ⊕ (Bool)) :=
 cnt (i64.wrap (x3 + 1))
def Ze (g1 : (List (List Int))) (x3 : Int) (n2 : Int) (x7 : (List Int)) (x8 : List Int) (x9 : Bool) (i14 : Int) : Option ((Int) ⊕ ((Int) ⊕ (Bool))) :=
 (ixO g1 x3).bind λx_x15 =>
 bif (decide (i14 < (x_x15.length : Int))) then
 (ixO g1 x3).bind λx_x16 =>
 (ixO x_x16 i14).bind λx_x17 =>
 bif (decide (x_x17 >= n2)) then
 lft (lft (some false))
 else
 (ixO g1 x_x17).bind λx_x18 =>
 (SZ x_x18 x3).bind λr19 =>
 bif (!r19) then
 lft (lft (some false))
 else
 cnt (i64.wrap (i14 + 1))
 else
 lft (Zf x3 x7 x8 x9)
def Zg (g1 : (List (List Int))) (x3 : Int) (n2 : Int) (x7 : (List Int)) (x8 : List Int) (x9 : Bool) : Option ((Int) ⊕ (Bool)) :=
 NY (λs=>Ze g1 x3 n2 x7 x8 x9 s) 0
def Zd (n2 : Int) (g1 : (List (List Int))) (x3 : Int) : Option ((Int) ⊕ (Bool)) :=
 bif (decide (x3 < n2)) then
 (ixO g1 x3).bind λx_x10 =>
 (Xx x_x10).bind λr11 =>
 bif (!r11) then
 lft (some false)
 else
 (ixO g1 x3).bind λx_x12 =>
 (SZ x_x12 x3).bind λr13 =>
 bif r13 then
 lft (some false)
 else
 Zg g1 x3 n2 x_x12 x_x12 r13
 else
 lft (some true)
def ZY (g1 : (List (List Int))) (n2 : Int) : Option (Bool) :=
 bif ((g1.length : Int) != n2) then
 some false
 else
 NY (λs=>Zd n2 g1 s) 0

def RF (n1 : Int) : Option (Bool) :=
 bif (decide (n1 >= 0)) then
 some (decide (n1 <= 2147483647))
 else
 some false

def YA (a1 : NV) (b2 : NV) : Option (Bool) :=
 bif (decide (a1.Align > b2.Align)) then
 some true
 else
 bif (a1.Align == b2.Align) then
 some (decide (a1.Size > b2.Size))
 else
 some false

def Zz (i3 : Int) (out4 : List Int) : Option (((List Int) × Int) ⊕ ((List Int))) :=
 cnt (out4,i64.wrap (i3 + 1))
def TR (out2 : List Int) (i3 : Int) (k5 : Int) : Option (((List Int) × Int) ⊕ ((List Int))) :=
 chk (0 <= k5 /\ k5 <= out2.length) <|
 chk (([] : List Int).length + (out2.take k5.toNat).length <= 16777216) <|
 chk ((([] : List Int) ++ (out2.take k5.toNat)).length + ([i3] : List Int).length <= 16777216) <|
 chk (0 <= k5 /\ k5 <= out2.length) <|
 chk (((([] : List Int) ++ (out2.take k5.toNat)) ++ ([i3] : List Int)).length + (out2.drop k5.toNat).length <= 16777216) <|
 Zz i3 (((([] : List Int) ++ (out2.take k5.toNat)) ++ ([i3] : List Int)) ++ (out2.drop k5.toNat))
def Zy (s1 : (List NV)) (i3 : Int) (out2 : List Int) (k6 : Int) : Option ((Int) ⊕ (((List Int) × Int) ⊕ ((List Int)))) :=
 bif (decide (k6 > 0)) then
 (ixO s1 i3).bind λx_x7 =>
 chk (0 <= (i64.wrap (k6 - 1)) /\ (i64.wrap (k6 - 1)) < out2.length) <|
 ((out2)[(i64.wrap (k6 - 1)).toNat]?).bind λout_e8 =>
 (ixO s1 out_e8).bind λx_x9 =>
 (YA x_x7 x_x9).bind λr10 =>
 bif r10 then
 cnt (i64.wrap (k6 - 1))
 else
 lft (TR out2 i3 k6)
 else
 lft (TR out2 i3 k6)
def Zx (s1 : (List NV)) (out2 : List Int) (i3 : Int) : Option (((List Int) × Int) ⊕ ((List Int))) :=
 bif (decide (i3 < (s1.length : Int))) then
 NY (λs=>Zy s1 i3 out2 s) (out2.length : Int)
 else
 lft (some out2)
def Aaf (s1 : (List NV)) : Option ((List Int)) :=
 NY (λs=>Zx s1 s.1 s.2) (([] : List Int),0)

def SH (a1 : Oa) : Option (Bool) :=
 (RF a1.Off).bind λr2 =>
 bif r2 then
 (RF a1.Size).bind λr3 =>
 bif r3 then
 some (decide ((i64.wrap (a1.Off + a1.Size)) <= 2147483647))
 else
 some false
 else
 some false

def Xv (m5 : Int) : Option (Int × Int) :=
 bif (decide (m5 > 2147483647)) then
 some (0,9)
 else
 some (m5,0)
def AcB (align2 : Int) (n1 : Int) : Option (Int × Int) :=
 chk (align2 ≠ 0) <|
 bif ((n1.tmod align2) != 0) then
 chk (align2 ≠ 0) <|
 Xv (i64.wrap ((i64.wrap (n1 - (n1.tmod align2))) + align2))
 else
 Xv n1
def Acm (n1 : Int) (align2 : Int) : Option (Int × Int) :=
 (RF n1).bind λr3 =>
 bif (!r3) then
 some (0,4)
 else
 (Re align2).bind λr4 =>
 bif (!r4) then
 some (0,4)
 else
 AcB align2 n1

def Xi (a1 : Oa) (b2 : Oa) : Option (Bool) :=
 (SH a1).bind λr3 =>
 bif r3 then
 (SH b2).bind λr4 =>
 bif r4 then
 bif (decide (a1.Size > 0)) then
 bif (decide (b2.Size > 0)) then
 bif (decide (a1.Off < (i64.wrap (b2.Off + b2.Size)))) then
 some (decide (b2.Off < (i64.wrap (a1.Off + a1.Size))))
 else
 some false
 else
 some false
 else
 some false
 else
 some false
 else
 some false

def Aao (used1 : (List Oa)) (x2 : Oa) (i3 : Int) : Option ((Int) ⊕ (Bool)) :=
 bif (decide (i3 < (used1.length : Int))) then
 (ixO used1 i3).bind λx_x4 =>
 (Xi x_x4 x2).bind λr5 =>
 bif r5 then
 lft (some false)
 else
 cnt (i64.wrap (i3 + 1))
 else
 lft (some true)
def Abu (used1 : (List Oa)) (x2 : Oa) : Option (Bool) :=
 NY (λs=>Aao used1 x2 s) 0

def Wb (align4 : Int) (size3 : Int) (used1 : (List Oa)) (found12 : Bool) (i13 : Int) (best11 : Int) (at14 : Int) : Option ((Int × Bool × Int) ⊕ (Int × Int)) :=
 (Acm at14 align4).bind λr17 =>
 bif (r17.2 == 0) then
 (SH (Oa.mk r17.1 size3)).bind λr18 =>
 bif r18 then
 (Abu used1 (Oa.mk r17.1 size3)).bind λr19 =>
 bif r19 then
 bif (!found12) then
 cnt (r17.1,true,i64.wrap (i13 + 1))
 else
 bif (decide (r17.1 < best11)) then
 cnt (r17.1,true,i64.wrap (i13 + 1))
 else
 cnt (best11,found12,i64.wrap (i13 + 1))
 else
 cnt (best11,found12,i64.wrap (i13 + 1))
 else
 cnt (best11,found12,i64.wrap (i13 + 1))
 else
 cnt (best11,found12,i64.wrap (i13 + 1))
def Abs (used1 : (List Oa)) (align4 : Int) (size3 : Int) (from2 : Int) (best11 : Int) (found12 : Bool) (i13 : Int) : Option ((Int × Bool × Int) ⊕ (Int × Int)) :=
 bif (decide (i13 < (used1.length : Int))) then
 bif (decide (i13 >= 0)) then
 (ixO used1 i13).bind λx_x15 =>
 (ixO used1 i13).bind λx_x16 =>
 Wb align4 size3 used1 found12 i13 best11 (WC from2 (i64.wrap (x_x15.Off + x_x16.Size)))
 else
 Wb align4 size3 used1 found12 i13 best11 from2
 else
 lft (
 bif (!found12) then
 some (0,9)
 else
 some (best11,0))
def Abr (used1 : (List Oa)) (align4 : Int) (size3 : Int) (from2 : Int) (i8 : Int) : Option ((Int) ⊕ (Int × Int)) :=
 bif (decide (i8 < (used1.length : Int))) then
 (ixO used1 i8).bind λx_x9 =>
 (SH x_x9).bind λr10 =>
 bif (!r10) then
 lft (some (0,4))
 else
 cnt (i64.wrap (i8 + 1))
 else
 lft (NY (λs=>Abs used1 align4 size3 from2 s.1 s.2.1 s.2.2) (0,false,(-1)))
def Abt (used1 : (List Oa)) (align4 : Int) (size3 : Int) (from2 : Int) : Option (Int × Int) :=
 NY (λs=>Abr used1 align4 size3 from2 s) 0
def AcS (used1 : (List Oa)) (from2 : Int) (size3 : Int) (align4 : Int) : Option (Int × Int) :=
 (RF from2).bind λr5 =>
 bif (!r5) then
 some (0,4)
 else
 (RF size3).bind λr6 =>
 bif (!r6) then
 some (0,4)
 else
 (Re align4).bind λr7 =>
 bif (!r7) then
 some (0,4)
 else
 Abt used1 align4 size3 from2

def Tl (y15 : Int) (off9 : List Int) (s1 : (List NV)) (used14 : List Oa) (x16 : Bool) : Option (((List Oa) × Int) ⊕ (((List Bool) × (List Int) × Int) ⊕ ((List Int) × Int))) :=
 bif x16 then
 chk (0 <= y15 /\ y15 < off9.length) <|
 ((off9)[y15.toNat]?).bind λoff_e20 =>
 (ixO s1 y15).bind λx_x21 =>
 chk (used14.length + ([(Oa.mk off_e20 x_x21.Size)] : List Oa).length <= 16777216) <|
 cnt (used14 ++ ([(Oa.mk off_e20 x_x21.Size)] : List Oa),i64.wrap (y15 + 1))
 else
 cnt (used14,i64.wrap (y15 + 1))
def Ya (i10 : Int) (done11 : List Bool) (off12 : List Int) : Option (((List Bool) × (List Int) × Int) ⊕ ((List Int) × Int)) :=
 cnt (done11,off12,i64.wrap (i10 + 1))
def XX (s1 : (List NV)) (done8 : List Bool) (g2 : (List (List Int))) (order_e13 : Int) (off9 : List Int) (from3 : Int) (i10 : Int) (used14 : List Oa) (y15 : Int) : Option (((List Oa) × Int) ⊕ (((List Bool) × (List Int) × Int) ⊕ ((List Int) × Int))) :=
 bif (decide (y15 < (s1.length : Int))) then
 chk (0 <= y15 /\ y15 < done8.length) <|
 ((done8)[y15.toNat]?).bind λdone_e17 =>
 bif done_e17 then
 (ixO g2 order_e13).bind λx_x18 =>
 (SZ x_x18 y15).bind λr19 =>
 Tl y15 off9 s1 used14 r19
 else
 Tl y15 off9 s1 used14 false
 else
 lft (
 (ixO s1 order_e13).bind λx_x22 =>
 (ixO s1 order_e13).bind λx_x23 =>
 (AcS used14 from3 x_x22.Size x_x23.Align).bind λr24 =>
 bif (r24.2 != 0) then
 lft (some (([] : List Int),r24.2))
 else
 chk (0 <= order_e13 /\ order_e13 < off9.length) <|
 ((off9)[order_e13.toNat]?).bind λ_ =>
 chk (0 <= order_e13 /\ order_e13 < done8.length) <|
 ((done8)[order_e13.toNat]?).bind λ_ =>
 Ya i10 (done8.set order_e13.toNat true) (off9.set order_e13.toNat r24.1))
def XW (r7 : (List Int)) (s1 : (List NV)) (g2 : (List (List Int))) (from3 : Int) (done8 : List Bool) (off9 : List Int) (i10 : Int) : Option (((List Bool) × (List Int) × Int) ⊕ ((List Int) × Int)) :=
 bif (decide (i10 < (r7.length : Int))) then
 chk (0 <= i10 /\ i10 < r7.length) <|
 ((r7)[i10.toNat]?).bind λorder_e13 =>
 NY (λs=>XX s1 done8 g2 order_e13 off9 from3 i10 s.1 s.2) (([] : List Oa),0)
 else
 lft (some (off9,0))
def XY (s1 : (List NV)) (g2 : (List (List Int))) (from3 : Int) : Option ((List Int) × Int) :=
 chk (0 <= (s1.length : Int) /\ (s1.length : Int) <= 16777216) <|
 chk (0 <= (s1.length : Int) /\ (s1.length : Int) <= 16777216) <|
 (Aaf s1).bind λr7 =>
 NY (λs=>XW r7 s1 g2 from3 s.1 s.2.1 s.2.2) (List.replicate (s1.length : Int).toNat false,List.replicate (s1.length : Int).toNat (0 : Int),0)
def Yz (s1 : (List NV)) (g2 : (List (List Int))) (from3 : Int) : Option ((List Int) × Int) :=
 (SI s1).bind λr4 =>
 bif (r4 != 0) then
 some (([] : List Int),r4)
 else
 (ZY g2 (s1.length : Int)).bind λr5 =>
 bif (!r5) then
 some (([] : List Int),4)
 else
 (RF from3).bind λr6 =>
 bif (!r6) then
 some (([] : List Int),4)
 else
 XY s1 g2 from3

def UB (p1 : NN) (i2 : Int) (f3 : Nz) : Option (NN) :=
 chk (([] : List Nz).length + p1.Funcs.length <= 16777216) <|
 chk (0 <= i2 /\ i2 < (([] : List Nz) ++ p1.Funcs).length) <|
 ((([] : List Nz) ++ p1.Funcs)[i2.toNat]?).bind λ_ =>
 some (NN.mk ((([] : List Nz) ++ p1.Funcs).set i2.toNat f3))

def Adw (p1 : NN) (i2 : Int) (f3 : Nz) : Option (NN) :=
 (UB p1 i2 f3).bind λr4 =>
 some r4

def YN (s1 : (List NV)) (a3 : Int) (i4 : Int) : Option ((Int × Int) ⊕ (Int)) :=
 bif (decide (i4 < (s1.length : Int))) then
 (ixO s1 i4).bind λx_x5 =>
 cnt (WC a3 x_x5.Align,i64.wrap (i4 + 1))
 else
 lft (some a3)
def ZR (s1 : (List NV)) : Option (Int) :=
 (SI s1).bind λr2 =>
 bif (r2 != 0) then
 some 16
 else
 NY (λs=>YN s1 s.1 s.2) (16,0)

def YS (p1 : NN) (a2 : Int) (i3 : Int) : Option ((Int × Int) ⊕ (Int)) :=
 bif (decide (i3 < (p1.Funcs.length : Int))) then
 (ixO p1.Funcs i3).bind λx_x4 =>
 (ZR x_x4.Slots).bind λr5 =>
 cnt (WC a2 r5,i64.wrap (i3 + 1))
 else
 lft (some a2)
def ZT (p1 : NN) : Option (Int) :=
 NY (λs=>YS p1 s.1 s.2) (16,0)

def AbL (off2 : (List Int)) (i4 : Int) (s1 : (List NV)) (n3 : Int) : Option ((Int × Int) ⊕ (Int)) :=
 (ixO off2 i4).bind λx_x5 =>
 (ixO s1 i4).bind λx_x6 =>
 cnt (WC n3 (i64.wrap (x_x5 + x_x6.Size)),i64.wrap (i4 + 1))
def AbK (s1 : (List NV)) (off2 : (List Int)) (n3 : Int) (i4 : Int) : Option ((Int × Int) ⊕ (Int)) :=
 bif (decide (i4 < (s1.length : Int))) then
 bif (decide (i4 < (off2.length : Int))) then
 AbL off2 i4 s1 n3
 else
 lft (some n3)
 else
 lft (some n3)
def AcX (s1 : (List NV)) (off2 : (List Int)) : Option (Int) :=
 NY (λs=>AbK s1 off2 s.1 s.2) (0,0)

def Yb (x_x5 : Nz) (off4 : (List Int)) (p1 : NN) (i2 : Int) (align3 : Int) (k6 : Int) : Option ((Int) ⊕ (Qm × Int)) :=
 bif (decide (k6 < (x_x5.Slots.length : Int))) then
 (ixO off4 k6).bind λx_x7 =>
 (ixO x_x5.Slots k6).bind λx_x8 =>
 (SH (Oa.mk x_x7 x_x8.Size)).bind λr9 =>
 bif (!r9) then
 lft (some ((Qm.mk 0 0 ([])),13))
 else
 cnt (i64.wrap (k6 + 1))
 else
 lft (
 (ZA p1 i2).bind λr10 =>
 (AcX x_x5.Slots off4).bind λr11 =>
 (Acm (WC r10 r11) align3).bind λr12 =>
 bif (r12.2 != 0) then
 some ((Qm.mk 0 0 ([])),9)
 else
 bif (decide (r12.1 > 2147483519)) then
 some ((Qm.mk 0 0 ([])),9)
 else
 chk (([] : List Int).length + off4.length <= 16777216) <|
 some ((Qm.mk r10 r12.1 (([] : List Int) ++ off4)),0))
def YB (p1 : NN) (i2 : Int) (align3 : Int) (off4 : (List Int)) : Option (Qm × Int) :=
 (ixO p1.Funcs i2).bind λx_x5 =>
 bif ((off4.length : Int) != (x_x5.Slots.length : Int)) then
 some ((Qm.mk 0 0 ([])),13)
 else
 NY (λs=>Yb x_x5 off4 p1 i2 align3 s) 0

def Xp (p1 : NN) (i2 : Int) : Option (SP) :=
 (ixO p1.Funcs i2).bind λx_x3 =>
 (TJ x_x3).bind λr4 =>
 (ZZ x_x3 r4).bind λr5 =>
 (UA x_x3 r5.1).bind λr6 =>
 (Zq x_x3 r4 r6).bind λr7 =>
 (RG x_x3 (NM.mk r6 r7)).bind λr8 =>
 (TJ r8.1).bind λr9 =>
 (AbF r8.1 r9).bind λr10 =>
 (ZA p1 i2).bind λr11 =>
 (Yz r8.1.Slots r10.1 r11).bind λr12 =>
 bif (r12.2 != 0) then
 some (SP.mk r4 (NM.mk r6 r7) r9 (Qm.mk 0 0 ([])))
 else
 (Adw p1 i2 r8.1).bind λr13 =>
 (ZT p1).bind λr14 =>
 (YB r13 i2 r14 r12.1).bind λr15 =>
 some (SP.mk r4 (NM.mk r6 r7) r9 r15.1)

def Pb (n22 : Int) (c23 : List Int) (c24 : Int) (x25 : List Int) (x26 : List Bool) : Option (((List Int) × Int × (List Int) × (List Bool) × Int) ⊕ (NM × Mk)) :=
 cnt (c23,c24,x25,x26,i64.wrap (n22 - 1))
def PV (r27 : Int × Mk) (x21 : List Bool) (n22 : Int) (x20 : List Int) (c31 : List Int) (c32 : Int) (x33 : Bool) : Option (((List Int) × Int × (List Int) × (List Bool) × Int) ⊕ (NM × Mk)) :=
 bif x33 then
 chk (0 <= r27.1 /\ r27.1 < x21.length) <|
 ((x21)[r27.1.toNat]?).bind λx_e35 =>
 chk (0 <= r27.1 /\ r27.1 < x21.length) <|
 ((x21)[r27.1.toNat]?).bind λ_ =>
 Pb n22 c31 c32 x20 (x21.set r27.1.toNat (!x_e35))
 else
 Pb n22 c31 c32 x20 x21
def TA (r37 : Int × Mk) (x_e39 : Int) (n22 : Int) (r38 : Int × Mk) (x21 : List Bool) (x40 : List Int) (u41 : Int) : Option (((List Int) × Int) ⊕ (((List Int) × Int × (List Int) × (List Bool) × Int) ⊕ (NM × Mk))) :=
 bif (decide (u41 < (x40.length : Int))) then
 chk (0 <= u41 /\ u41 < x40.length) <|
 ((x40)[u41.toNat]?).bind λx_e42 =>
 bif (x_e42 == r37.1) then
 chk (0 <= u41 /\ u41 < x40.length) <|
 ((x40)[u41.toNat]?).bind λ_ =>
 cnt (x40.set u41.toNat x_e39,i64.wrap (u41 + 1))
 else
 cnt (x40,i64.wrap (u41 + 1))
 else
 lft (Pb n22 r38.2.list r38.2.at_ x40 x21)
def QK (x_x4 : Nz) (x20 : List Int) (n22 : Int) (x21 : List Bool) (c44 : List Int) (c45 : Int) (x46 : Bool) : Option (((List Int) × Int × (List Int) × (List Bool) × Int) ⊕ (NM × Mk)) :=
 bif x46 then
 (NK (Mk.mk c44 c45) (x_x4.Slots.length : Int)).bind λr48 =>
 (Sk r48.2).bind λr49 =>
 chk (0 <= r48.1 /\ r48.1 < x20.length) <|
 ((x20)[r48.1.toNat]?).bind λ_ =>
 Pb n22 r49.2.list r49.2.at_ (x20.set r48.1.toNat r49.1) x21
 else
 Pb n22 c44 c45 x20 x21
def QI (x_x4 : Nz) (r27 : Int × Mk) (x21 : List Bool) (n22 : Int) (x20 : List Int) (r28 : Int × Mk) (x29 : Bool) : Option (((List Int) × Int × (List Int) × (List Bool) × Int) ⊕ (NM × Mk)) :=
 bif x29 then
 (ixO x_x4.Code r27.1).bind λx_x30 =>
 bif (x_x30.Op == 16) then
 PV r27 x21 n22 x20 r28.2.list r28.2.at_ true
 else
 bif (x_x30.Op == 17) then
 PV r27 x21 n22 x20 r28.2.list r28.2.at_ true
 else
 (NK r28.2 8).bind λr34 =>
 PV r27 x21 n22 x20 r34.2.list r34.2.at_ (r34.1 == 7)
 else
 bif (r28.1 == 2) then
 bif (decide ((x_x4.Slots.length : Int) > 0)) then
 (NK r28.2 (x_x4.Slots.length : Int)).bind λr37 =>
 (Tf r37.2 x_x4 r37.1).bind λr38 =>
 chk (0 <= r38.1 /\ r38.1 < x20.length) <|
 ((x20)[r38.1.toNat]?).bind λx_e39 =>
 NY (λs=>TA r37 x_e39 n22 r38 x21 s.1 s.2) (x20,0)
 else
 Pb n22 r28.2.list r28.2.at_ x20 x21
 else
 bif (r28.1 == 3) then
 bif (decide ((x_x4.Slots.length : Int) > 0)) then
 (NK r28.2 4).bind λr47 =>
 QK x_x4 x20 n22 x21 r47.2.list r47.2.at_ (r47.1 == 3)
 else
 QK x_x4 x20 n22 x21 r28.2.list r28.2.at_ false
 else
 Pb n22 r28.2.list r28.2.at_ x20 x21
def Tz (x_x4 : Nz) (c18 : List Int) (c19 : Int) (x20 : List Int) (x21 : List Bool) (n22 : Int) : Option (((List Int) × Int × (List Int) × (List Bool) × Int) ⊕ (NM × Mk)) :=
 bif (decide (n22 > 0)) then
 (NK (Mk.mk c18 c19) (x_x4.Code.length : Int)).bind λr27 =>
 (NK r27.2 4).bind λr28 =>
 bif (r28.1 == 0) then
 QI x_x4 r27 x21 n22 x20 r28 (r28.1 == 0)
 else
 QI x_x4 r27 x21 n22 x20 r28 (r28.1 == 1)
 else
 lft (some ((NM.mk x20 x21),(Mk.mk c18 c19)))
def QH (x_x4 : Nz) (c6 : List Int) (c7 : Int) (x8 : List Int) (x9 : List Bool) : Option (NM × Mk) :=
 (NK (Mk.mk c6 c7) 4).bind λr17 =>
 NY (λs=>Tz x_x4 s.1 s.2.1 s.2.2.1 s.2.2.2.1 s.2.2.2.2) (r17.2.list,r17.2.at_,x8,x9,r17.1)
def Ty (x_x4 : Nz) (r10 : Int × Mk) (x11 : List Int) (x14 : List Bool) (k15 : Int) : Option (((List Bool) × Int) ⊕ (NM × Mk)) :=
 bif (decide (k15 < (x14.length : Int))) then
 chk (0 <= k15 /\ k15 < x14.length) <|
 ((x14)[k15.toNat]?).bind λ_ =>
 cnt (x14.set k15.toNat true,i64.wrap (k15 + 1))
 else
 lft (QH x_x4 r10.2.list r10.2.at_ x11 x14)
def Tx (x_x4 : Nz) (r10 : Int × Mk) (r5 : SP) (x11 : List Int) (s12 : Int) : Option (((List Int) × Int) ⊕ (NM × Mk)) :=
 bif (decide (s12 < (x11.length : Int))) then
 chk (0 <= s12 /\ s12 < x11.length) <|
 ((x11)[s12.toNat]?).bind λ_ =>
 cnt (x11.set s12.toNat s12,i64.wrap (s12 + 1))
 else
 lft (NY (λs=>Ty x_x4 r10 x11 s.1 s.2) (([] : List Bool) ++ r5.Rename.Keep,0))
def Tp (c1 : Mk) (p2 : NN) (i3 : Int) : Option (NM × Mk) :=
 (ixO p2.Funcs i3).bind λx_x4 =>
 (Xp p2 i3).bind λr5 =>
 chk (([] : List Int).length + r5.Rename.To.length <= 16777216) <|
 chk (([] : List Bool).length + r5.Rename.Keep.length <= 16777216) <|
 (NK c1 3).bind λr10 =>
 bif (r10.1 == 0) then
 NY (λs=>Tx x_x4 r10 r5 s.1 s.2) (([] : List Int) ++ r5.Rename.To,0)
 else
 QH x_x4 r10.2.list r10.2.at_ (([] : List Int) ++ r5.Rename.To) (([] : List Bool) ++ r5.Rename.Keep)

def TM (r3 : NN × Mk) (r4 : Int × Mk) (l7 : List (List Int)) (x8 : List Int) (x9 : Int) : Option (NN × Int × NQ × NM × Mk) :=
 (Tp (Mk.mk x8 x9) r3.1 r4.1).bind λr13 =>
 some (r3.1,r4.1,(NQ.mk l7),r13.1,r13.2)
def ZO (codes1 : (List Int)) : Option (NN × Int × NQ × NM × Mk) :=
 (AdJ codes1 350).bind λr2 =>
 (SW r2 3 14).bind λr3 =>
 (NK r3.2 (r3.1.Funcs.length : Int)).bind λr4 =>
 (ixO r3.1.Funcs r4.1).bind λx_x5 =>
 (TY r4.2 x_x5).bind λr6 =>
 (NK r6.2 4).bind λr10 =>
 bif (r10.1 == 3) then
 (ixO r3.1.Funcs r4.1).bind λx_x11 =>
 (UI r10.2 x_x11).bind λr12 =>
 TM r3 r4 r12.1.Out r12.2.list r12.2.at_
 else
 TM r3 r4 r6.1.Out r10.2.list r10.2.at_

def VP (l2 : NQ) (k4 : Int) (r6 : Int × Bool) (r3 : NM) (i12 : Int) : Option ((Int) ⊕ (Int × Bool)) :=
 (ixO l2.Out k4).bind λx_x13 =>
 bif (decide (i12 < (x_x13.length : Int))) then
 (ixO l2.Out k4).bind λx_x14 =>
 (ixO x_x14 i12).bind λx_x15 =>
 bif (x_x15 != r6.1) then
 (ixO r3.To x_x15).bind λx_x16 =>
 (ixO r3.To r6.1).bind λx_x17 =>
 bif (x_x16 == x_x17) then
 lft (some (x_x15,true))
 else
 cnt (i64.wrap (i12 + 1))
 else
 cnt (i64.wrap (i12 + 1))
 else
 lft (some (0,false))
def RU (r3 : NM) (k4 : Int) (l2 : NQ) (r6 : Int × Bool) : Option (Int × Bool) :=
 (ixO r3.Keep k4).bind λx_x9 =>
 bif (!x_x9) then
 (ixO l2.Out k4).bind λx_x10 =>
 (SZ x_x10 r6.1).bind λr11 =>
 bif r11 then
 some (r6.1,true)
 else
 some (0,false)
 else
 NY (λs=>VP l2 k4 r6 r3 s) 0
def Wt (f1 : Nz) (l2 : NQ) (r3 : NM) (k4 : Int) : Option (Int × Bool) :=
 (ixO f1.Code k4).bind λx_x5 =>
 (QD x_x5).bind λr6 =>
 bif (!r6.2) then
 some (0,false)
 else
 bif (x_x5.Op == 17) then
 (ixO r3.To x_x5.A).bind λx_x7 =>
 (ixO r3.To x_x5.B).bind λx_x8 =>
 bif (x_x7 == x_x8) then
 some (0,false)
 else
 RU r3 k4 l2 r6
 else
 RU r3 k4 l2 r6

def VN (f1 : Nz) (l2 : NQ) (r3 : NM) (k6 : Int) : Option ((Int) ⊕ (Int × Int × Bool)) :=
 bif (decide (k6 < (f1.Code.length : Int))) then
 (Wt f1 l2 r3 k6).bind λr7 =>
 bif r7.2 then
 lft (some (k6,r7.1,true))
 else
 cnt (i64.wrap (k6 + 1))
 else
 lft (some (0,0,false))
def VO (f1 : Nz) (l2 : NQ) (r3 : NM) : Option (Int × Int × Bool) :=
 NY (λs=>VN f1 l2 r3 s) 0
def Ws (f1 : Nz) (l2 : NQ) (r3 : NM) : Option (Int × Int × Bool) :=
 (Vw f1 l2).bind λr4 =>
 bif (r4 != 0) then
 some (0,0,false)
 else
 (Vx f1 r3).bind λr5 =>
 bif (r5 != 0) then
 some (0,0,false)
 else
 VO f1 l2 r3

def Aad (f1 : Nz) (l2 : NQ) (r3 : NM) : Option (Int) :=
 (Vw f1 l2).bind λr4 =>
 bif (r4 != 0) then
 some r4
 else
 (Ws f1 l2 r3).bind λr5 =>
 bif r5.2.2 then
 some 12
 else
 (Vx f1 r3).bind λr6 =>
 bif (r6 != 0) then
 some 12
 else
 some 0

def Uc (c3 : List Int) (c4 : Int) (l5 : List Int) (n6 : Int) : Option (((List Int) × Int × (List Int) × Int) ⊕ ((List Int) × Mk)) :=
 bif (decide (n6 > 0)) then
 (RK (Mk.mk c3 c4)).bind λr7 =>
 chk (l5.length + ([r7.1] : List Int).length <= 16777216) <|
 cnt (r7.2.list,r7.2.at_,l5 ++ ([r7.1] : List Int),i64.wrap (n6 - 1))
 else
 lft (some (l5,(Mk.mk c3 c4)))
def TX (c1 : Mk) : Option ((List Int) × Mk) :=
 (NK c1 4).bind λr2 =>
 NY (λs=>Uc s.1 s.2.1 s.2.2.1 s.2.2.2) (r2.2.list,r2.2.at_,([] : List Int),r2.1)

def Pc (k1 : Int) (n2 : Int) : Option (Bool) :=
 bif (decide (k1 >= 0)) then
 some (decide (k1 < n2))
 else
 some false

def Po (op1 : Int) (x4 : Bool) : Option (Bool × Bool × Bool × Bool) :=
 bif x4 then
 some (true,false,false,false)
 else
 bif (op1 == 24) then
 some (false,false,false,true)
 else
 some (false,false,false,false)
def Ot (op1 : Int) (x3 : Bool) : Option (Bool × Bool × Bool × Bool) :=
 bif x3 then
 some (true,true,true,false)
 else
 bif (op1 == 13) then
 Po op1 (op1 == 13)
 else
 bif (op1 == 14) then
 Po op1 (op1 == 14)
 else
 bif (op1 == 20) then
 Po op1 (op1 == 20)
 else
 Po op1 (op1 == 22)
def Oi (op1 : Int) (x2 : Bool) : Option (Bool × Bool × Bool × Bool) :=
 bif x2 then
 some (true,true,false,false)
 else
 bif (op1 == 2) then
 Ot op1 (op1 == 2)
 else
 bif (op1 == 3) then
 Ot op1 (op1 == 3)
 else
 bif (op1 == 4) then
 Ot op1 (op1 == 4)
 else
 bif (op1 == 5) then
 Ot op1 (op1 == 5)
 else
 bif (op1 == 6) then
 Ot op1 (op1 == 6)
 else
 bif (op1 == 7) then
 Ot op1 (op1 == 7)
 else
 bif (op1 == 8) then
 Ot op1 (op1 == 8)
 else
 bif (op1 == 9) then
 Ot op1 (op1 == 9)
 else
 bif (op1 == 10) then
 Ot op1 (op1 == 10)
 else
 Ot op1 (op1 == 11)
def OW (op1 : Int) : Option (Bool × Bool × Bool × Bool) :=
 bif (op1 == 0) then
 some (true,false,false,true)
 else
 bif (op1 == 1) then
 Oi op1 (op1 == 1)
 else
 bif (op1 == 12) then
 Oi op1 (op1 == 12)
 else
 bif (op1 == 15) then
 Oi op1 (op1 == 15)
 else
 bif (op1 == 16) then
 Oi op1 (op1 == 16)
 else
 bif (op1 == 17) then
 Oi op1 (op1 == 17)
 else
 bif (op1 == 18) then
 Oi op1 (op1 == 18)
 else
 bif (op1 == 19) then
 Oi op1 (op1 == 19)
 else
 Oi op1 (op1 == 21)

def Pf (n1 : Int) : Option (Bool) :=
 bif (decide (n1 >= 0)) then
 some (decide (n1 < 8))
 else
 some false

def Ok (x3 : NC) (f2 : Nz) (p1 : NN) (x9 : Bool) : Option (Bool) :=
 bif x9 then
 (Pf x3.A).bind λr10 =>
 bif r10 then
 (Pf x3.B).bind λr11 =>
 bif r11 then
 (Pf x3.C).bind λr12 =>
 some r12
 else
 some false
 else
 some false
 else
 bif (x3.Op == 15) then
 (Pf x3.A).bind λr13 =>
 bif r13 then
 (Pc x3.B (f2.Slots.length : Int)).bind λr14 =>
 some r14
 else
 some false
 else
 bif (x3.Op == 16) then
 (Pc x3.A (f2.Slots.length : Int)).bind λr15 =>
 bif r15 then
 (Pf x3.B).bind λr16 =>
 some r16
 else
 some false
 else
 bif (x3.Op == 17) then
 (Pc x3.A (f2.Slots.length : Int)).bind λr17 =>
 bif r17 then
 (Pc x3.B (f2.Slots.length : Int)).bind λr18 =>
 some r18
 else
 some false
 else
 bif (x3.Op == 18) then
 (Pc x3.A 8).bind λr19 =>
 bif r19 then
 (Pf x3.B).bind λr20 =>
 some r20
 else
 some false
 else
 bif (x3.Op == 19) then
 (Pf x3.A).bind λr21 =>
 bif r21 then
 (Pc x3.B f2.Params).bind λr22 =>
 some r22
 else
 some false
 else
 bif (x3.Op == 21) then
 (Pf x3.A).bind λr23 =>
 some r23
 else
 bif (x3.Op == 22) then
 (Pc x3.A (p1.Funcs.length : Int)).bind λr24 =>
 some r24
 else
 some true
def OC (x3 : NC) (f2 : Nz) (p1 : NN) (x6 : Bool) : Option (Bool) :=
 bif x6 then
 (Pf x3.A).bind λr7 =>
 bif r7 then
 (Pf x3.B).bind λr8 =>
 some r8
 else
 some false
 else
 bif (x3.Op == 2) then
 Ok x3 f2 p1 (x3.Op == 2)
 else
 bif (x3.Op == 3) then
 Ok x3 f2 p1 (x3.Op == 3)
 else
 bif (x3.Op == 4) then
 Ok x3 f2 p1 (x3.Op == 4)
 else
 bif (x3.Op == 5) then
 Ok x3 f2 p1 (x3.Op == 5)
 else
 bif (x3.Op == 6) then
 Ok x3 f2 p1 (x3.Op == 6)
 else
 bif (x3.Op == 7) then
 Ok x3 f2 p1 (x3.Op == 7)
 else
 bif (x3.Op == 8) then
 Ok x3 f2 p1 (x3.Op == 8)
 else
 bif (x3.Op == 9) then
 Ok x3 f2 p1 (x3.Op == 9)
 else
 bif (x3.Op == 10) then
 Ok x3 f2 p1 (x3.Op == 10)
 else
 Ok x3 f2 p1 (x3.Op == 11)
def Ou (x3 : NC) (f2 : Nz) (p1 : NN) (x4 : Bool) : Option (Bool) :=
 bif x4 then
 (Pf x3.A).bind λr5 =>
 some r5
 else
 bif (x3.Op == 1) then
 OC x3 f2 p1 (x3.Op == 1)
 else
 OC x3 f2 p1 (x3.Op == 12)
def OX (p1 : NN) (f2 : Nz) (x3 : NC) : Option (Bool) :=
 bif (x3.Op == 0) then
 Ou x3 f2 p1 (x3.Op == 0)
 else
 bif (x3.Op == 13) then
 Ou x3 f2 p1 (x3.Op == 13)
 else
 Ou x3 f2 p1 (x3.Op == 14)

def On (x_x8 : NC) (x_x7 : Nz) : Option (Int) :=
 bif (x_x8.Op == 20) then
 (Pc x_x8.A (x_x7.Code.length : Int)).bind λr14 =>
 bif (!r14) then
 some 6
 else
 bif (x_x8.Op == 21) then
 (Pc x_x8.B (x_x7.Code.length : Int)).bind λr15 =>
 bif (!r15) then
 some 6
 else
 some 0
 else
 some 0
 else
 bif (x_x8.Op == 21) then
 (Pc x_x8.B (x_x7.Code.length : Int)).bind λr16 =>
 bif (!r16) then
 some 6
 else
 some 0
 else
 some 0
def NU (p1 : NN) (x_x7 : Nz) (x_x8 : NC) : Option (Int) :=
 (OX p1 x_x7 x_x8).bind λr11 =>
 bif (!r11) then
 some 4
 else
 bif (x_x8.Op == 17) then
 (ixO x_x7.Slots x_x8.A).bind λx_x12 =>
 (ixO x_x7.Slots x_x8.B).bind λx_x13 =>
 bif (x_x12.Size != x_x13.Size) then
 some 5
 else
 On x_x8 x_x7
 else
 On x_x8 x_x7
def Un (p1 : NN) (i2 : Int) (k3 : Int) : Option (Int) :=
 (ixO p1.Funcs i2).bind λx_x7 =>
 (ixO x_x7.Code k3).bind λx_x8 =>
 (Pc x_x8.Op 25).bind λr9 =>
 bif (!r9) then
 some 4
 else
 (OW x_x8.Op).bind λr10 =>
 bif (!r10.1) then
 bif (x_x8.A != 0) then
 some 2
 else
 bif (!r10.2.1) then
 bif (x_x8.B != 0) then
 some 2
 else
 bif (!r10.2.2.1) then
 bif (x_x8.C != 0) then
 some 2
 else
 bif (!r10.2.2.2) then
 bif (x_x8.Imm != 0) then
 some 2
 else
 NU p1 x_x7 x_x8
 else
 NU p1 x_x7 x_x8
 else
 bif (!r10.2.2.2) then
 bif (x_x8.Imm != 0) then
 some 2
 else
 NU p1 x_x7 x_x8
 else
 NU p1 x_x7 x_x8
 else
 bif (!r10.2.2.1) then
 bif (x_x8.C != 0) then
 some 2
 else
 bif (!r10.2.2.2) then
 bif (x_x8.Imm != 0) then
 some 2
 else
 NU p1 x_x7 x_x8
 else
 NU p1 x_x7 x_x8
 else
 bif (!r10.2.2.2) then
 bif (x_x8.Imm != 0) then
 some 2
 else
 NU p1 x_x7 x_x8
 else
 NU p1 x_x7 x_x8
 else
 bif (!r10.2.1) then
 bif (x_x8.B != 0) then
 some 2
 else
 bif (!r10.2.2.1) then
 bif (x_x8.C != 0) then
 some 2
 else
 bif (!r10.2.2.2) then
 bif (x_x8.Imm != 0) then
 some 2
 else
 NU p1 x_x7 x_x8
 else
 NU p1 x_x7 x_x8
 else
 bif (!r10.2.2.2) then
 bif (x_x8.Imm != 0) then
 some 2
 else
 NU p1 x_x7 x_x8
 else
 NU p1 x_x7 x_x8
 else
 bif (!r10.2.2.1) then
 bif (x_x8.C != 0) then
 some 2
 else
 bif (!r10.2.2.2) then
 bif (x_x8.Imm != 0) then
 some 2
 else
 NU p1 x_x7 x_x8
 else
 NU p1 x_x7 x_x8
 else
 bif (!r10.2.2.2) then
 bif (x_x8.Imm != 0) then
 some 2
 else
 NU p1 x_x7 x_x8
 else
 NU p1 x_x7 x_x8
def Ua (p1 : NN) (i2 : Int) (k3 : Int) : Option (Int) :=
 (Pc i2 (p1.Funcs.length : Int)).bind λr4 =>
 bif (!r4) then
 some 4
 else
 (ixO p1.Funcs i2).bind λx_x5 =>
 (Pc k3 (x_x5.Code.length : Int)).bind λr6 =>
 bif (!r6) then
 some 4
 else
 Un p1 i2 k3

def WG (op1 : Int) : Option (Bool) :=
 bif (op1 == 20) then
 some true
 else
 bif (op1 == 23) then
 some true
 else
 some (op1 == 24)

def Vg (x_x4 : Nz) (p1 : NN) (i2 : Int) (k6 : Int) : Option ((Int) ⊕ (Int)) :=
 bif (decide (k6 < (x_x4.Code.length : Int))) then
 (Ua p1 i2 k6).bind λr7 =>
 bif (r7 != 0) then
 lft (some r7)
 else
 cnt (i64.wrap (k6 + 1))
 else
 lft (
 bif ((x_x4.Code.length : Int) == 0) then
 some 6
 else
 (ixO x_x4.Code (i64.wrap ((x_x4.Code.length : Int) - 1))).bind λx_x8 =>
 (WG x_x8.Op).bind λr9 =>
 bif (!r9) then
 some 6
 else
 some 0)
def Vh (x_x4 : Nz) (p1 : NN) (i2 : Int) : Option (Int) :=
 NY (λs=>Vg x_x4 p1 i2 s) 0
def Vf (p1 : NN) (i2 : Int) : Option (Int) :=
 (Pc i2 (p1.Funcs.length : Int)).bind λr3 =>
 bif (!r3) then
 some 4
 else
 (ixO p1.Funcs i2).bind λx_x4 =>
 bif (decide ((x_x4.Code.length : Int) > 1024)) then
 some 3
 else
 (SI x_x4.Slots).bind λr5 =>
 bif (r5 != 0) then
 some r5
 else
 bif (decide (x_x4.Params < 0)) then
 some 4
 else
 bif (decide (x_x4.Params > 8)) then
 some 4
 else
 Vh x_x4 p1 i2

def YT (p1 : NN) (i3 : Int) : Option ((Int) ⊕ (Int)) :=
 bif (decide (i3 < (p1.Funcs.length : Int))) then
 (Vf p1 i3).bind λr4 =>
 bif (r4 != 0) then
 lft (some r4)
 else
 cnt (i64.wrap (i3 + 1))
 else
 lft (some 0)
def ZU (p1 : NN) : Option (Int) :=
 bif (decide ((p1.Funcs.length : Int) > 80)) then
 some 3
 else
 bif ((p1.Funcs.length : Int) == 0) then
 some 4
 else
 (ixO p1.Funcs 0).bind λx_x2 =>
 bif (x_x2.Params != 0) then
 some 7
 else
 NY (λs=>YT p1 s) 0

def Qk (m1 : NI) (f2 : Int) : Option (NI) :=
 chk (([] : List NB).length + m1.acts.length <= 16777216) <|
 (ixO m1.p.Funcs f2).bind λx_x3 =>
 chk (0 <= (x_x3.Slots.length : Int) /\ (x_x3.Slots.length : Int) <= 16777216) <|
 chk (0 <= (8 : Int) /\ (8 : Int) <= 16777216) <|
 chk ((([] : List NB) ++ m1.acts).length + ([(NB.mk f2 0 (List.replicate (x_x3.Slots.length : Int).toNat (NL.mk (NF.mk (0 : Int) (0 : Int)) false)) (List.replicate (8 : Int).toNat (NL.mk (NF.mk (0 : Int) (0 : Int)) false)))] : List NB).length <= 16777216) <|
 some (NI.mk m1.p m1.regs ((([] : List NB) ++ m1.acts) ++ ([(NB.mk f2 0 (List.replicate (x_x3.Slots.length : Int).toNat (NL.mk (NF.mk (0 : Int) (0 : Int)) false)) (List.replicate (8 : Int).toNat (NL.mk (NF.mk (0 : Int) (0 : Int)) false)))] : List NB)) m1.input (WC m1.deep (((([] : List NB) ++ m1.acts) ++ ([(NB.mk f2 0 (List.replicate (x_x3.Slots.length : Int).toNat (NL.mk (NF.mk (0 : Int) (0 : Int)) false)) (List.replicate (8 : Int).toNat (NL.mk (NF.mk (0 : Int) (0 : Int)) false)))] : List NB)).length : Int)) m1.done m1.out)

def Qj (m1 : NI) (kind2 : Int) : Option (NI) :=
 some (NI.mk m1.p m1.regs m1.acts m1.input m1.deep true (Oz.mk kind2 m1.out.Code m1.out.Result m1.out.Trace m1.out.Steps))

def PD (m1 : NI) (c2 : NL) : Option (NF × NI) :=
 bif (!c2.ok) then
 (Qj m1 3).bind λr3 =>
 some (c2.v,r3)
 else
 some (c2.v,m1)

def YL (k4 : Int) (out3 : List Int) (x1 : NF) : Option (((List Int) × Int) ⊕ ((List Int))) :=
 bif (decide (k4 < 8)) then
 chk (0 <= (i64.wrap (8 * k4))) <|
 chk (out3.length + ([u8.wrap (x1.Lo.fdiv (2 ^ (Nat.min (i64.wrap (8 * k4)).toNat u64.bits)))] : List Int).length <= 16777216) <|
 cnt (out3 ++ ([u8.wrap (x1.Lo.fdiv (2 ^ (Nat.min (i64.wrap (8 * k4)).toNat u64.bits)))] : List Int),i64.wrap (k4 + 1))
 else
 chk (0 <= (i64.wrap (8 * (i64.wrap (k4 - 8))))) <|
 chk (out3.length + ([u8.wrap (x1.Hi.fdiv (2 ^ (Nat.min (i64.wrap (8 * (i64.wrap (k4 - 8)))).toNat u64.bits)))] : List Int).length <= 16777216) <|
 cnt (out3 ++ ([u8.wrap (x1.Hi.fdiv (2 ^ (Nat.min (i64.wrap (8 * (i64.wrap (k4 - 8)))).toNat u64.bits)))] : List Int),i64.wrap (k4 + 1))
def YK (size2 : Int) (x1 : NF) (out3 : List Int) (k4 : Int) : Option (((List Int) × Int) ⊕ ((List Int))) :=
 (SG size2).bind λr5 =>
 bif r5 then
 bif (decide (k4 < size2)) then
 YL k4 out3 x1
 else
 lft (some out3)
 else
 lft (some out3)
def ZQ (x1 : NF) (size2 : Int) : Option ((List Int)) :=
 NY (λs=>YK size2 x1 s.1 s.2) (([] : List Int),0)

def Vb (k4 : Int) (b1 : (List Int)) (x2 : Int) (x3 : Int) : Option ((Int × Int × Int) ⊕ (NF)) :=
 bif (decide (k4 < 8)) then
 (ixO b1 k4).bind λx_x5 =>
 chk (0 <= (i64.wrap (8 * k4))) <|
 cnt (u64.wrap ((BitVec.ofInt u64.bits x2 ||| BitVec.ofInt u64.bits (u64.wrap ((u64.wrap (x_x5)) * 2 ^ (Nat.min (i64.wrap (8 * k4)).toNat u64.bits)))).toNat),x3,i64.wrap (k4 + 1))
 else
 (ixO b1 k4).bind λx_x6 =>
 chk (0 <= (i64.wrap (8 * (i64.wrap (k4 - 8))))) <|
 cnt (x2,u64.wrap ((BitVec.ofInt u64.bits x3 ||| BitVec.ofInt u64.bits (u64.wrap ((u64.wrap (x_x6)) * 2 ^ (Nat.min (i64.wrap (8 * (i64.wrap (k4 - 8)))).toNat u64.bits)))).toNat),i64.wrap (k4 + 1))
def Va (b1 : (List Int)) (x2 : Int) (x3 : Int) (k4 : Int) : Option ((Int × Int × Int) ⊕ (NF)) :=
 bif (decide (k4 < (b1.length : Int))) then
 bif (decide (k4 < 16)) then
 Vb k4 b1 x2 x3
 else
 lft (some (NF.mk x2 x3))
 else
 lft (some (NF.mk x2 x3))
def UZ (b1 : (List Int)) : Option (NF) :=
 NY (λs=>Va b1 s.1 s.2.1 s.2.2) (0,0,0)

def TN (x1 : NF) (size2 : Int) : Option (NF) :=
 (ZQ x1 size2).bind λr3 =>
 (UZ r3).bind λr4 =>
 some r4

def Ow (m1 : NI) (x_x3 : NB) (m5 : NI) (a6 : List NL) (a7 : List NL) : Option (Bool × NI) :=
 chk (([] : List NB).length + m5.acts.length <= 16777216) <|
 chk (0 <= (i64.wrap ((m1.acts.length : Int) - 1)) /\ (i64.wrap ((m1.acts.length : Int) - 1)) < (([] : List NB) ++ m5.acts).length) <|
 ((([] : List NB) ++ m5.acts)[(i64.wrap ((m1.acts.length : Int) - 1)).toNat]?).bind λ_ =>
 some (true,(NI.mk m5.p m5.regs ((([] : List NB) ++ m5.acts).set ((i64.wrap ((m1.acts.length : Int) - 1)).toNat) (NB.mk x_x3.f x_x3.at_ a6 a7)) m5.input m5.deep m5.done m5.out))
def Ov (m1 : NI) (x2 : NC) : Option (Bool × NI) :=
 (ixO m1.acts (i64.wrap ((m1.acts.length : Int) - 1))).bind λx_x3 =>
 (ixO m1.p.Funcs x_x3.f).bind λx_x4 =>
 bif (x2.Op == 15) then
 (ixO x_x3.slots x2.B).bind λx_x8 =>
 (PD m1 x_x8).bind λr9 =>
 bif (!r9.2.done) then
 chk (0 <= x2.A /\ x2.A < 8) <|
 ((r9.2.regs.toList)[x2.A.toNat]?).bind λ_ =>
 Ow m1 x_x3 (NI.mk r9.2.p (OB.mk (NF.mk ((r9.2.regs.set x2.A.toNat r9.1).a0.Lo) ((r9.2.regs.set x2.A.toNat r9.1).a0.Hi)) (NF.mk ((r9.2.regs.set x2.A.toNat r9.1).a1.Lo) ((r9.2.regs.set x2.A.toNat r9.1).a1.Hi)) (NF.mk ((r9.2.regs.set x2.A.toNat r9.1).a2.Lo) ((r9.2.regs.set x2.A.toNat r9.1).a2.Hi)) (NF.mk ((r9.2.regs.set x2.A.toNat r9.1).a3.Lo) ((r9.2.regs.set x2.A.toNat r9.1).a3.Hi)) (NF.mk ((r9.2.regs.set x2.A.toNat r9.1).a4.Lo) ((r9.2.regs.set x2.A.toNat r9.1).a4.Hi)) (NF.mk ((r9.2.regs.set x2.A.toNat r9.1).a5.Lo) ((r9.2.regs.set x2.A.toNat r9.1).a5.Hi)) (NF.mk ((r9.2.regs.set x2.A.toNat r9.1).a6.Lo) ((r9.2.regs.set x2.A.toNat r9.1).a6.Hi)) (NF.mk ((r9.2.regs.set x2.A.toNat r9.1).a7.Lo) ((r9.2.regs.set x2.A.toNat r9.1).a7.Hi))) r9.2.acts r9.2.input r9.2.deep r9.2.done r9.2.out) x_x3.slots x_x3.args
 else
 Ow m1 x_x3 r9.2 x_x3.slots x_x3.args
 else
 bif (x2.Op == 16) then
 chk (([] : List NL).length + x_x3.slots.length <= 16777216) <|
 chk (0 <= x2.B /\ x2.B < 8) <|
 ((m1.regs.toList)[x2.B.toNat]?).bind λe11 =>
 (ixO x_x4.Slots x2.A).bind λx_x12 =>
 (TN e11 x_x12.Size).bind λr13 =>
 chk (0 <= x2.A /\ x2.A < (([] : List NL) ++ x_x3.slots).length) <|
 ((([] : List NL) ++ x_x3.slots)[x2.A.toNat]?).bind λ_ =>
 Ow m1 x_x3 m1 ((([] : List NL) ++ x_x3.slots).set x2.A.toNat (NL.mk r13 true)) x_x3.args
 else
 bif (x2.Op == 17) then
 (ixO x_x3.slots x2.B).bind λx_x15 =>
 (PD m1 x_x15).bind λr16 =>
 bif (!r16.2.done) then
 chk (([] : List NL).length + x_x3.slots.length <= 16777216) <|
 chk (0 <= x2.A /\ x2.A < (([] : List NL) ++ x_x3.slots).length) <|
 ((([] : List NL) ++ x_x3.slots)[x2.A.toNat]?).bind λ_ =>
 Ow m1 x_x3 r16.2 ((([] : List NL) ++ x_x3.slots).set x2.A.toNat (NL.mk r16.1 true)) x_x3.args
 else
 Ow m1 x_x3 r16.2 x_x3.slots x_x3.args
 else
 bif (x2.Op == 18) then
 chk (([] : List NL).length + x_x3.args.length <= 16777216) <|
 chk (0 <= x2.B /\ x2.B < 8) <|
 ((m1.regs.toList)[x2.B.toNat]?).bind λe18 =>
 chk (0 <= x2.A /\ x2.A < (([] : List NL) ++ x_x3.args).length) <|
 ((([] : List NL) ++ x_x3.args)[x2.A.toNat]?).bind λ_ =>
 Ow m1 x_x3 m1 x_x3.slots ((([] : List NL) ++ x_x3.args).set x2.A.toNat (NL.mk e18 true))
 else
 bif (x2.Op == 19) then
 (ixO m1.acts (i64.wrap ((i64.wrap ((m1.acts.length : Int) - 1)) - 1))).bind λx_x20 =>
 (ixO x_x20.args x2.B).bind λx_x21 =>
 (PD m1 x_x21).bind λr22 =>
 bif (!r22.2.done) then
 chk (0 <= x2.A /\ x2.A < 8) <|
 ((r22.2.regs.toList)[x2.A.toNat]?).bind λ_ =>
 Ow m1 x_x3 (NI.mk r22.2.p (OB.mk (NF.mk ((r22.2.regs.set x2.A.toNat r22.1).a0.Lo) ((r22.2.regs.set x2.A.toNat r22.1).a0.Hi)) (NF.mk ((r22.2.regs.set x2.A.toNat r22.1).a1.Lo) ((r22.2.regs.set x2.A.toNat r22.1).a1.Hi)) (NF.mk ((r22.2.regs.set x2.A.toNat r22.1).a2.Lo) ((r22.2.regs.set x2.A.toNat r22.1).a2.Hi)) (NF.mk ((r22.2.regs.set x2.A.toNat r22.1).a3.Lo) ((r22.2.regs.set x2.A.toNat r22.1).a3.Hi)) (NF.mk ((r22.2.regs.set x2.A.toNat r22.1).a4.Lo) ((r22.2.regs.set x2.A.toNat r22.1).a4.Hi)) (NF.mk ((r22.2.regs.set x2.A.toNat r22.1).a5.Lo) ((r22.2.regs.set x2.A.toNat r22.1).a5.Hi)) (NF.mk ((r22.2.regs.set x2.A.toNat r22.1).a6.Lo) ((r22.2.regs.set x2.A.toNat r22.1).a6.Hi)) (NF.mk ((r22.2.regs.set x2.A.toNat r22.1).a7.Lo) ((r22.2.regs.set x2.A.toNat r22.1).a7.Hi))) r22.2.acts r22.2.input r22.2.deep r22.2.done r22.2.out) x_x3.slots x_x3.args
 else
 Ow m1 x_x3 r22.2 x_x3.slots x_x3.args
 else
 some (false,m1)

def Adv (x1 : NF) (y2 : NF) : Option (NF) :=
 some (NF.mk x1.Lo y2.Lo)

def Adu (x1 : NF) : Option (NF) :=
 some (NF.mk x1.Hi 0)

def Ww (x1 : NF) (k2 : Int) : Option (Int) :=
 bif (decide (k2 < 64)) then
 chk (0 <= k2) <|
 some (u64.wrap ((BitVec.ofInt u64.bits (x1.Lo.fdiv (2 ^ (Nat.min k2.toNat u64.bits))) &&& BitVec.ofInt u64.bits 1).toNat))
 else
 chk (0 <= (i64.wrap (k2 - 64))) <|
 some (u64.wrap ((BitVec.ofInt u64.bits (x1.Hi.fdiv (2 ^ (Nat.min (i64.wrap (k2 - 64)).toNat u64.bits))) &&& BitVec.ofInt u64.bits 1).toNat))

def AaU (x1 : NF) (k2 : Int) : Option (NF) :=
 bif (decide (k2 < 64)) then
 chk (0 <= k2) <|
 some (NF.mk (u64.wrap ((BitVec.ofInt u64.bits x1.Lo ||| BitVec.ofInt u64.bits (u64.wrap (1 * 2 ^ (Nat.min k2.toNat u64.bits)))).toNat)) x1.Hi)
 else
 chk (0 <= (i64.wrap (k2 - 64))) <|
 some (NF.mk x1.Lo (u64.wrap ((BitVec.ofInt u64.bits x1.Hi ||| BitVec.ofInt u64.bits (u64.wrap (1 * 2 ^ (Nat.min (i64.wrap (k2 - 64)).toNat u64.bits)))).toNat)))

def Abo (x1 : NF) (y2 : NF) (out3 : Int) (out4 : Int) (carry5 : Int) (k6 : Int) : Option ((Int × Int × Int × Int) ⊕ (NF)) :=
 bif (decide (k6 < 128)) then
 (Ww x1 k6).bind λr7 =>
 (Ww y2 k6).bind λr8 =>
 bif ((u64.wrap ((BitVec.ofInt u64.bits (u64.wrap ((u64.wrap (r7 + r8)) + carry5)) &&& BitVec.ofInt u64.bits 1).toNat)) == 1) then
 (AaU (NF.mk out3 out4) k6).bind λr9 =>
 cnt (r9.Lo,r9.Hi,(u64.wrap ((u64.wrap (r7 + r8)) + carry5)).fdiv (2 ^ (Nat.min (1 : Int).toNat u64.bits)),i64.wrap (k6 + 1))
 else
 cnt (out3,out4,(u64.wrap ((u64.wrap (r7 + r8)) + carry5)).fdiv (2 ^ (Nat.min (1 : Int).toNat u64.bits)),i64.wrap (k6 + 1))
 else
 lft (some (NF.mk out3 out4))
def Wv (x1 : NF) (y2 : NF) : Option (NF) :=
 NY (λs=>Abo x1 y2 s.1 s.2.1 s.2.2.1 s.2.2.2) (0,0,0,0)

def AaS (x1 : NF) (y2 : NF) : Option (NF) :=
 (Wv x1 (NF.mk (u64.wrap (((BitVec.ofInt u64.bits (if u64.signed then -1 else u64.max) ^^^ BitVec.ofInt u64.bits y2.Lo).toNat : Int))) (u64.wrap (((BitVec.ofInt u64.bits (if u64.signed then -1 else u64.max) ^^^ BitVec.ofInt u64.bits y2.Hi).toNat : Int))))).bind λr3 =>
 (Wv r3 (NF.mk 1 0)).bind λr4 =>
 some r4

def Xu (x1 : NF) : Option (NF) :=
 some (NF.mk (u64.wrap (x1.Lo * 2 ^ (Nat.min (1 : Int).toNat u64.bits))) (u64.wrap ((BitVec.ofInt u64.bits (u64.wrap (x1.Hi * 2 ^ (Nat.min (1 : Int).toNat u64.bits))) ||| BitVec.ofInt u64.bits (x1.Lo.fdiv (2 ^ (Nat.min (63 : Int).toNat u64.bits)))).toNat)))

def Abq (y2 : NF) (x1 : NF) (out3 : Int) (out4 : Int) (k5 : Int) : Option ((Int × Int × Int) ⊕ (NF)) :=
 bif (decide (k5 >= 0)) then
 (Xu (NF.mk out3 out4)).bind λr6 =>
 (Ww y2 k5).bind λr7 =>
 bif (r7 == 1) then
 (Wv r6 x1).bind λr8 =>
 cnt (r8.Lo,r8.Hi,i64.wrap (k5 - 1))
 else
 cnt (r6.Lo,r6.Hi,i64.wrap (k5 - 1))
 else
 lft (some (NF.mk out3 out4))
def AcR (x1 : NF) (y2 : NF) : Option (NF) :=
 NY (λs=>Abq y2 x1 s.1 s.2.1 s.2.2) (0,0,127)

def YM (x1 : NF) (y2 : NF) : Option (Bool) :=
 bif (decide (x1.Hi < y2.Hi)) then
 some true
 else
 bif (x1.Hi == y2.Hi) then
 some (decide (x1.Lo < y2.Lo))
 else
 some false

def VY (r8 : NF) (r9 : Int) (y2 : NF) (out3 : Int) (out4 : Int) (k7 : Int) (x10 : Bool) : Option ((Int × Int × Int × Int × Int) ⊕ (NF)) :=
 bif x10 then
 (AaS (NF.mk (u64.wrap ((BitVec.ofInt u64.bits r8.Lo ||| BitVec.ofInt u64.bits r9).toNat)) r8.Hi) y2).bind λr12 =>
 (AaU (NF.mk out3 out4) k7).bind λr13 =>
 cnt (r13.Lo,r13.Hi,r12.Lo,r12.Hi,i64.wrap (k7 - 1))
 else
 cnt (out3,out4,u64.wrap ((BitVec.ofInt u64.bits r8.Lo ||| BitVec.ofInt u64.bits r9).toNat),r8.Hi,i64.wrap (k7 - 1))
def Abp (x1 : NF) (y2 : NF) (out3 : Int) (out4 : Int) (rest5 : Int) (rest6 : Int) (k7 : Int) : Option ((Int × Int × Int × Int × Int) ⊕ (NF)) :=
 bif (decide (k7 >= 0)) then
 (Xu (NF.mk rest5 rest6)).bind λr8 =>
 (Ww x1 k7).bind λr9 =>
 bif ((rest6.fdiv (2 ^ (Nat.min (63 : Int).toNat u64.bits))) == 1) then
 VY r8 r9 y2 out3 out4 k7 true
 else
 (YM (NF.mk (u64.wrap ((BitVec.ofInt u64.bits r8.Lo ||| BitVec.ofInt u64.bits r9).toNat)) r8.Hi) y2).bind λr11 =>
 VY r8 r9 y2 out3 out4 k7 (!r11)
 else
 lft (some (NF.mk out3 out4))
def AaR (x1 : NF) (y2 : NF) : Option (NF) :=
 NY (λs=>Abp x1 y2 s.1 s.2.1 s.2.2.1 s.2.2.2.1 s.2.2.2.2) (0,0,0,0,127)

def Xt (b1 : Bool) : Option (NF) :=
 bif b1 then
 some (NF.mk 1 0)
 else
 some (NF.mk 0 0)

def ZP (op1 : Int) (x2 : NF) (y3 : NF) : Option (NF × Bool) :=
 bif (op1 == 2) then
 (Wv x2 y3).bind λr4 =>
 some (r4,true)
 else
 bif (op1 == 3) then
 (AaS x2 y3).bind λr5 =>
 some (r5,true)
 else
 bif (op1 == 4) then
 (AcR x2 y3).bind λr6 =>
 some (r6,true)
 else
 bif (op1 == 5) then
 bif (y3.Lo == 0) then
 bif (y3.Hi == 0) then
 some ((NF.mk 0 0),false)
 else
 (AaR x2 y3).bind λr7 =>
 some (r7,true)
 else
 (AaR x2 y3).bind λr8 =>
 some (r8,true)
 else
 bif (op1 == 6) then
 some ((NF.mk (u64.wrap ((BitVec.ofInt u64.bits x2.Lo &&& BitVec.ofInt u64.bits y3.Lo).toNat)) (u64.wrap ((BitVec.ofInt u64.bits x2.Hi &&& BitVec.ofInt u64.bits y3.Hi).toNat))),true)
 else
 bif (op1 == 7) then
 some ((NF.mk (u64.wrap ((BitVec.ofInt u64.bits x2.Lo ||| BitVec.ofInt u64.bits y3.Lo).toNat)) (u64.wrap ((BitVec.ofInt u64.bits x2.Hi ||| BitVec.ofInt u64.bits y3.Hi).toNat))),true)
 else
 bif (op1 == 8) then
 some ((NF.mk (u64.wrap ((BitVec.ofInt u64.bits x2.Lo ^^^ BitVec.ofInt u64.bits y3.Lo).toNat)) (u64.wrap ((BitVec.ofInt u64.bits x2.Hi ^^^ BitVec.ofInt u64.bits y3.Hi).toNat))),true)
 else
 bif (op1 == 9) then
 (YM x2 y3).bind λr9 =>
 (Xt r9).bind λr10 =>
 some (r10,true)
 else
 bif (op1 == 10) then
 (Xt ((x2.Lo == y3.Lo) && ((x2.Hi == y3.Hi) && true))).bind λr11 =>
 some (r11,true)
 else
 some ((NF.mk 0 0),false)

def Xy (x1 : NC) (r2 : OB) (input3 : (List Int)) (trace4 : (List NF)) : Option (OB × (List Int) × (List NF) × Bool) :=
 bif (x1.Op == 0) then
 chk (0 <= x1.A /\ x1.A < 8) <|
 ((r2.toList)[x1.A.toNat]?).bind λ_ =>
 some ((r2.set x1.A.toNat (NF.mk x1.Imm 0)),input3,trace4,false)
 else
 bif (x1.Op == 1) then
 chk (0 <= x1.B /\ x1.B < 8) <|
 ((r2.toList)[x1.B.toNat]?).bind λe6 =>
 chk (0 <= x1.A /\ x1.A < 8) <|
 ((r2.toList)[x1.A.toNat]?).bind λ_ =>
 some ((r2.set x1.A.toNat e6),input3,trace4,false)
 else
 bif (x1.Op == 11) then
 chk (0 <= x1.B /\ x1.B < 8) <|
 ((r2.toList)[x1.B.toNat]?).bind λe8 =>
 chk (0 <= x1.C /\ x1.C < 8) <|
 ((r2.toList)[x1.C.toNat]?).bind λe9 =>
 (Adv e8 e9).bind λr10 =>
 chk (0 <= x1.A /\ x1.A < 8) <|
 ((r2.toList)[x1.A.toNat]?).bind λ_ =>
 some ((r2.set x1.A.toNat r10),input3,trace4,false)
 else
 bif (x1.Op == 12) then
 chk (0 <= x1.B /\ x1.B < 8) <|
 ((r2.toList)[x1.B.toNat]?).bind λe12 =>
 (Adu e12).bind λr13 =>
 chk (0 <= x1.A /\ x1.A < 8) <|
 ((r2.toList)[x1.A.toNat]?).bind λ_ =>
 some ((r2.set x1.A.toNat r13),input3,trace4,false)
 else
 bif (x1.Op == 13) then
 chk (0 <= x1.A /\ x1.A < 8) <|
 ((r2.toList)[x1.A.toNat]?).bind λ_ =>
 bif (decide ((input3.length : Int) > 0)) then
 (ixO input3 0).bind λx_x16 =>
 chk (0 <= x1.A /\ x1.A < 8) <|
 (((r2.set x1.A.toNat (NF.mk 0 0)).toList)[x1.A.toNat]?).bind λ_ =>
 chk (0 <= (1 : Int) /\ (1 : Int) <= input3.length) <|
 some (((r2.set x1.A.toNat (NF.mk 0 0)).set x1.A.toNat (NF.mk x_x16 0)),input3.drop (1 : Int).toNat,trace4,false)
 else
 some ((r2.set x1.A.toNat (NF.mk 0 0)),input3,trace4,false)
 else
 bif (x1.Op == 14) then
 chk (([] : List NF).length + trace4.length <= 16777216) <|
 chk (0 <= x1.A /\ x1.A < 8) <|
 ((r2.toList)[x1.A.toNat]?).bind λe18 =>
 chk ((([] : List NF) ++ trace4).length + ([e18] : List NF).length <= 16777216) <|
 some (r2,input3,(([] : List NF) ++ trace4) ++ ([e18] : List NF),false)
 else
 chk (0 <= x1.B /\ x1.B < 8) <|
 ((r2.toList)[x1.B.toNat]?).bind λe19 =>
 chk (0 <= x1.C /\ x1.C < 8) <|
 ((r2.toList)[x1.C.toNat]?).bind λe20 =>
 (ZP x1.Op e19 e20).bind λr21 =>
 bif (!r21.2) then
 some (r2,input3,trace4,true)
 else
 chk (0 <= x1.A /\ x1.A < 8) <|
 ((r2.toList)[x1.A.toNat]?).bind λ_ =>
 some ((r2.set x1.A.toNat r21.1),input3,trace4,false)

def OJ (m1 : NI) (l_e2 : NB) (a5 : Int) (x_x4 : NC) (x8 : Bool) : Option (NI) :=
 bif x8 then
 some (NI.mk m1.p m1.regs ((([] : List NB) ++ m1.acts).set ((i64.wrap ((m1.acts.length : Int) - 1)).toNat) (NB.mk l_e2.f a5 l_e2.slots l_e2.args)) m1.input m1.deep m1.done (Oz.mk m1.out.Kind m1.out.Code m1.out.Result m1.out.Trace (i64.wrap (m1.out.Steps + 1))))
 else
 bif (x_x4.Op == 22) then
 (Qk (NI.mk m1.p m1.regs ((([] : List NB) ++ m1.acts).set ((i64.wrap ((m1.acts.length : Int) - 1)).toNat) (NB.mk l_e2.f a5 l_e2.slots l_e2.args)) m1.input m1.deep m1.done (Oz.mk m1.out.Kind m1.out.Code m1.out.Result m1.out.Trace (i64.wrap (m1.out.Steps + 1)))) x_x4.A).bind λr9 =>
 some r9
 else
 bif (x_x4.Op == 23) then
 chk (0 <= (i64.wrap ((m1.acts.length : Int) - 1)) /\ (i64.wrap ((m1.acts.length : Int) - 1)) <= ((([] : List NB) ++ m1.acts).set ((i64.wrap ((m1.acts.length : Int) - 1)).toNat) (NB.mk l_e2.f a5 l_e2.slots l_e2.args)).length) <|
 chk (([] : List NB).length + (((([] : List NB) ++ m1.acts).set ((i64.wrap ((m1.acts.length : Int) - 1)).toNat) (NB.mk l_e2.f a5 l_e2.slots l_e2.args)).take (i64.wrap ((m1.acts.length : Int) - 1)).toNat).length <= 16777216) <|
 bif ((i64.wrap ((m1.acts.length : Int) - 1)) == 0) then
 (Qj (NI.mk m1.p m1.regs (([] : List NB) ++ (((([] : List NB) ++ m1.acts).set ((i64.wrap ((m1.acts.length : Int) - 1)).toNat) (NB.mk l_e2.f a5 l_e2.slots l_e2.args)).take (i64.wrap ((m1.acts.length : Int) - 1)).toNat)) m1.input m1.deep m1.done (Oz.mk m1.out.Kind m1.out.Code m1.out.Result m1.out.Trace (i64.wrap (m1.out.Steps + 1)))) 0).bind λr10 =>
 some (NI.mk r10.p r10.regs r10.acts r10.input r10.deep r10.done (Oz.mk r10.out.Kind r10.out.Code r10.regs.a0 r10.out.Trace r10.out.Steps))
 else
 some (NI.mk m1.p m1.regs (([] : List NB) ++ (((([] : List NB) ++ m1.acts).set ((i64.wrap ((m1.acts.length : Int) - 1)).toNat) (NB.mk l_e2.f a5 l_e2.slots l_e2.args)).take (i64.wrap ((m1.acts.length : Int) - 1)).toNat)) m1.input m1.deep m1.done (Oz.mk m1.out.Kind m1.out.Code m1.out.Result m1.out.Trace (i64.wrap (m1.out.Steps + 1))))
 else
 bif (x_x4.Op == 24) then
 (Qj (NI.mk m1.p m1.regs ((([] : List NB) ++ m1.acts).set ((i64.wrap ((m1.acts.length : Int) - 1)).toNat) (NB.mk l_e2.f a5 l_e2.slots l_e2.args)) m1.input m1.deep m1.done (Oz.mk m1.out.Kind m1.out.Code m1.out.Result m1.out.Trace (i64.wrap (m1.out.Steps + 1)))) 1).bind λr11 =>
 some (NI.mk r11.p r11.regs r11.acts r11.input r11.deep r11.done (Oz.mk r11.out.Kind x_x4.Imm r11.out.Result r11.out.Trace r11.out.Steps))
 else
 (Ov (NI.mk m1.p m1.regs ((([] : List NB) ++ m1.acts).set ((i64.wrap ((m1.acts.length : Int) - 1)).toNat) (NB.mk l_e2.f a5 l_e2.slots l_e2.args)) m1.input m1.deep m1.done (Oz.mk m1.out.Kind m1.out.Code m1.out.Result m1.out.Trace (i64.wrap (m1.out.Steps + 1)))) x_x4).bind λr12 =>
 bif r12.1 then
 some r12.2
 else
 (Xy x_x4 r12.2.regs r12.2.input r12.2.out.Trace).bind λr13 =>
 bif r13.2.2.2 then
 (Qj (NI.mk r12.2.p r13.1 r12.2.acts r13.2.1 r12.2.deep r12.2.done (Oz.mk r12.2.out.Kind r12.2.out.Code r12.2.out.Result r13.2.2.1 r12.2.out.Steps)) 2).bind λr14 =>
 some r14
 else
 some (NI.mk r12.2.p r13.1 r12.2.acts r13.2.1 r12.2.deep r12.2.done (Oz.mk r12.2.out.Kind r12.2.out.Code r12.2.out.Result r13.2.2.1 r12.2.out.Steps))
def OA (m1 : NI) (x_x4 : NC) (l_e2 : NB) (a5 : Int) : Option (NI) :=
 chk (0 <= (i64.wrap ((m1.acts.length : Int) - 1)) /\ (i64.wrap ((m1.acts.length : Int) - 1)) < (([] : List NB) ++ m1.acts).length) <|
 ((([] : List NB) ++ m1.acts)[(i64.wrap ((m1.acts.length : Int) - 1)).toNat]?).bind λ_ =>
 bif (x_x4.Op == 20) then
 OJ m1 l_e2 a5 x_x4 (x_x4.Op == 20)
 else
 OJ m1 l_e2 a5 x_x4 (x_x4.Op == 21)
def NX (m1 : NI) : Option (NI) :=
 chk (([] : List NB).length + m1.acts.length <= 16777216) <|
 chk (0 <= (i64.wrap ((m1.acts.length : Int) - 1)) /\ (i64.wrap ((m1.acts.length : Int) - 1)) < (([] : List NB) ++ m1.acts).length) <|
 ((([] : List NB) ++ m1.acts)[(i64.wrap ((m1.acts.length : Int) - 1)).toNat]?).bind λl_e2 =>
 (ixO m1.p.Funcs l_e2.f).bind λx_x3 =>
 (ixO x_x3.Code l_e2.at_).bind λx_x4 =>
 bif (x_x4.Op == 20) then
 OA m1 x_x4 l_e2 x_x4.A
 else
 bif (x_x4.Op == 21) then
 chk (0 <= x_x4.A /\ x_x4.A < 8) <|
 ((m1.regs.toList)[x_x4.A.toNat]?).bind λe6 =>
 bif (e6.Lo != 0) then
 OA m1 x_x4 l_e2 x_x4.B
 else
 OA m1 x_x4 l_e2 (i64.wrap (l_e2.at_ + 1))
 else
 OA m1 x_x4 l_e2 (i64.wrap (l_e2.at_ + 1))

def AbB (x6 : NI) : Option (Oz × Int × Int) :=
 some (x6.out,x6.deep,0)
def AbA (fuel3 : Int) (x7 : NI) : Option ((NI) ⊕ (Oz × Int × Int)) :=
 bif (!x7.done) then
 bif (decide (x7.out.Steps >= fuel3)) then
 (Qj x7 4).bind λr8 =>
 lft (AbB r8)
 else
 (NX x7).bind λr9 =>
 cnt r9
 else
 lft (AbB x7)
def Wi (p1 : NN) (input2 : (List Int)) (fuel3 : Int) : Option (Oz × Int × Int) :=
 (Qk (NI.mk p1 (OB.mk (NF.mk 0 0) (NF.mk 0 0) (NF.mk 0 0) (NF.mk 0 0) (NF.mk 0 0) (NF.mk 0 0) (NF.mk 0 0) (NF.mk 0 0)) ([]) input2 0 false (Oz.mk 0 0 (NF.mk 0 0) ([]) 0)) 0).bind λr5 =>
 NY (λs=>AbA fuel3 s) r5
def AeD (p1 : NN) (input2 : (List Int)) (fuel3 : Int) : Option (Oz × Int × Int) :=
 (ZU p1).bind λr4 =>
 bif (r4 != 0) then
 some ((Oz.mk 0 0 (NF.mk 0 0) ([]) 0),0,r4)
 else
 bif (decide (fuel3 < 0)) then
 some ((Oz.mk 0 0 (NF.mk 0 0) ([]) 0),0,4)
 else
 bif (decide (fuel3 > 100000)) then
 some ((Oz.mk 0 0 (NF.mk 0 0) ([]) 0),0,4)
 else
 Wi p1 input2 fuel3

def Wx (p1 : NN) (input2 : (List Int)) (fuel3 : Int) : Option (Oz × Int) :=
 (AeD p1 input2 fuel3).bind λr4 =>
 some (r4.1,r4.2.2)

def Abx (o1 : Oz) : Option (Bool) :=
 bif (o1.Kind == 0) then
 some true
 else
 bif (o1.Kind == 1) then
 some true
 else
 some (o1.Kind == 2)

def Vl (a1 : (List NF)) (b2 : (List NF)) (i3 : Int) : Option ((Int) ⊕ (Bool)) :=
 bif (decide (i3 < (a1.length : Int))) then
 (ixO a1 i3).bind λx_x4 =>
 (ixO b2 i3).bind λx_x5 =>
 bif (!((x_x4.Lo == x_x5.Lo) && ((x_x4.Hi == x_x5.Hi) && true))) then
 lft (some false)
 else
 cnt (i64.wrap (i3 + 1))
 else
 lft (some true)
def Vk (a1 : (List NF)) (b2 : (List NF)) : Option (Bool) :=
 bif ((a1.length : Int) != (b2.length : Int)) then
 some false
 else
 NY (λs=>Vl a1 b2 s) 0

def RM (r16 : Oz × Int) (r17 : Oz × Int) (r15 : (List Int) × Mk) (n14 : Int) : Option (((List Int) × Int × Int) ⊕ (Bool)) :=
 (Abx r16.1).bind λr18 =>
 bif r18 then
 bif (r16.1.Kind != r17.1.Kind) then
 lft (some false)
 else
 bif (r16.1.Code != r17.1.Code) then
 lft (some false)
 else
 bif (!((r16.1.Result.Lo == r17.1.Result.Lo) && ((r16.1.Result.Hi == r17.1.Result.Hi) && true))) then
 lft (some false)
 else
 (Vk r16.1.Trace r17.1.Trace).bind λr19 =>
 bif (!r19) then
 lft (some false)
 else
 bif (decide (r17.1.Steps > r16.1.Steps)) then
 lft (some false)
 else
 cnt (r15.2.list,r15.2.at_,i64.wrap (n14 + 1))
 else
 cnt (r15.2.list,r15.2.at_,i64.wrap (n14 + 1))
def RL (r4 : NN × Int × NQ × NM × Mk) (fuel2 : Int) (r11 : NN) (x12 : List Int) (x13 : Int) (n14 : Int) : Option (((List Int) × Int × Int) ⊕ (Bool)) :=
 bif (decide (n14 < 3)) then
 (TX (Mk.mk x12 x13)).bind λr15 =>
 (Wx r4.1 r15.1 (i64.wrap (fuel2))).bind λr16 =>
 (Wx r11 r15.1 (i64.wrap (fuel2))).bind λr17 =>
 bif (r16.2 != 0) then
 lft (some false)
 else
 bif (r17.2 != 0) then
 lft (some false)
 else
 RM r16 r17 r15 n14
 else
 lft (some true)
def Rt (codes1 : (List Int)) (fuel2 : Int) : Option (Bool) :=
 (ZN).bind λr3 =>
 bif (!r3) then
 some false
 else
 (ZO codes1).bind λr4 =>
 (ixO r4.1.Funcs r4.2.1).bind λx_x5 =>
 (Su x_x5 r4.2.2.1 r4.2.2.2.1).bind λr6 =>
 bif (r6 != 0) then
 (ixO r4.1.Funcs r4.2.1).bind λx_x7 =>
 (Aad x_x7 r4.2.2.1 r4.2.2.2.1).bind λr8 =>
 some (r8 != 0)
 else
 (ixO r4.1.Funcs r4.2.1).bind λx_x9 =>
 (RG x_x9 r4.2.2.2.1).bind λr10 =>
 bif (r10.2 != 0) then
 some false
 else
 (UB r4.1 r4.2.1 r10.1).bind λr11 =>
 NY (λs=>RL r4 fuel2 r11 s.1 s.2.1 s.2.2) (r4.2.2.2.2.list,r4.2.2.2.2.at_,0)

end
end Go.Proofs.YtpagjjmondojpaaGreatDoor
