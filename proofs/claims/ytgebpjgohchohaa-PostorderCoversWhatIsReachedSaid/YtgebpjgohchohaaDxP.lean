/-
 The programs on typed data; written by a program (dx.py).
-/
import Derived.Test.YtgebpjgohchohaaDxT
namespace Go.Proofs.Ytgebpjgohchohaa
open Go Go.Dw Go.Proofs
open Go.IntKind (i64 u64)
set_option maxRecDepth 100000
set_option maxHeartbeats 40000000
noncomputable section
def Sc (op1 : Int) : Option (Bool) :=
 bif (op1 == 20) then
 some true
 else
 bif (op1 == 23) then
 some true
 else
 some (op1 == 24)

def RS (x_x3 : Mk) (l4 : List Int) : Option ((List Int)) :=
 bif (x_x3.Op == 20) then
 chk (l4.length + ([x_x3.A] : List Int).length <= 16777216) <|
 chk ((l4 ++ ([x_x3.A] : List Int)).length < 4611686018427387904) <|
 chk ((Ro (l4 ++ ([x_x3.A] : List Int))).length < 4611686018427387904) <|
 some (Lib.compact (Ro (l4 ++ ([x_x3.A] : List Int))))
 else
 bif (x_x3.Op == 21) then
 chk (l4.length + ([x_x3.B] : List Int).length <= 16777216) <|
 chk ((l4 ++ ([x_x3.B] : List Int)).length < 4611686018427387904) <|
 chk ((Ro (l4 ++ ([x_x3.B] : List Int))).length < 4611686018427387904) <|
 some (Lib.compact (Ro (l4 ++ ([x_x3.B] : List Int))))
 else
 chk (l4.length < 4611686018427387904) <|
 chk ((Ro l4).length < 4611686018427387904) <|
 some (Lib.compact (Ro l4))
def Sz (f1 : OI) (k2 : Int) : Option ((List Int)) :=
 (ixO f1.Code k2).bind λx_x3 =>
 (Sc x_x3.Op).bind λr5 =>
 bif (!r5) then
 chk (([] : List Int).length + ([i64.wrap (k2 + 1)] : List Int).length <= 16777216) <|
 RS x_x3 (([] : List Int) ++ ([i64.wrap (k2 + 1)] : List Int))
 else
 RS x_x3 ([] : List Int)
def RR (f1 : OI) (k2 : Int) : Option ((List Int)) :=
 bif (decide (k2 < 0)) then
 some ([] : List Int)
 else
 bif (decide (k2 >= (f1.Code.length : Int))) then
 some ([] : List Int)
 else
 Sz f1 k2

def PG (out9 : List Int) (x17 : List Bool) (x18 : List Av) : Option (((List Bool) × (List Int) × (List Av)) ⊕ ((List Int))) :=
 cnt (x17,out9,x18)
def Qy (x_x14 : Int) (x8 : List Bool) (f1 : OI) (x10 : List Av) (x_o16 : Av) (x_e15 : Av) (out9 : List Int) (x19 : Bool) : Option (((List Bool) × (List Int) × (List Av)) ⊕ ((List Int))) :=
 bif x19 then
 chk (0 <= x_x14 /\ x_x14 < x8.length) <|
 ((x8)[x_x14.toNat]?).bind λ_ =>
 (RR f1 x_x14).bind λr22 =>
 chk ((x10.set ((i64.wrap ((x10.length : Int) - 1)).toNat) (Av.mk x_o16.k (x_e15.rest.drop (1 : Int).toNat))).length + ([(Av.mk x_x14 r22)] : List Av).length <= 16777216) <|
 PG out9 (x8.set x_x14.toNat true) ((x10.set ((i64.wrap ((x10.length : Int) - 1)).toNat) (Av.mk x_o16.k (x_e15.rest.drop (1 : Int).toNat))) ++ ([(Av.mk x_x14 r22)] : List Av))
 else
 PG out9 x8 (x10.set ((i64.wrap ((x10.length : Int) - 1)).toNat) (Av.mk x_o16.k (x_e15.rest.drop (1 : Int).toNat)))
def Rk (f1 : OI) (x8 : List Bool) (out9 : List Int) (x10 : List Av) : Option (((List Bool) × (List Int) × (List Av)) ⊕ ((List Int))) :=
 bif (!((x10.length : Int) == 0)) then
 chk (0 <= (i64.wrap ((x10.length : Int) - 1)) /\ (i64.wrap ((x10.length : Int) - 1)) < x10.length) <|
 ((x10)[(i64.wrap ((x10.length : Int) - 1)).toNat]?).bind λx_e11 =>
 bif ((x_e11.rest.length : Int) == 0) then
 ((x10)[(i64.wrap ((x10.length : Int) - 1)).toNat]?).bind λx_e12 =>
 chk (out9.length + ([x_e12.k] : List Int).length <= 16777216) <|
 chk (0 <= (i64.wrap ((x10.length : Int) - 1)) /\ (i64.wrap ((x10.length : Int) - 1)) <= x10.length) <|
 cnt (x8,out9 ++ ([x_e12.k] : List Int),x10.take ((i64.wrap ((x10.length : Int) - 1)).toNat))
 else
 ((x10)[(i64.wrap ((x10.length : Int) - 1)).toNat]?).bind λx_e13 =>
 (ixO x_e13.rest 0).bind λx_x14 =>
 ((x10)[(i64.wrap ((x10.length : Int) - 1)).toNat]?).bind λx_e15 =>
 chk (0 <= (1 : Int) /\ (1 : Int) <= x_e15.rest.length) <|
 ((x10)[(i64.wrap ((x10.length : Int) - 1)).toNat]?).bind λx_o16 =>
 bif (decide (x_x14 < (x8.length : Int))) then
 chk (0 <= x_x14 /\ x_x14 < x8.length) <|
 ((x8)[x_x14.toNat]?).bind λx_e20 =>
 Qy x_x14 x8 f1 x10 x_o16 x_e15 out9 (!x_e20)
 else
 Qy x_x14 x8 f1 x10 x_o16 x_e15 out9 false
 else
 lft (
 chk (out9.length < 4611686018427387904) <|
 some (List.reverse out9))
def PC (f1 : OI) (x2 : List Bool) (x3 : List Av) : Option ((List Int)) :=
 Pl (λs=>Rk f1 s.1 s.2.1 s.2.2) (x2,([] : List Int),x3)
def Qx (f1 : OI) (x4 : Bool) : Option ((List Int)) :=
 bif x4 then
 chk (0 <= (0 : Int) /\ (0 : Int) < (List.replicate (f1.Code.length : Int).toNat false).length) <|
 ((List.replicate (f1.Code.length : Int).toNat false)[(0 : Int).toNat]?).bind λ_ =>
 (RR f1 0).bind λr7 =>
 chk (([] : List Av).length + ([(Av.mk 0 r7)] : List Av).length <= 16777216) <|
 PC f1 ((List.replicate (f1.Code.length : Int).toNat false).set ((0 : Int).toNat) true) (([] : List Av) ++ ([(Av.mk 0 r7)] : List Av))
 else
 PC f1 (List.replicate (f1.Code.length : Int).toNat false) ([] : List Av)
def Qe (f1 : OI) : Option ((List Int)) :=
 chk (0 <= (f1.Code.length : Int) /\ (f1.Code.length : Int) <= 16777216) <|
 bif (decide (0 < ((List.replicate (f1.Code.length : Int).toNat false).length : Int))) then
 chk (0 <= (0 : Int) /\ (0 : Int) < (List.replicate (f1.Code.length : Int).toNat false).length) <|
 ((List.replicate (f1.Code.length : Int).toNat false)[(0 : Int).toNat]?).bind λx_e5 =>
 Qx f1 (!x_e5)
 else
 Qx f1 false

def Sh  : Option (Bool) :=
 (Qe (OI.mk 0 ([]) ([(Mk.mk 20 1 0 0 0),(Mk.mk 23 0 0 0 0)] : List Mk))).bind λr1 =>
 bif ((r1.length : Int) == 2) then
 (ixO r1 1).bind λx_x2 =>
 some (x_x2 == 1)
 else
 some false

def Tg (list1 : (List Int)) (limit2 : Int) : Option (Ed) :=
 chk (0 <= (SV (list1.length : Int) limit2) /\ (SV (list1.length : Int) limit2) <= list1.length) <|
 some (Ed.mk (list1.take (SV (list1.length : Int) limit2).toNat) 0)

def RK (c1 : Ed) : Option (Bool × Ed) :=
 some ((decide (c1.at_ < (c1.list.length : Int))),c1)

def QU (n2 : Int) (c3 : List Int) (c4 : Int) : Option (Int × Ed) :=
 (ixO c3 c4).bind λx_x6 =>
 some (i64.wrap ((i64.wrap ((i64.wrap (x_x6)) * n2)).tdiv 256),(Ed.mk c3 (i64.wrap (c4 + 1))))
def OG (c1 : Ed) (n2 : Int) : Option (Int × Ed) :=
 (RK c1).bind λr5 =>
 bif (!r5.1) then
 some (0,r5.2)
 else
 bif (decide (n2 < 1)) then
 some (0,r5.2)
 else
 QU n2 r5.2.list r5.2.at_

def QV (c1 : Ed) : Option (Pp × Ed) :=
 (OG c1 7).bind λr2 =>
 chk (0 <= r2.1 /\ r2.1 < ([8,4,8,1,2,16,8] : List Int).length) <|
 ((([8,4,8,1,2,16,8] : List Int))[r2.1.toNat]?).bind λx_e3 =>
 (OG r2.2 8).bind λr4 =>
 chk (0 <= r4.1 /\ r4.1 < ([8,4,1,8,16,2,32,64] : List Int).length) <|
 ((([8,4,1,8,16,2,32,64] : List Int))[r4.1.toNat]?).bind λx_e5 =>
 some ((Pp.mk x_e3 x_e5),r4.2)

def QM (c4 : List Int) (c5 : Int) (l6 : List Pp) (n7 : Int) : Option (((List Int) × Int × (List Pp) × Int) ⊕ ((List Pp) × Ed)) :=
 bif (decide (n7 > 0)) then
 (QV (Ed.mk c4 c5)).bind λr8 =>
 chk (l6.length + ([r8.1] : List Pp).length <= 16777216) <|
 cnt (r8.2.list,r8.2.at_,l6 ++ ([r8.1] : List Pp),i64.wrap (n7 - 1))
 else
 lft (some (l6,(Ed.mk c4 c5)))
def QK (c1 : Ed) (most2 : Int) : Option ((List Pp) × Ed) :=
 (OG c1 (i64.wrap (most2 + 1))).bind λr3 =>
 Pl (λs=>QM s.1 s.2.1 s.2.2.1 s.2.2.2) (r3.2.list,r3.2.at_,([] : List Pp),r3.1)

def Rb (f2 : OI) (s3 : Int) (c1 : Ed) (l4 : List Int) (k5 : Int) : Option (((List Int) × Int) ⊕ (Int × Ed)) :=
 bif (decide (k5 < (f2.Slots.length : Int))) then
 (ixO f2.Slots k5).bind λx_x6 =>
 (ixO f2.Slots s3).bind λx_x7 =>
 bif (x_x6.Size == x_x7.Size) then
 chk (l4.length + ([k5] : List Int).length <= 16777216) <|
 cnt (l4 ++ ([k5] : List Int),i64.wrap (k5 + 1))
 else
 cnt (l4,i64.wrap (k5 + 1))
 else
 lft (
 (OG c1 (l4.length : Int)).bind λr8 =>
 chk (0 <= r8.1 /\ r8.1 < l4.length) <|
 ((l4)[r8.1.toNat]?).bind λl_e9 =>
 some (l_e9,r8.2))
def Ra (c1 : Ed) (f2 : OI) (s3 : Int) : Option (Int × Ed) :=
 Pl (λs=>Rb f2 s3 c1 s.1 s.2) (([] : List Int),0)

def QD (c1 : Ed) : Option (Int × Ed) :=
 (OG c1 6).bind λr2 =>
 bif (r2.1 == 0) then
 (OG r2.2 3).bind λr3 =>
 some (u64.wrap (18446744073709551615 - (u64.wrap (r3.1))),r3.2)
 else
 bif (r2.1 == 1) then
 (OG r2.2 64).bind λr4 =>
 chk (0 <= r4.1) <|
 some (u64.wrap (1 * 2 ^ (Nat.min r4.1.toNat u64.bits)),r4.2)
 else
 bif (r2.1 == 2) then
 some (0,r2.2)
 else
 (OG r2.2 256).bind λr5 =>
 some (u64.wrap (r5.1),r5.2)

def QX (params4 : (List Int)) (i3 : Int) (r23 : Int × Ed) (c24 : List Int) (c25 : Int) (out26 : List Mk) (a27 : Int) : Option (((List Int) × Int × (List Mk) × Int) ⊕ ((List Mk) × Ed)) :=
 (ixO params4 (i64.wrap ((i64.wrap (i3 + 1)) + r23.1))).bind λx_x28 =>
 bif (decide (a27 < x_x28)) then
 (OG (Ed.mk c24 c25) 8).bind λr29 =>
 bif (decide (r29.1 < 7)) then
 (OG r29.2 4).bind λr30 =>
 chk (out26.length + ([(Mk.mk 18 a27 r30.1 0 0)] : List Mk).length <= 16777216) <|
 cnt (r30.2.list,r30.2.at_,out26 ++ ([(Mk.mk 18 a27 r30.1 0 0)] : List Mk),i64.wrap (a27 + 1))
 else
 cnt (r29.2.list,r29.2.at_,out26,i64.wrap (a27 + 1))
 else
 lft (
 chk (out26.length + ([(Mk.mk 22 (i64.wrap ((i64.wrap (i3 + 1)) + r23.1)) 0 0 0)] : List Mk).length <= 16777216) <|
 some (out26 ++ ([(Mk.mk 22 (i64.wrap ((i64.wrap (i3 + 1)) + r23.1)) 0 0 0)] : List Mk),(Ed.mk c24 c25)))
def RM (r5 : Int × Ed) (r6 : Int × Ed) : Option ((List Mk) × Ed) :=
 some (([(Mk.mk 14 r5.1 0 0 0)] : List Mk),r6.2)
def PV (r6 : Int × Ed) (params4 : (List Int)) (i3 : Int) (r5 : Int × Ed) (x22 : Bool) : Option ((List Mk) × Ed) :=
 bif x22 then
 (OG r6.2 (i64.wrap ((i64.wrap ((params4.length : Int) - i3)) - 1))).bind λr23 =>
 Pl (λs=>QX params4 i3 r23 s.1 s.2.1 s.2.2.1 s.2.2.2) (r23.2.list,r23.2.at_,([] : List Mk),0)
 else
 RM r5 r6
def PU (r6 : Int × Ed) (f2 : OI) (r5 : Int × Ed) (params4 : (List Int)) (i3 : Int) (x20 : Bool) : Option ((List Mk) × Ed) :=
 bif x20 then
 (OG r6.2 f2.Params).bind λr21 =>
 some (([(Mk.mk 19 r5.1 r21.1 0 0)] : List Mk),r21.2)
 else
 bif (decide (r6.1 >= 17)) then
 PV r6 params4 i3 r5 (decide ((i64.wrap (i3 + 1)) < (params4.length : Int)))
 else
 PV r6 params4 i3 r5 false
def PT (r6 : Int × Ed) (f2 : OI) (r5 : Int × Ed) (params4 : (List Int)) (i3 : Int) (x11 : Bool) : Option ((List Mk) × Ed) :=
 bif x11 then
 (OG r6.2 (f2.Slots.length : Int)).bind λr12 =>
 (Ra r12.2 f2 r12.1).bind λr13 =>
 some (([(Mk.mk 17 r13.1 r12.1 0 0)] : List Mk),r13.2)
 else
 bif (decide (r6.1 < 11)) then
 (QD r6.2).bind λr14 =>
 some (([(Mk.mk 0 r5.1 0 0 r14.1)] : List Mk),r14.2)
 else
 bif (decide (r6.1 < 13)) then
 (OG r6.2 10).bind λr15 =>
 (OG r15.2 4).bind λr16 =>
 (OG r16.2 8).bind λr17 =>
 some (([(Mk.mk (i64.wrap (2 + r15.1)) r5.1 r16.1 r17.1 0)] : List Mk),r17.2)
 else
 bif (decide (r6.1 < 15)) then
 some (([(Mk.mk 14 r5.1 0 0 0)] : List Mk),r6.2)
 else
 bif (r6.1 == 15) then
 (OG r6.2 3).bind λr18 =>
 chk (0 <= r18.1 /\ r18.1 < ([13,12,1] : List Int).length) <|
 ((([13,12,1] : List Int))[r18.1.toNat]?).bind λx_e19 =>
 some (([(Mk.mk x_e19 r5.1 0 0 0)] : List Mk),r18.2)
 else
 bif (r6.1 == 16) then
 PU r6 f2 r5 params4 i3 (decide (f2.Params > 0))
 else
 PU r6 f2 r5 params4 i3 false
def PR (r6 : Int × Ed) (f2 : OI) (r5 : Int × Ed) (params4 : (List Int)) (i3 : Int) (x9 : Bool) : Option ((List Mk) × Ed) :=
 bif x9 then
 (OG r6.2 (f2.Slots.length : Int)).bind λr10 =>
 some (([(Mk.mk 15 r5.1 r10.1 0 0)] : List Mk),r10.2)
 else
 bif (decide (r6.1 < 9)) then
 PT r6 f2 r5 params4 i3 (decide ((f2.Slots.length : Int) > 0))
 else
 PT r6 f2 r5 params4 i3 false
def PQ (r6 : Int × Ed) (f2 : OI) (r5 : Int × Ed) (params4 : (List Int)) (i3 : Int) (x7 : Bool) : Option ((List Mk) × Ed) :=
 bif x7 then
 (OG r6.2 (f2.Slots.length : Int)).bind λr8 =>
 some (([(Mk.mk 16 r8.1 r5.1 0 0)] : List Mk),r8.2)
 else
 bif (decide (r6.1 < 6)) then
 PR r6 f2 r5 params4 i3 (decide ((f2.Slots.length : Int) > 0))
 else
 PR r6 f2 r5 params4 i3 false
def QW (c1 : Ed) (f2 : OI) (i3 : Int) (params4 : (List Int)) : Option ((List Mk) × Ed) :=
 (OG c1 4).bind λr5 =>
 (OG r5.2 20).bind λr6 =>
 bif (decide (r6.1 < 3)) then
 PQ r6 f2 r5 params4 i3 (decide ((f2.Slots.length : Int) > 0))
 else
 PQ r6 f2 r5 params4 i3 false

def PN (k32 : Int) (code31 : List Mk) (r33 : Int × Ed) (to34 : Int) (x35 : Bool) : Option (((List Int) × Int × (List Mk) × Int) ⊕ (OI × Ed)) :=
 bif x35 then
 chk (0 <= k32 /\ k32 < code31.length) <|
 ((code31)[k32.toNat]?).bind λcode_o38 =>
 cnt (r33.2.list,r33.2.at_,code31.set k32.toNat (Mk.mk code_o38.Op to34 code_o38.B code_o38.C code_o38.Imm),i64.wrap (k32 + 1))
 else
 chk (0 <= k32 /\ k32 < code31.length) <|
 ((code31)[k32.toNat]?).bind λcode_e39 =>
 bif (code_e39.Op == 21) then
 chk (0 <= k32 /\ k32 < code31.length) <|
 ((code31)[k32.toNat]?).bind λcode_e40 =>
 bif (decide (code_e40.B < 0)) then
 chk (0 <= k32 /\ k32 < code31.length) <|
 ((code31)[k32.toNat]?).bind λcode_o41 =>
 cnt (r33.2.list,r33.2.at_,code31.set k32.toNat (Mk.mk code_o41.Op code_o41.A to34 code_o41.C code_o41.Imm),i64.wrap (k32 + 1))
 else
 cnt (r33.2.list,r33.2.at_,code31,i64.wrap (k32 + 1))
 else
 cnt (r33.2.list,r33.2.at_,code31,i64.wrap (k32 + 1))
def Pg (k32 : Int) (code31 : List Mk) (r33 : Int × Ed) (to34 : Int) : Option (((List Int) × Int × (List Mk) × Int) ⊕ (OI × Ed)) :=
 chk (0 <= k32 /\ k32 < code31.length) <|
 ((code31)[k32.toNat]?).bind λcode_e36 =>
 bif (code_e36.Op == 20) then
 chk (0 <= k32 /\ k32 < code31.length) <|
 ((code31)[k32.toNat]?).bind λcode_e37 =>
 PN k32 code31 r33 to34 (decide (code_e37.A < 0))
 else
 PN k32 code31 r33 to34 false
def PM (x_x5 : Int) (f17 : List Pp) (c29 : List Int) (c30 : Int) (code31 : List Mk) (k32 : Int) : Option (((List Int) × Int × (List Mk) × Int) ⊕ (OI × Ed)) :=
 bif (decide (k32 < (code31.length : Int))) then
 (OG (Ed.mk c29 c30) 8).bind λr33 =>
 bif (decide ((i64.wrap ((i64.wrap (k32 + r33.1)) - 2)) < 0)) then
 Pg k32 code31 r33 (i64.wrap ((code31.length : Int) - 1))
 else
 bif (decide ((i64.wrap ((i64.wrap (k32 + r33.1)) - 2)) >= (code31.length : Int))) then
 Pg k32 code31 r33 (i64.wrap ((code31.length : Int) - 1))
 else
 Pg k32 code31 r33 (i64.wrap ((i64.wrap (k32 + r33.1)) - 2))
 else
 lft (some ((OI.mk x_x5 f17 code31),(Ed.mk c29 c30)))
def Px (code16 : List Mk) (x_x5 : Int) (f17 : List Pp) (c23 : List Int) (c24 : Int) (end25 : Int) (end26 : Int) : Option (OI × Ed) :=
 chk (code16.length + ([(Mk.mk end25 0 0 0 end26)] : List Mk).length <= 16777216) <|
 Pl (λs=>PM x_x5 f17 s.1 s.2.1 s.2.2.1 s.2.2.2) (c23,c24,code16 ++ ([(Mk.mk end25 0 0 0 end26)] : List Mk),0)
def Qv (x_x5 : Int) (i2 : Int) (params3 : (List Int)) (c14 : List Int) (c15 : Int) (code16 : List Mk) (f17 : List Pp) (n18 : Int) : Option (((List Int) × Int × (List Mk) × (List Pp) × Int) ⊕ (OI × Ed)) :=
 bif (decide (n18 > 0)) then
 (QW (Ed.mk c14 c15) (OI.mk x_x5 f17 ([])) i2 params3).bind λr19 =>
 chk (code16.length + r19.1.length <= 16777216) <|
 (OG r19.2 9).bind λr20 =>
 bif (r20.1 == 7) then
 (OG r20.2 4).bind λr21 =>
 chk ((code16 ++ r19.1).length + ([(Mk.mk 21 r21.1 (-1) 0 0)] : List Mk).length <= 16777216) <|
 cnt (r21.2.list,r21.2.at_,(code16 ++ r19.1) ++ ([(Mk.mk 21 r21.1 (-1) 0 0)] : List Mk),f17,i64.wrap (n18 - 1))
 else
 bif (r20.1 == 8) then
 (OG r20.2 3).bind λr22 =>
 bif (r22.1 == 2) then
 chk ((code16 ++ r19.1).length + ([(Mk.mk 20 (-1) 0 0 0)] : List Mk).length <= 16777216) <|
 cnt (r22.2.list,r22.2.at_,(code16 ++ r19.1) ++ ([(Mk.mk 20 (-1) 0 0 0)] : List Mk),f17,i64.wrap (n18 - 1))
 else
 cnt (r22.2.list,r22.2.at_,code16 ++ r19.1,f17,i64.wrap (n18 - 1))
 else
 cnt (r20.2.list,r20.2.at_,code16 ++ r19.1,f17,i64.wrap (n18 - 1))
 else
 lft (
 (OG (Ed.mk c14 c15) 12).bind λr27 =>
 bif (r27.1 == 11) then
 (QD r27.2).bind λr28 =>
 Px code16 x_x5 f17 r28.2.list r28.2.at_ 24 r28.1
 else
 Px code16 x_x5 f17 r27.2.list r27.2.at_ 23 0)
def Qu (r6 : (List Pp) × Ed) (most4 : Int) (x_x5 : Int) (i2 : Int) (params3 : (List Int)) (c7 : List Int) (c8 : Int) (code9 : List Mk) (s10 : Int) : Option (((List Int) × Int × (List Mk) × Int) ⊕ (OI × Ed)) :=
 bif (decide (s10 < (r6.1.length : Int))) then
 (OG (Ed.mk c7 c8) 4).bind λr11 =>
 bif (decide (r11.1 < 3)) then
 (OG r11.2 4).bind λr12 =>
 chk (code9.length + ([(Mk.mk 16 s10 r12.1 0 0)] : List Mk).length <= 16777216) <|
 cnt (r12.2.list,r12.2.at_,code9 ++ ([(Mk.mk 16 s10 r12.1 0 0)] : List Mk),i64.wrap (s10 + 1))
 else
 cnt (r11.2.list,r11.2.at_,code9,i64.wrap (s10 + 1))
 else
 lft (
 (OG (Ed.mk c7 c8) (i64.wrap (most4 + 1))).bind λr13 =>
 Pl (λs=>Qv x_x5 i2 params3 s.1 s.2.1 s.2.2.1 s.2.2.2.1 s.2.2.2.2) (r13.2.list,r13.2.at_,code9,r6.1,r13.1))
def Qm (c1 : Ed) (i2 : Int) (params3 : (List Int)) (most4 : Int) : Option (OI × Ed) :=
 (ixO params3 i2).bind λx_x5 =>
 (QK c1 6).bind λr6 =>
 Pl (λs=>Qu r6 most4 x_x5 i2 params3 s.1 s.2.1 s.2.2.1 s.2.2.2) (r6.2.list,r6.2.at_,([] : List Mk),0)

def QC (most3 : Int) (c10 : List Int) (c11 : Int) (p12 : List OI) (i13 : Int) (params14 : List Int) : Option (((List Int) × Int × (List OI) × Int × (List Int)) ⊕ (QI × Ed)) :=
 bif (decide (i13 < (params14.length : Int))) then
 chk (([] : List OI).length + p12.length <= 16777216) <|
 (Qm (Ed.mk c10 c11) i13 params14 most3).bind λr15 =>
 chk ((([] : List OI) ++ p12).length + ([r15.1] : List OI).length <= 16777216) <|
 cnt (r15.2.list,r15.2.at_,(([] : List OI) ++ p12) ++ ([r15.1] : List OI),i64.wrap (i13 + 1),params14)
 else
 lft (some ((QI.mk p12),(Ed.mk c10 c11)))
def QB (most3 : Int) (c5 : List Int) (c6 : Int) (params7 : List Int) (n8 : Int) : Option (((List Int) × Int × (List Int) × Int) ⊕ (QI × Ed)) :=
 bif (decide (n8 > 0)) then
 (OG (Ed.mk c5 c6) 4).bind λr9 =>
 chk (params7.length + ([r9.1] : List Int).length <= 16777216) <|
 cnt (r9.2.list,r9.2.at_,params7 ++ ([r9.1] : List Int),i64.wrap (n8 - 1))
 else
 lft (Pl (λs=>QC most3 s.1 s.2.1 s.2.2.1 s.2.2.2.1 s.2.2.2.2) (c5,c6,[],0,params7))
def Qw (c1 : Ed) (funcs2 : Int) (most3 : Int) : Option (QI × Ed) :=
 (OG c1 funcs2).bind λr4 =>
 Pl (λs=>QB most3 s.1 s.2.1 s.2.2.1 s.2.2.2) (r4.2.list,r4.2.at_,([0] : List Int),r4.1)

def Ru (codes1 : (List Int)) : Option (OI) :=
 (Tg codes1 250).bind λr2 =>
 (Qw r2 3 16).bind λr3 =>
 (OG r3.2 (r3.1.Funcs.length : Int)).bind λr4 =>
 (ixO r3.1.Funcs r4.1).bind λx_x5 =>
 some x_x5

def Rj (x1 : Int) (y2 : Int) : Option (Int × Int) :=
 some (u64.wrap ((u64.wrap ((u64.wrap ((x1.fdiv (2 ^ (Nat.min (32 : Int).toNat u64.bits))) * (y2.fdiv (2 ^ (Nat.min (32 : Int).toNat u64.bits))))) + ((u64.wrap ((u64.wrap ((x1.fdiv (2 ^ (Nat.min (32 : Int).toNat u64.bits))) * (u64.wrap ((BitVec.ofInt u64.bits y2 &&& BitVec.ofInt u64.bits 4294967295).toNat)))) + ((u64.wrap ((u64.wrap ((BitVec.ofInt u64.bits x1 &&& BitVec.ofInt u64.bits 4294967295).toNat)) * (u64.wrap ((BitVec.ofInt u64.bits y2 &&& BitVec.ofInt u64.bits 4294967295).toNat)))).fdiv (2 ^ (Nat.min (32 : Int).toNat u64.bits))))).fdiv (2 ^ (Nat.min (32 : Int).toNat u64.bits))))) + ((u64.wrap ((u64.wrap ((BitVec.ofInt u64.bits (u64.wrap ((u64.wrap ((x1.fdiv (2 ^ (Nat.min (32 : Int).toNat u64.bits))) * (u64.wrap ((BitVec.ofInt u64.bits y2 &&& BitVec.ofInt u64.bits 4294967295).toNat)))) + ((u64.wrap ((u64.wrap ((BitVec.ofInt u64.bits x1 &&& BitVec.ofInt u64.bits 4294967295).toNat)) * (u64.wrap ((BitVec.ofInt u64.bits y2 &&& BitVec.ofInt u64.bits 4294967295).toNat)))).fdiv (2 ^ (Nat.min (32 : Int).toNat u64.bits))))) &&& BitVec.ofInt u64.bits 4294967295).toNat)) + (u64.wrap ((u64.wrap ((BitVec.ofInt u64.bits x1 &&& BitVec.ofInt u64.bits 4294967295).toNat)) * (y2.fdiv (2 ^ (Nat.min (32 : Int).toNat u64.bits))))))).fdiv (2 ^ (Nat.min (32 : Int).toNat u64.bits)))),u64.wrap (x1 * y2))

def Sk (x1 : Int) (y2 : Int) : Option (Int × Int) :=
 (Rj x1 y2).bind λr3 =>
 some (r3.1,r3.2)

def Qf (newslice4 : List Int) (n5 : Int) : Option (((List Int) × Int) ⊕ ((List Int))) :=
 bif (decide (n5 < (newslice4.length : Int))) then
 chk (0 <= n5 /\ n5 <= newslice4.length) <|
 chk (0 <= n5 /\ n5 <= newslice4.length) <|
 cnt (QQ newslice4 n5.toNat (newslice4.length - n5.toNat) (newslice4.take n5.toNat),i64.wrap (n5 + (Nat.min (newslice4.length - n5.toNat) (newslice4.take n5.toNat).length : Int)))
 else
 lft (some newslice4)
def Qh (r3 : Int × Int) (x1 : (List Int)) : Option ((List Int)) :=
 chk (0 <= (i64.wrap (r3.2)) /\ (i64.wrap (r3.2)) <= 16777216) <|
 Pl (λs=>Qf s.1 s.2) (QQ (List.replicate (i64.wrap (r3.2)).toNat (0 : Int)) 0 ((List.replicate (i64.wrap (r3.2)).toNat (0 : Int)).length) x1,(Nat.min ((List.replicate (i64.wrap (r3.2)).toNat (0 : Int)).length) x1.length : Int))
def Qg (x1 : (List Int)) (count2 : Int) : Option ((List Int)) :=
 (Sk (u64.wrap ((x1.length : Int))) (u64.wrap (count2))).bind λr3 =>
 bif (decide (r3.1 > 0)) then
 none
 else
 bif (decide (r3.2 > 9223372036854775807)) then
 none
 else
 Qh r3 x1
def Qa (x1 : (List Int)) (count2 : Int) : Option ((List Int)) :=
 bif (decide (count2 < 0)) then
 none
 else
 Qg x1 count2

def Rs (r3 : (List Int)) (rank4 : List Int) (x5 : Int) : Option (((List Int) × Int) ⊕ ((List Int))) :=
 bif (decide (x5 < (r3.length : Int))) then
 (ixO r3 x5).bind λx_x6 =>
 chk (0 <= x_x6 /\ x_x6 < rank4.length) <|
 ((rank4)[x_x6.toNat]?).bind λ_ =>
 cnt (rank4.set x_x6.toNat x5,i64.wrap (x5 + 1))
 else
 lft (some rank4)
def QH (f1 : OI) : Option ((List Int)) :=
 (Qa ([(-1)] : List Int) (f1.Code.length : Int)).bind λr2 =>
 (Qe f1).bind λr3 =>
 Pl (λs=>Rs r3 s.1 s.2) (r2,0)

def Py (l6 : List OL) (x4 : Int) (x_e8 : Int) (x7 : Int) (x9 : Bool) : Option (((List OL) × Int) ⊕ (((List OL) × Int) ⊕ ((List OL)))) :=
 bif x9 then
 chk (l6.length + ([(OL.mk x4 x_e8)] : List OL).length <= 16777216) <|
 cnt (l6 ++ ([(OL.mk x4 x_e8)] : List OL),i64.wrap (x7 + 1))
 else
 cnt (l6,i64.wrap (x7 + 1))
def QF (r5 : (List Int)) (x4 : Int) (r2 : (List Int)) (l6 : List OL) (x7 : Int) : Option (((List OL) × Int) ⊕ (((List OL) × Int) ⊕ ((List OL)))) :=
 bif (decide (x7 < (r5.length : Int))) then
 chk (0 <= x7 /\ x7 < r5.length) <|
 ((r5)[x7.toNat]?).bind λx_e8 =>
 chk (0 <= x4 /\ x4 < r2.length) <|
 ((r2)[x4.toNat]?).bind λrank_e10 =>
 bif (decide (rank_e10 >= 0)) then
 chk (0 <= x_e8 /\ x_e8 < r2.length) <|
 ((r2)[x_e8.toNat]?).bind λrank_e11 =>
 chk (0 <= x4 /\ x4 < r2.length) <|
 ((r2)[x4.toNat]?).bind λrank_e12 =>
 Py l6 x4 x_e8 x7 (decide (rank_e11 <= rank_e12))
 else
 Py l6 x4 x_e8 x7 false
 else
 lft (cnt (l6,i64.wrap (x4 + 1)))
def Rq (f1 : OI) (r2 : (List Int)) (l3 : List OL) (x4 : Int) : Option (((List OL) × Int) ⊕ ((List OL))) :=
 bif (decide (x4 < (f1.Code.length : Int))) then
 (RR f1 x4).bind λr5 =>
 Pl (λs=>QF r5 x4 r2 s.1 s.2) (l3,0)
 else
 lft (some l3)
def Rv (f1 : OI) : Option ((List OL)) :=
 (QH f1).bind λr2 =>
 Pl (λs=>Rq f1 r2 s.1 s.2) (([] : List OL),0)

def PH (x_x3 : Mk) (k2 : Int) (x4 : Bool) : Option ((List Int)) :=
 bif x4 then
 some ([] : List Int)
 else
 bif (x_x3.Op == 21) then
 bif (decide (x_x3.B < (i64.wrap (k2 + 1)))) then
 some ([x_x3.B,i64.wrap (k2 + 1)] : List Int)
 else
 bif (decide (x_x3.B > (i64.wrap (k2 + 1)))) then
 some ([i64.wrap (k2 + 1),x_x3.B] : List Int)
 else
 some ([i64.wrap (k2 + 1)] : List Int)
 else
 some ([i64.wrap (k2 + 1)] : List Int)
def Sl (f1 : OI) (k2 : Int) : Option ((List Int)) :=
 (ixO f1.Code k2).bind λx_x3 =>
 bif (x_x3.Op == 20) then
 some ([x_x3.A] : List Int)
 else
 bif (x_x3.Op == 23) then
 PH x_x3 k2 (x_x3.Op == 23)
 else
 PH x_x3 k2 (x_x3.Op == 24)
def Sb (f1 : OI) (k2 : Int) : Option ((List Int)) :=
 bif (decide (k2 < 0)) then
 some ([] : List Int)
 else
 bif (decide (k2 >= (f1.Code.length : Int))) then
 some ([] : List Int)
 else
 Sl f1 k2

def RC (i14 : Int) (r11 : (List Int)) (out12 : List Bool) (again13 : Bool) (x15 : Bool) : Option (((List Bool) × Bool × Int) ⊕ (((List Bool) × Bool × Int) ⊕ (((List Bool) × Bool) ⊕ ((List Bool))))) :=
 chk (0 <= i14 /\ i14 < r11.length) <|
 ((r11)[i14.toNat]?).bind λl_e17 =>
 chk (0 <= l_e17 /\ l_e17 < out12.length) <|
 ((out12)[l_e17.toNat]?).bind λout_e18 =>
 bif (!out_e18) then
 chk (0 <= i14 /\ i14 < r11.length) <|
 ((r11)[i14.toNat]?).bind λl_e19 =>
 chk (0 <= l_e19 /\ l_e19 < out12.length) <|
 ((out12)[l_e19.toNat]?).bind λ_ =>
 cnt (out12.set l_e19.toNat true,true,i64.wrap (i14 + 1))
 else
 cnt (out12,again13,i64.wrap (i14 + 1))
def Qq (k8 : Int) (out9 : List Bool) (again10 : Bool) : Option (((List Bool) × Bool × Int) ⊕ (((List Bool) × Bool) ⊕ ((List Bool)))) :=
 cnt (out9,again10,i64.wrap (k8 + 1))
def RB (r11 : (List Int)) (k8 : Int) (out12 : List Bool) (again13 : Bool) (i14 : Int) : Option (((List Bool) × Bool × Int) ⊕ (((List Bool) × Bool × Int) ⊕ (((List Bool) × Bool) ⊕ ((List Bool))))) :=
 bif (decide (i14 < (r11.length : Int))) then
 chk (0 <= k8 /\ k8 < out12.length) <|
 ((out12)[k8.toNat]?).bind λout_e16 =>
 bif out_e16 then
 RC i14 r11 out12 again13 out_e16
 else
 lft (Qq k8 out12 again13)
 else
 lft (Qq k8 out12 again13)
def RA (f1 : OI) (out6 : List Bool) (again7 : Bool) (k8 : Int) : Option (((List Bool) × Bool × Int) ⊕ (((List Bool) × Bool) ⊕ ((List Bool)))) :=
 bif (decide (k8 < (f1.Code.length : Int))) then
 (Sb f1 k8).bind λr11 =>
 Pl (λs=>RB r11 k8 s.1 s.2.1 s.2.2) (out6,again7,0)
 else
 lft (cnt (out6,again7))
def Rz (f1 : OI) (out4 : List Bool) (again5 : Bool) : Option (((List Bool) × Bool) ⊕ ((List Bool))) :=
 bif again5 then
 Pl (λs=>RA f1 s.1 s.2.1 s.2.2) (out4,false,0)
 else
 lft (some out4)
def QL (f1 : OI) (out2 : List Bool) : Option ((List Bool)) :=
 Pl (λs=>Rz f1 s.1 s.2) (out2,true)
def RI (f1 : OI) : Option ((List Bool)) :=
 chk (0 <= (f1.Code.length : Int) /\ (f1.Code.length : Int) <= 16777216) <|
 bif (decide (((List.replicate (f1.Code.length : Int).toNat false).length : Int) > 0)) then
 chk (0 <= (0 : Int) /\ (0 : Int) < (List.replicate (f1.Code.length : Int).toNat false).length) <|
 ((List.replicate (f1.Code.length : Int).toNat false)[(0 : Int).toNat]?).bind λ_ =>
 QL f1 ((List.replicate (f1.Code.length : Int).toNat false).set ((0 : Int).toNat) true)
 else
 QL f1 (List.replicate (f1.Code.length : Int).toNat false)

def Po (i33 : Int) : Option ((Int) ⊕ ((Int × Int) ⊕ (Bool))) :=
 cnt (i64.wrap (i33 + 1))
def Pm (r6 : (List OL)) (i33 : Int) (r32 : (List Int)) (k10 : Int) (r5 : (List Int)) (goesBack36 : Bool) (j37 : Int) : Option ((Bool × Int) ⊕ ((Int) ⊕ ((Int × Int) ⊕ (Bool)))) :=
 bif (decide (j37 < (r6.length : Int))) then
 bif goesBack36 then
 cnt (true,i64.wrap (j37 + 1))
 else
 chk (0 <= j37 /\ j37 < r6.length) <|
 ((r6)[j37.toNat]?).bind λback_e38 =>
 chk (0 <= i33 /\ i33 < r32.length) <|
 ((r32)[i33.toNat]?).bind λnext_e39 =>
 cnt (((back_e38.a0 == k10) && ((back_e38.a1 == next_e39) && true)),i64.wrap (j37 + 1))
 else
 lft (
 chk (0 <= i33 /\ i33 < r32.length) <|
 ((r32)[i33.toNat]?).bind λnext_e40 =>
 chk (0 <= next_e40 /\ next_e40 < r5.length) <|
 ((r5)[next_e40.toNat]?).bind λrank_e41 =>
 chk (0 <= k10 /\ k10 < r5.length) <|
 ((r5)[k10.toNat]?).bind λrank_e42 =>
 bif (!(goesBack36 == (decide (rank_e41 <= rank_e42)))) then
 lft (lft (some false))
 else
 Po i33)
def Pb (r6 : (List OL)) (i33 : Int) (r32 : (List Int)) (k10 : Int) (r5 : (List Int)) (x34 : Bool) : Option ((Int) ⊕ ((Int × Int) ⊕ (Bool))) :=
 Pl (λs=>Pm r6 i33 r32 k10 r5 s.1 s.2) (false,0)
def OW (k10 : Int) (x11 : Int) (x12 : Bool) (x13 : Int) (x14 : Bool) (x15 : Bool) (n16 : Int) (x17 : Bool) : Option ((Int × Int) ⊕ (Bool)) :=
 cnt (n16,i64.wrap (k10 + 1))
def Pa (r32 : (List Int)) (k10 : Int) (r7 : (List Bool)) (r6 : (List OL)) (r5 : (List Int)) (x18 : Int) (x19 : Bool) (x20 : Int) (x21 : Bool) (x22 : Bool) (n30 : Int) (x23 : Bool) (i33 : Int) : Option ((Int) ⊕ ((Int × Int) ⊕ (Bool))) :=
 bif (decide (i33 < (r32.length : Int))) then
 chk (0 <= k10 /\ k10 < r7.length) <|
 ((r7)[k10.toNat]?).bind λreached_e35 =>
 bif reached_e35 then
 Pb r6 i33 r32 k10 r5 reached_e35
 else
 lft (OW k10 x18 x19 x20 x21 x22 n30 x23)
 else
 lft (OW k10 x18 x19 x20 x21 x22 n30 x23)
def OZ (r3 : OI) (k10 : Int) (r7 : (List Bool)) (r6 : (List OL)) (r5 : (List Int)) (x18 : Int) (x19 : Bool) (x20 : Int) (x21 : Bool) (x22 : Bool) (x23 : Bool) (n30 : Int) : Option ((Int × Int) ⊕ (Bool)) :=
 (Sb r3 k10).bind λr32 =>
 Pl (λs=>Pa r32 k10 r7 r6 r5 x18 x19 x20 x21 x22 n30 x23 s) 0
def OY (k10 : Int) (r7 : (List Bool)) (r3 : OI) (r6 : (List OL)) (r5 : (List Int)) (n9 : Int) (x18 : Int) (x19 : Bool) (x20 : Int) (x21 : Bool) (x22 : Bool) (x23 : Bool) : Option ((Int × Int) ⊕ (Bool)) :=
 chk (0 <= k10 /\ k10 < r7.length) <|
 ((r7)[k10.toNat]?).bind λreached_e31 =>
 bif reached_e31 then
 OZ r3 k10 r7 r6 r5 x18 x19 x20 x21 x22 x23 (i64.wrap (n9 + 1))
 else
 OZ r3 k10 r7 r6 r5 x18 x19 x20 x21 x22 x23 n9
def OQ (r3 : OI) (r5 : (List Int)) (r7 : (List Bool)) (r4 : (List Int)) (r6 : (List OL)) (n9 : Int) (k10 : Int) : Option ((Int × Int) ⊕ (Bool)) :=
 bif (decide (k10 < (r3.Code.length : Int))) then
 chk (0 <= k10 /\ k10 < r5.length) <|
 ((r5)[k10.toNat]?).bind λrank_e24 =>
 chk (0 <= k10 /\ k10 < r7.length) <|
 ((r7)[k10.toNat]?).bind λreached_e25 =>
 bif (!((decide (rank_e24 >= 0)) == reached_e25)) then
 lft (some false)
 else
 chk (0 <= k10 /\ k10 < r5.length) <|
 ((r5)[k10.toNat]?).bind λrank_e26 =>
 bif (decide (rank_e26 >= (r4.length : Int))) then
 lft (some false)
 else
 chk (0 <= k10 /\ k10 < r5.length) <|
 ((r5)[k10.toNat]?).bind λrank_e27 =>
 bif (decide (rank_e27 >= 0)) then
 chk (0 <= k10 /\ k10 < r5.length) <|
 ((r5)[k10.toNat]?).bind λrank_e28 =>
 (ixO r4 rank_e28).bind λx_x29 =>
 bif (x_x29 != k10) then
 lft (some false)
 else
 OY k10 r7 r3 r6 r5 n9 rank_e26 (decide (rank_e26 >= (r4.length : Int))) rank_e27 (decide (rank_e27 >= 0)) true (x_x29 != k10)
 else
 OY k10 r7 r3 r6 r5 n9 rank_e26 (decide (rank_e26 >= (r4.length : Int))) rank_e27 (decide (rank_e27 >= 0)) false false
 else
 lft (some (n9 == (r4.length : Int)))
def Pn (r3 : OI) (r5 : (List Int)) (r7 : (List Bool)) (r4 : (List Int)) (r6 : (List OL)) : Option (Bool) :=
 Pl (λs=>OQ r3 r5 r7 r4 r6 s.1 s.2) (0,0)
def Ps (codes1 : (List Int)) : Option (Bool) :=
 (Sh).bind λr2 =>
 bif (!r2) then
 some false
 else
 (Ru codes1).bind λr3 =>
 (Qe r3).bind λr4 =>
 (QH r3).bind λr5 =>
 (Rv r3).bind λr6 =>
 (RI r3).bind λr7 =>
 bif ((r5.length : Int) != (r3.Code.length : Int)) then
 some false
 else
 bif (decide ((r4.length : Int) < 1)) then
 some false
 else
 (ixO r4 0).bind λx_x8 =>
 bif (x_x8 != 0) then
 some false
 else
 Pn r3 r5 r7 r4 r6

def VO (a1 : (List Int)) (b2 : (List Int)) (i3 : Int) : Option ((Int) ⊕ (Bool)) :=
 bif (decide (i3 < (a1.length : Int))) then
 (ixO a1 i3).bind λx_x4 =>
 (ixO b2 i3).bind λx_x5 =>
 bif (x_x4 != x_x5) then
 lft (some false)
 else
 cnt (i64.wrap (i3 + 1))
 else
 lft (some true)
def Yg (a1 : (List Int)) (b2 : (List Int)) : Option (Bool) :=
 bif ((a1.length : Int) != (b2.length : Int)) then
 some false
 else
 Pl (λs=>VO a1 b2 s) 0

end
end Go.Proofs.Ytgebpjgohchohaa
