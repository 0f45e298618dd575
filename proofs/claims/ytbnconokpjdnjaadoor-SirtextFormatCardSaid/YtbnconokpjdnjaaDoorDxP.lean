/-
 The programs on typed data; written by a program (dx.py).
-/
import Derived.Test.YtbnconokpjdnjaaDoorDxT
namespace Go.Proofs.YtbnconokpjdnjaaDoor
open Go Go.Dw Go.Proofs
open Go.IntKind (i64 u64 u8)
set_option maxRecDepth 100000
set_option maxHeartbeats 40000000
noncomputable section
def Se (x1 : Ed) (words4 : List (List UInt8)) (x5 : (List UInt8) × Nat) : Option (((List (List UInt8)) × ((List UInt8) × Nat)) ⊕ ((List UInt8))) :=
 bif Nat.blt x5.2 x5.1.length then
 bif (((US x5.1 x5.2).1 : Int) == 35) then
 (Zq x1.Imm 10).bind λr6 =>
 chk (words4.length + ([r6] : List (List UInt8)).length <= 16777216) <|
 cnt (words4 ++ ([r6] : List (List UInt8)),itN x5)
 else
 chk (0 <= (x5.2 : Int) /\ (x5.2 : Int) < 3) <|
 (((RA.mk x1.A x1.B x1.C).toList)[(x5.2 : Int).toNat]?).bind λnumbers_e7 =>
 (WD numbers_e7).bind λr8 =>
 chk ((Xd ((US x5.1 x5.2).1 : Int)).length + r8.length <= 16777216) <|
 chk (words4.length + ([(Xd ((US x5.1 x5.2).1 : Int)) ++ r8] : List (List UInt8)).length <= 16777216) <|
 cnt (words4 ++ ([(Xd ((US x5.1 x5.2).1 : Int)) ++ r8] : List (List UInt8)),itN x5)
 else
 lft (
 (Zr words4 ([32])).bind λr9 =>
 some r9)
def Um (x1 : Ed) : Option ((List UInt8)) :=
 chk (0 <= x1.Op /\ x1.Op < 25) <|
 (TS[x1.Op.toNat]?).bind λe2 =>
 chk (0 <= x1.Op /\ x1.Op < 25) <|
 (Tn[x1.Op.toNat]?).bind λe3 =>
 Rk (λs=>Se x1 s.1 s.2) (([e2] : List (List UInt8)),(e3,0))
def Sc (x1 : Ed) : Option ((List UInt8)) :=
 bif (decide (x1.Op < 0)) then
 some ([63])
 else
 bif (decide (x1.Op >= 25)) then
 some ([63])
 else
 Um x1

def UN  : Option (Bool) :=
 (Sc (Ed.mk 0 1 0 0 7)).bind λr1 =>
 some (r1 == ([99,111,110,115,116,32,114,49,32,55]))

def VM (list1 : (List Int)) (limit2 : Int) : Option (Av) :=
 chk (0 <= (VP (list1.length : Int) limit2) /\ (VP (list1.length : Int) limit2) <= list1.length) <|
 some (Av.mk (list1.take (VP (list1.length : Int) limit2).toNat) 0)

def Ut (c1 : Av) : Option (Bool × Av) :=
 some ((decide (c1.at_ < (c1.list.length : Int))),c1)

def Ty (n2 : Int) (c3 : List Int) (c4 : Int) : Option (Int × Av) :=
 (ixO c3 c4).bind λx_x6 =>
 some (i64.wrap ((i64.wrap ((i64.wrap (x_x6)) * n2)).tdiv 256),(Av.mk c3 (i64.wrap (c4 + 1))))
def Pr (c1 : Av) (n2 : Int) : Option (Int × Av) :=
 (Ut c1).bind λr5 =>
 bif (!r5.1) then
 some (0,r5.2)
 else
 bif (decide (n2 < 1)) then
 some (0,r5.2)
 else
 Ty n2 r5.2.list r5.2.at_

def SV (c1 : Av) : Option (QO × Av) :=
 (Pr c1 7).bind λr2 =>
 chk (0 <= r2.1 /\ r2.1 < ([8,4,8,1,2,16,8] : List Int).length) <|
 ((([8,4,8,1,2,16,8] : List Int))[r2.1.toNat]?).bind λx_e3 =>
 (Pr r2.2 8).bind λr4 =>
 chk (0 <= r4.1 /\ r4.1 < ([8,4,1,8,16,2,32,64] : List Int).length) <|
 ((([8,4,1,8,16,2,32,64] : List Int))[r4.1.toNat]?).bind λx_e5 =>
 some ((QO.mk x_e3 x_e5),r4.2)

def Tq (c4 : List Int) (c5 : Int) (l6 : List QO) (n7 : Int) : Option (((List Int) × Int × (List QO) × Int) ⊕ ((List QO) × Av)) :=
 bif (decide (n7 > 0)) then
 (SV (Av.mk c4 c5)).bind λr8 =>
 chk (l6.length + ([r8.1] : List QO).length <= 16777216) <|
 cnt (r8.2.list,r8.2.at_,l6 ++ ([r8.1] : List QO),i64.wrap (n7 - 1))
 else
 lft (some (l6,(Av.mk c4 c5)))
def Tj (c1 : Av) (most2 : Int) : Option ((List QO) × Av) :=
 (Pr c1 (i64.wrap (most2 + 1))).bind λr3 =>
 Rk (λs=>Tq s.1 s.2.1 s.2.2.1 s.2.2.2) (r3.2.list,r3.2.at_,([] : List QO),r3.1)

def TE (f2 : QT) (s3 : Int) (c1 : Av) (l4 : List Int) (k5 : Int) : Option (((List Int) × Int) ⊕ (Int × Av)) :=
 bif (decide (k5 < (f2.Slots.length : Int))) then
 (ixO f2.Slots k5).bind λx_x6 =>
 (ixO f2.Slots s3).bind λx_x7 =>
 bif (x_x6.Size == x_x7.Size) then
 chk (l4.length + ([k5] : List Int).length <= 16777216) <|
 cnt (l4 ++ ([k5] : List Int),i64.wrap (k5 + 1))
 else
 cnt (l4,i64.wrap (k5 + 1))
 else
 lft (
 (Pr c1 (l4.length : Int)).bind λr8 =>
 chk (0 <= r8.1 /\ r8.1 < l4.length) <|
 ((l4)[r8.1.toNat]?).bind λl_e9 =>
 some (l_e9,r8.2))
def TD (c1 : Av) (f2 : QT) (s3 : Int) : Option (Int × Av) :=
 Rk (λs=>TE f2 s3 c1 s.1 s.2) (([] : List Int),0)

def Sm (c1 : Av) : Option (Int × Av) :=
 (Pr c1 6).bind λr2 =>
 bif (r2.1 == 0) then
 (Pr r2.2 3).bind λr3 =>
 some (u64.wrap (18446744073709551615 - (u64.wrap (r3.1))),r3.2)
 else
 bif (r2.1 == 1) then
 (Pr r2.2 64).bind λr4 =>
 chk (0 <= r4.1) <|
 some (u64.wrap (1 * 2 ^ (Nat.min r4.1.toNat u64.bits)),r4.2)
 else
 bif (r2.1 == 2) then
 some (0,r2.2)
 else
 (Pr r2.2 256).bind λr5 =>
 some (u64.wrap (r5.1),r5.2)

def TC (params4 : (List Int)) (i3 : Int) (r23 : Int × Av) (c24 : List Int) (c25 : Int) (out26 : List Ed) (a27 : Int) : Option (((List Int) × Int × (List Ed) × Int) ⊕ ((List Ed) × Av)) :=
 (ixO params4 (i64.wrap ((i64.wrap (i3 + 1)) + r23.1))).bind λx_x28 =>
 bif (decide (a27 < x_x28)) then
 (Pr (Av.mk c24 c25) 8).bind λr29 =>
 bif (decide (r29.1 < 7)) then
 (Pr r29.2 4).bind λr30 =>
 chk (out26.length + ([(Ed.mk 18 a27 r30.1 0 0)] : List Ed).length <= 16777216) <|
 cnt (r30.2.list,r30.2.at_,out26 ++ ([(Ed.mk 18 a27 r30.1 0 0)] : List Ed),i64.wrap (a27 + 1))
 else
 cnt (r29.2.list,r29.2.at_,out26,i64.wrap (a27 + 1))
 else
 lft (
 chk (out26.length + ([(Ed.mk 22 (i64.wrap ((i64.wrap (i3 + 1)) + r23.1)) 0 0 0)] : List Ed).length <= 16777216) <|
 some (out26 ++ ([(Ed.mk 22 (i64.wrap ((i64.wrap (i3 + 1)) + r23.1)) 0 0 0)] : List Ed),(Av.mk c24 c25)))
def Uw (r5 : Int × Av) (r6 : Int × Av) : Option ((List Ed) × Av) :=
 some (([(Ed.mk 14 r5.1 0 0 0)] : List Ed),r6.2)
def Sl (r6 : Int × Av) (params4 : (List Int)) (i3 : Int) (r5 : Int × Av) (x22 : Bool) : Option ((List Ed) × Av) :=
 bif x22 then
 (Pr r6.2 (i64.wrap ((i64.wrap ((params4.length : Int) - i3)) - 1))).bind λr23 =>
 Rk (λs=>TC params4 i3 r23 s.1 s.2.1 s.2.2.1 s.2.2.2) (r23.2.list,r23.2.at_,([] : List Ed),0)
 else
 Uw r5 r6
def Sk (r6 : Int × Av) (f2 : QT) (r5 : Int × Av) (params4 : (List Int)) (i3 : Int) (x20 : Bool) : Option ((List Ed) × Av) :=
 bif x20 then
 (Pr r6.2 f2.Params).bind λr21 =>
 some (([(Ed.mk 19 r5.1 r21.1 0 0)] : List Ed),r21.2)
 else
 bif (decide (r6.1 >= 17)) then
 Sl r6 params4 i3 r5 (decide ((i64.wrap (i3 + 1)) < (params4.length : Int)))
 else
 Sl r6 params4 i3 r5 false
def Sj (r6 : Int × Av) (f2 : QT) (r5 : Int × Av) (params4 : (List Int)) (i3 : Int) (x11 : Bool) : Option ((List Ed) × Av) :=
 bif x11 then
 (Pr r6.2 (f2.Slots.length : Int)).bind λr12 =>
 (TD r12.2 f2 r12.1).bind λr13 =>
 some (([(Ed.mk 17 r13.1 r12.1 0 0)] : List Ed),r13.2)
 else
 bif (decide (r6.1 < 11)) then
 (Sm r6.2).bind λr14 =>
 some (([(Ed.mk 0 r5.1 0 0 r14.1)] : List Ed),r14.2)
 else
 bif (decide (r6.1 < 13)) then
 (Pr r6.2 10).bind λr15 =>
 (Pr r15.2 4).bind λr16 =>
 (Pr r16.2 8).bind λr17 =>
 some (([(Ed.mk (i64.wrap (2 + r15.1)) r5.1 r16.1 r17.1 0)] : List Ed),r17.2)
 else
 bif (decide (r6.1 < 15)) then
 some (([(Ed.mk 14 r5.1 0 0 0)] : List Ed),r6.2)
 else
 bif (r6.1 == 15) then
 (Pr r6.2 3).bind λr18 =>
 chk (0 <= r18.1 /\ r18.1 < ([13,12,1] : List Int).length) <|
 ((([13,12,1] : List Int))[r18.1.toNat]?).bind λx_e19 =>
 some (([(Ed.mk x_e19 r5.1 0 0 0)] : List Ed),r18.2)
 else
 bif (r6.1 == 16) then
 Sk r6 f2 r5 params4 i3 (decide (f2.Params > 0))
 else
 Sk r6 f2 r5 params4 i3 false
def Si (r6 : Int × Av) (f2 : QT) (r5 : Int × Av) (params4 : (List Int)) (i3 : Int) (x9 : Bool) : Option ((List Ed) × Av) :=
 bif x9 then
 (Pr r6.2 (f2.Slots.length : Int)).bind λr10 =>
 some (([(Ed.mk 15 r5.1 r10.1 0 0)] : List Ed),r10.2)
 else
 bif (decide (r6.1 < 9)) then
 Sj r6 f2 r5 params4 i3 (decide ((f2.Slots.length : Int) > 0))
 else
 Sj r6 f2 r5 params4 i3 false
def Sh (r6 : Int × Av) (f2 : QT) (r5 : Int × Av) (params4 : (List Int)) (i3 : Int) (x7 : Bool) : Option ((List Ed) × Av) :=
 bif x7 then
 (Pr r6.2 (f2.Slots.length : Int)).bind λr8 =>
 some (([(Ed.mk 16 r8.1 r5.1 0 0)] : List Ed),r8.2)
 else
 bif (decide (r6.1 < 6)) then
 Si r6 f2 r5 params4 i3 (decide ((f2.Slots.length : Int) > 0))
 else
 Si r6 f2 r5 params4 i3 false
def TB (c1 : Av) (f2 : QT) (i3 : Int) (params4 : (List Int)) : Option ((List Ed) × Av) :=
 (Pr c1 4).bind λr5 =>
 (Pr r5.2 20).bind λr6 =>
 bif (decide (r6.1 < 3)) then
 Sh r6 f2 r5 params4 i3 (decide ((f2.Slots.length : Int) > 0))
 else
 Sh r6 f2 r5 params4 i3 false

def Sa (k32 : Int) (code31 : List Ed) (r33 : Int × Av) (to34 : Int) (x35 : Bool) : Option (((List Int) × Int × (List Ed) × Int) ⊕ (QT × Av)) :=
 bif x35 then
 chk (0 <= k32 /\ k32 < code31.length) <|
 ((code31)[k32.toNat]?).bind λcode_o38 =>
 cnt (r33.2.list,r33.2.at_,code31.set k32.toNat (Ed.mk code_o38.Op to34 code_o38.B code_o38.C code_o38.Imm),i64.wrap (k32 + 1))
 else
 chk (0 <= k32 /\ k32 < code31.length) <|
 ((code31)[k32.toNat]?).bind λcode_e39 =>
 bif (code_e39.Op == 21) then
 chk (0 <= k32 /\ k32 < code31.length) <|
 ((code31)[k32.toNat]?).bind λcode_e40 =>
 bif (decide (code_e40.B < 0)) then
 chk (0 <= k32 /\ k32 < code31.length) <|
 ((code31)[k32.toNat]?).bind λcode_o41 =>
 cnt (r33.2.list,r33.2.at_,code31.set k32.toNat (Ed.mk code_o41.Op code_o41.A to34 code_o41.C code_o41.Imm),i64.wrap (k32 + 1))
 else
 cnt (r33.2.list,r33.2.at_,code31,i64.wrap (k32 + 1))
 else
 cnt (r33.2.list,r33.2.at_,code31,i64.wrap (k32 + 1))
def Rz (k32 : Int) (code31 : List Ed) (r33 : Int × Av) (to34 : Int) : Option (((List Int) × Int × (List Ed) × Int) ⊕ (QT × Av)) :=
 chk (0 <= k32 /\ k32 < code31.length) <|
 ((code31)[k32.toNat]?).bind λcode_e36 =>
 bif (code_e36.Op == 20) then
 chk (0 <= k32 /\ k32 < code31.length) <|
 ((code31)[k32.toNat]?).bind λcode_e37 =>
 Sa k32 code31 r33 to34 (decide (code_e37.A < 0))
 else
 Sa k32 code31 r33 to34 false
def RZ (x_x5 : Int) (f17 : List QO) (c29 : List Int) (c30 : Int) (code31 : List Ed) (k32 : Int) : Option (((List Int) × Int × (List Ed) × Int) ⊕ (QT × Av)) :=
 bif (decide (k32 < (code31.length : Int))) then
 (Pr (Av.mk c29 c30) 8).bind λr33 =>
 bif (decide ((i64.wrap ((i64.wrap (k32 + r33.1)) - 2)) < 0)) then
 Rz k32 code31 r33 (i64.wrap ((code31.length : Int) - 1))
 else
 bif (decide ((i64.wrap ((i64.wrap (k32 + r33.1)) - 2)) >= (code31.length : Int))) then
 Rz k32 code31 r33 (i64.wrap ((code31.length : Int) - 1))
 else
 Rz k32 code31 r33 (i64.wrap ((i64.wrap (k32 + r33.1)) - 2))
 else
 lft (some ((QT.mk x_x5 f17 code31),(Av.mk c29 c30)))
def RL (code16 : List Ed) (x_x5 : Int) (f17 : List QO) (c23 : List Int) (c24 : Int) (end25 : Int) (end26 : Int) : Option (QT × Av) :=
 chk (code16.length + ([(Ed.mk end25 0 0 0 end26)] : List Ed).length <= 16777216) <|
 Rk (λs=>RZ x_x5 f17 s.1 s.2.1 s.2.2.1 s.2.2.2) (c23,c24,code16 ++ ([(Ed.mk end25 0 0 0 end26)] : List Ed),0)
def SN (x_x5 : Int) (i2 : Int) (params3 : (List Int)) (c14 : List Int) (c15 : Int) (code16 : List Ed) (f17 : List QO) (n18 : Int) : Option (((List Int) × Int × (List Ed) × (List QO) × Int) ⊕ (QT × Av)) :=
 bif (decide (n18 > 0)) then
 (TB (Av.mk c14 c15) (QT.mk x_x5 f17 ([])) i2 params3).bind λr19 =>
 chk (code16.length + r19.1.length <= 16777216) <|
 (Pr r19.2 9).bind λr20 =>
 bif (r20.1 == 7) then
 (Pr r20.2 4).bind λr21 =>
 chk ((code16 ++ r19.1).length + ([(Ed.mk 21 r21.1 (-1) 0 0)] : List Ed).length <= 16777216) <|
 cnt (r21.2.list,r21.2.at_,(code16 ++ r19.1) ++ ([(Ed.mk 21 r21.1 (-1) 0 0)] : List Ed),f17,i64.wrap (n18 - 1))
 else
 bif (r20.1 == 8) then
 (Pr r20.2 3).bind λr22 =>
 bif (r22.1 == 2) then
 chk ((code16 ++ r19.1).length + ([(Ed.mk 20 (-1) 0 0 0)] : List Ed).length <= 16777216) <|
 cnt (r22.2.list,r22.2.at_,(code16 ++ r19.1) ++ ([(Ed.mk 20 (-1) 0 0 0)] : List Ed),f17,i64.wrap (n18 - 1))
 else
 cnt (r22.2.list,r22.2.at_,code16 ++ r19.1,f17,i64.wrap (n18 - 1))
 else
 cnt (r20.2.list,r20.2.at_,code16 ++ r19.1,f17,i64.wrap (n18 - 1))
 else
 lft (
 (Pr (Av.mk c14 c15) 12).bind λr27 =>
 bif (r27.1 == 11) then
 (Sm r27.2).bind λr28 =>
 RL code16 x_x5 f17 r28.2.list r28.2.at_ 24 r28.1
 else
 RL code16 x_x5 f17 r27.2.list r27.2.at_ 23 0)
def SM (r6 : (List QO) × Av) (most4 : Int) (x_x5 : Int) (i2 : Int) (params3 : (List Int)) (c7 : List Int) (c8 : Int) (code9 : List Ed) (s10 : Int) : Option (((List Int) × Int × (List Ed) × Int) ⊕ (QT × Av)) :=
 bif (decide (s10 < (r6.1.length : Int))) then
 (Pr (Av.mk c7 c8) 4).bind λr11 =>
 bif (decide (r11.1 < 3)) then
 (Pr r11.2 4).bind λr12 =>
 chk (code9.length + ([(Ed.mk 16 s10 r12.1 0 0)] : List Ed).length <= 16777216) <|
 cnt (r12.2.list,r12.2.at_,code9 ++ ([(Ed.mk 16 s10 r12.1 0 0)] : List Ed),i64.wrap (s10 + 1))
 else
 cnt (r11.2.list,r11.2.at_,code9,i64.wrap (s10 + 1))
 else
 lft (
 (Pr (Av.mk c7 c8) (i64.wrap (most4 + 1))).bind λr13 =>
 Rk (λs=>SN x_x5 i2 params3 s.1 s.2.1 s.2.2.1 s.2.2.2.1 s.2.2.2.2) (r13.2.list,r13.2.at_,code9,r6.1,r13.1))
def SC (c1 : Av) (i2 : Int) (params3 : (List Int)) (most4 : Int) : Option (QT × Av) :=
 (ixO params3 i2).bind λx_x5 =>
 (Tj c1 6).bind λr6 =>
 Rk (λs=>SM r6 most4 x_x5 i2 params3 s.1 s.2.1 s.2.2.1 s.2.2.2) (r6.2.list,r6.2.at_,([] : List Ed),0)

def SU (most3 : Int) (c10 : List Int) (c11 : Int) (p12 : List QT) (i13 : Int) (params14 : List Int) : Option (((List Int) × Int × (List QT) × Int × (List Int)) ⊕ (Mk × Av)) :=
 bif (decide (i13 < (params14.length : Int))) then
 chk (([] : List QT).length + p12.length <= 16777216) <|
 (SC (Av.mk c10 c11) i13 params14 most3).bind λr15 =>
 chk ((([] : List QT) ++ p12).length + ([r15.1] : List QT).length <= 16777216) <|
 cnt (r15.2.list,r15.2.at_,(([] : List QT) ++ p12) ++ ([r15.1] : List QT),i64.wrap (i13 + 1),params14)
 else
 lft (some ((Mk.mk p12),(Av.mk c10 c11)))
def SS (most3 : Int) (c5 : List Int) (c6 : Int) (params7 : List Int) (n8 : Int) : Option (((List Int) × Int × (List Int) × Int) ⊕ (Mk × Av)) :=
 bif (decide (n8 > 0)) then
 (Pr (Av.mk c5 c6) 4).bind λr9 =>
 chk (params7.length + ([r9.1] : List Int).length <= 16777216) <|
 cnt (r9.2.list,r9.2.at_,params7 ++ ([r9.1] : List Int),i64.wrap (n8 - 1))
 else
 lft (Rk (λs=>SU most3 s.1 s.2.1 s.2.2.1 s.2.2.2.1 s.2.2.2.2) (c5,c6,[],0,params7))
def SQ (c1 : Av) (funcs2 : Int) (most3 : Int) : Option (Mk × Av) :=
 (Pr c1 funcs2).bind λr4 =>
 Rk (λs=>SS most3 s.1 s.2.1 s.2.2.1 s.2.2.2) (r4.2.list,r4.2.at_,([0] : List Int),r4.1)

def RK (c1 : Av) : Option (Int × Av) :=
 (Pr c1 12).bind λr2 =>
 bif (r2.1 == 11) then
 (Pr r2.2 (([9223372036854775807,(-9223372036854775808),2147483648,2147483647,(-1),16777216,33554432,1048577,512,80] : List Int).length : Int)).bind λr3 =>
 chk (0 <= r3.1 /\ r3.1 < ([9223372036854775807,(-9223372036854775808),2147483648,2147483647,(-1),16777216,33554432,1048577,512,80] : List Int).length) <|
 ((([9223372036854775807,(-9223372036854775808),2147483648,2147483647,(-1),16777216,33554432,1048577,512,80] : List Int))[r3.1.toNat]?).bind λl_e4 =>
 some (l_e4,r3.2)
 else
 (Pr r2.2 256).bind λr5 =>
 (Pr r5.2 7).bind λr6 =>
 chk (0 <= r6.1) <|
 some (i64.wrap ((r5.1.fdiv (2 ^ (Nat.min r6.1.toNat i64.bits))) - (i64.wrap (r2.1.tdiv 9))),r6.2)

def Rj (r3 : Int × Av) (p2 : Mk) (c6 : List Int) (c7 : Int) (x8 : List Ed) (x9 : List QO) (f10 : Int) : Option (Mk × Av) :=
 chk (0 <= r3.1 /\ r3.1 < (([] : List QT) ++ p2.Funcs).length) <|
 ((([] : List QT) ++ p2.Funcs)[r3.1.toNat]?).bind λ_ =>
 some ((Mk.mk ((([] : List QT) ++ p2.Funcs).set r3.1.toNat (QT.mk f10 x9 x8))),(Av.mk c6 c7))
def TZ (c1 : Av) (p2 : Mk) : Option (Mk × Av) :=
 chk (([] : List QT).length + p2.Funcs.length <= 16777216) <|
 (Pr c1 ((([] : List QT) ++ p2.Funcs).length : Int)).bind λr3 =>
 chk (0 <= r3.1 /\ r3.1 < (([] : List QT) ++ p2.Funcs).length) <|
 ((([] : List QT) ++ p2.Funcs)[r3.1.toNat]?).bind λl_e4 =>
 bif ((l_e4.Code.length : Int) == 0) then
 some (p2,r3.2)
 else
 chk (([] : List Ed).length + l_e4.Code.length <= 16777216) <|
 chk (([] : List QO).length + l_e4.Slots.length <= 16777216) <|
 (Pr r3.2 ((([] : List Ed) ++ l_e4.Code).length : Int)).bind λr5 =>
 (Pr r5.2 9).bind λr11 =>
 bif (r11.1 == 0) then
 (Pr r11.2 28).bind λr12 =>
 chk (0 <= r5.1 /\ r5.1 < (([] : List Ed) ++ l_e4.Code).length) <|
 ((([] : List Ed) ++ l_e4.Code)[r5.1.toNat]?).bind λx_o13 =>
 Rj r3 p2 r12.2.list r12.2.at_ ((([] : List Ed) ++ l_e4.Code).set r5.1.toNat (Ed.mk (i64.wrap (r12.1 - 1)) x_o13.A x_o13.B x_o13.C x_o13.Imm)) (([] : List QO) ++ l_e4.Slots) l_e4.Params
 else
 bif (r11.1 == 1) then
 (RK r11.2).bind λr14 =>
 chk (0 <= r5.1 /\ r5.1 < (([] : List Ed) ++ l_e4.Code).length) <|
 ((([] : List Ed) ++ l_e4.Code)[r5.1.toNat]?).bind λx_o15 =>
 Rj r3 p2 r14.2.list r14.2.at_ ((([] : List Ed) ++ l_e4.Code).set r5.1.toNat (Ed.mk x_o15.Op r14.1 x_o15.B x_o15.C x_o15.Imm)) (([] : List QO) ++ l_e4.Slots) l_e4.Params
 else
 bif (r11.1 == 2) then
 (RK r11.2).bind λr16 =>
 chk (0 <= r5.1 /\ r5.1 < (([] : List Ed) ++ l_e4.Code).length) <|
 ((([] : List Ed) ++ l_e4.Code)[r5.1.toNat]?).bind λx_o17 =>
 Rj r3 p2 r16.2.list r16.2.at_ ((([] : List Ed) ++ l_e4.Code).set r5.1.toNat (Ed.mk x_o17.Op x_o17.A r16.1 x_o17.C x_o17.Imm)) (([] : List QO) ++ l_e4.Slots) l_e4.Params
 else
 bif (r11.1 == 3) then
 (RK r11.2).bind λr18 =>
 chk (0 <= r5.1 /\ r5.1 < (([] : List Ed) ++ l_e4.Code).length) <|
 ((([] : List Ed) ++ l_e4.Code)[r5.1.toNat]?).bind λx_o19 =>
 Rj r3 p2 r18.2.list r18.2.at_ ((([] : List Ed) ++ l_e4.Code).set r5.1.toNat (Ed.mk x_o19.Op x_o19.A x_o19.B r18.1 x_o19.Imm)) (([] : List QO) ++ l_e4.Slots) l_e4.Params
 else
 bif (r11.1 == 4) then
 (Sm r11.2).bind λr20 =>
 chk (0 <= r5.1 /\ r5.1 < (([] : List Ed) ++ l_e4.Code).length) <|
 ((([] : List Ed) ++ l_e4.Code)[r5.1.toNat]?).bind λx_o21 =>
 Rj r3 p2 r20.2.list r20.2.at_ ((([] : List Ed) ++ l_e4.Code).set r5.1.toNat (Ed.mk x_o21.Op x_o21.A x_o21.B x_o21.C r20.1)) (([] : List QO) ++ l_e4.Slots) l_e4.Params
 else
 bif (r11.1 == 5) then
 (RK r11.2).bind λr22 =>
 Rj r3 p2 r22.2.list r22.2.at_ (([] : List Ed) ++ l_e4.Code) (([] : List QO) ++ l_e4.Slots) r22.1
 else
 bif (r11.1 == 6) then
 (RK r11.2).bind λr23 =>
 (RK r23.2).bind λr24 =>
 chk ((([] : List QO) ++ l_e4.Slots).length + ([(QO.mk r23.1 r24.1)] : List QO).length <= 16777216) <|
 Rj r3 p2 r24.2.list r24.2.at_ (([] : List Ed) ++ l_e4.Code) ((([] : List QO) ++ l_e4.Slots) ++ ([(QO.mk r23.1 r24.1)] : List QO)) l_e4.Params
 else
 bif (r11.1 == 7) then
 chk (0 <= r5.1 /\ r5.1 <= (([] : List Ed) ++ l_e4.Code).length) <|
 Rj r3 p2 r11.2.list r11.2.at_ ((([] : List Ed) ++ l_e4.Code).take r5.1.toNat) (([] : List QO) ++ l_e4.Slots) l_e4.Params
 else
 bif (r11.1 == 8) then
 bif (decide (((([] : List QO) ++ l_e4.Slots).length : Int) > 0)) then
 (Pr r11.2 ((([] : List QO) ++ l_e4.Slots).length : Int)).bind λr25 =>
 (SV r25.2).bind λr26 =>
 chk (0 <= r25.1 /\ r25.1 < (([] : List QO) ++ l_e4.Slots).length) <|
 ((([] : List QO) ++ l_e4.Slots)[r25.1.toNat]?).bind λ_ =>
 Rj r3 p2 r26.2.list r26.2.at_ (([] : List Ed) ++ l_e4.Code) ((([] : List QO) ++ l_e4.Slots).set r25.1.toNat r26.1) l_e4.Params
 else
 Rj r3 p2 r11.2.list r11.2.at_ (([] : List Ed) ++ l_e4.Code) (([] : List QO) ++ l_e4.Slots) l_e4.Params
 else
 Rj r3 p2 r11.2.list r11.2.at_ (([] : List Ed) ++ l_e4.Code) (([] : List QO) ++ l_e4.Slots) l_e4.Params

def TN (n1 : Int) (limit2 : Int) : Option (Bool) :=
 bif (decide (n1 >= 0)) then
 some (decide (n1 < limit2))
 else
 some false

def UI (n1 : Int) : Option (Bool) :=
 bif (decide (n1 >= 1)) then
 bif (decide (n1 <= 16)) then
 some ((i64.wrap ((BitVec.ofInt i64.bits n1 &&& BitVec.ofInt i64.bits (i64.wrap (n1 - 1))).toNat)) == 0)
 else
 some false
 else
 some false

def Tk (n1 : Int) : Option (Bool) :=
 bif (decide (n1 >= 1)) then
 bif (decide (n1 <= 16777216)) then
 some ((i64.wrap ((BitVec.ofInt i64.bits n1 &&& BitVec.ofInt i64.bits (i64.wrap (n1 - 1))).toNat)) == 0)
 else
 some false
 else
 some false

def Ub (x1 : QO) : Option (Bool) :=
 (UI x1.Size).bind λr2 =>
 bif (!r2) then
 some true
 else
 (Tk x1.Align).bind λr3 =>
 some (!r3)

def Rl (s1 : (List QO)) (x2 : Int) : Option ((Int) ⊕ (Int)) :=
 bif (decide (x2 < (s1.length : Int))) then
 (ixO s1 x2).bind λx_x3 =>
 (Ub x_x3).bind λr4 =>
 bif r4 then
 lft (some x2)
 else
 cnt (i64.wrap (x2 + 1))
 else
 lft (some (-1))
def Ru (s1 : (List QO)) : Option (Int) :=
 Rk (λs=>Rl s1 s) 0

def Rp (s1 : (List QO)) : Option (Bool) :=
 (Ru s1).bind λr2 =>
 some (decide (r2 >= 0))

def Ua (s1 : (List QO)) : Option (Int) :=
 bif (decide ((s1.length : Int) > 512)) then
 some 3
 else
 (Rp s1).bind λr2 =>
 bif r2 then
 some 5
 else
 some 0

def VE (p1 : Mk) (f2 : QT) : Option (Ra) :=
 some (Ra.mk 1 8 (f2.Slots.length : Int) (p1.Funcs.length : Int) 8 f2.Params (f2.Code.length : Int))

def Sq (e5 : RU) (x3 : Ed) (r9 : Ra) (f2 : QT) (wrong10 : Int) (x11 : Int) : Option ((Int × Int) ⊕ (Int)) :=
 bif (decide (x11 < 3)) then
 chk (0 <= x11 /\ x11 < 3) <|
 (((RA.mk e5.a e5.b e5.c).toList)[x11.toNat]?).bind λe12 =>
 chk (0 <= x11 /\ x11 < 3) <|
 (((RA.mk x3.A x3.B x3.C).toList)[x11.toNat]?).bind λnumbers_e13 =>
 chk (0 <= e12 /\ e12 < 7) <|
 ((r9.toList)[e12.toNat]?).bind λall_e14 =>
 (TN numbers_e13 all_e14).bind λr15 =>
 bif r15 then
 cnt (wrong10,i64.wrap (x11 + 1))
 else
 bif (e12 != 6) then
 lft (some 4)
 else
 cnt (6,i64.wrap (x11 + 1))
 else
 lft (
 bif (x3.Op == 17) then
 (ixO f2.Slots x3.A).bind λx_x16 =>
 (ixO f2.Slots x3.B).bind λx_x17 =>
 bif (x_x16.Size != x_x17.Size) then
 some 5
 else
 some wrong10
 else
 some wrong10)
def SR (p1 : Mk) (f2 : QT) (e5 : RU) (x3 : Ed) : Option (Int) :=
 (VE p1 f2).bind λr9 =>
 Rk (λs=>Sq e5 x3 r9 f2 s.1 s.2) (0,0)
def Sp (e5 : RU) (x3 : Ed) (p1 : Mk) (f2 : QT) (x6 : Int) : Option ((Int) ⊕ (Int)) :=
 bif (decide (x6 < 3)) then
 chk (0 <= x6 /\ x6 < 3) <|
 (((RA.mk e5.a e5.b e5.c).toList)[x6.toNat]?).bind λe7 =>
 bif (e7 == 0) then
 chk (0 <= x6 /\ x6 < 3) <|
 (((RA.mk x3.A x3.B x3.C).toList)[x6.toNat]?).bind λnumbers_e8 =>
 bif (numbers_e8 != 0) then
 lft (some 2)
 else
 cnt (i64.wrap (x6 + 1))
 else
 cnt (i64.wrap (x6 + 1))
 else
 lft (
 bif (!e5.imm) then
 bif (x3.Imm != 0) then
 some 2
 else
 SR p1 f2 e5 x3
 else
 SR p1 f2 e5 x3)
def TM (p1 : Mk) (f2 : QT) (x3 : Ed) : Option (Int) :=
 (TN x3.Op 25).bind λr4 =>
 bif (!r4) then
 some 4
 else
 chk (0 <= x3.Op /\ x3.Op < 25) <|
 (((TL.map λq=>RU.mk q.1 q.2.1 q.2.2.1 q.2.2.2))[x3.Op.toNat]?).bind λe5 =>
 Rk (λs=>Sp e5 x3 p1 f2 s) 0

def UF (op1 : Int) : Option (Bool) :=
 bif (op1 == 20) then
 some true
 else
 bif (op1 == 23) then
 some true
 else
 some (op1 == 24)

def Sd (x_x4 : QT) (p1 : Mk) (x7 : Int) : Option ((Int) ⊕ (Int)) :=
 bif (decide (x7 < (x_x4.Code.length : Int))) then
 (ixO x_x4.Code x7).bind λx_x8 =>
 (TM p1 x_x4 x_x8).bind λr9 =>
 bif (r9 != 0) then
 lft (some r9)
 else
 cnt (i64.wrap (x7 + 1))
 else
 lft (
 bif ((x_x4.Code.length : Int) == 0) then
 some 6
 else
 (ixO x_x4.Code (i64.wrap ((x_x4.Code.length : Int) - 1))).bind λx_x10 =>
 (UF x_x10.Op).bind λr11 =>
 bif (!r11) then
 some 6
 else
 some 0)
def Un (p1 : Mk) (i2 : Int) : Option (Int) :=
 (TN i2 (p1.Funcs.length : Int)).bind λr3 =>
 bif (!r3) then
 some 4
 else
 (ixO p1.Funcs i2).bind λx_x4 =>
 bif (decide ((x_x4.Code.length : Int) > 1024)) then
 some 3
 else
 (Ua x_x4.Slots).bind λr5 =>
 bif (r5 != 0) then
 some r5
 else
 (TN x_x4.Params 9).bind λr6 =>
 bif (!r6) then
 some 4
 else
 Rk (λs=>Sd x_x4 p1 s) 0

def To (p1 : Mk) (x3 : Int) : Option ((Int) ⊕ (Int)) :=
 bif (decide (x3 < (p1.Funcs.length : Int))) then
 (Un p1 x3).bind λr4 =>
 bif (r4 != 0) then
 lft (some r4)
 else
 cnt (i64.wrap (x3 + 1))
 else
 lft (some 0)
def Vv (p1 : Mk) : Option (Int) :=
 bif (decide ((p1.Funcs.length : Int) > 80)) then
 some 3
 else
 bif ((p1.Funcs.length : Int) == 0) then
 some 4
 else
 (ixO p1.Funcs 0).bind λx_x2 =>
 bif (x_x2.Params != 0) then
 some 7
 else
 Rk (λs=>To p1 s) 0

def RV (x_x5 : QT) (x4 : Int) (out12 : List UInt8) (x13 : Int) : Option (((List UInt8) × Int) ⊕ (((List UInt8) × Int) ⊕ ((List UInt8) × Int))) :=
 bif (decide (x13 < (x_x5.Code.length : Int))) then
 (ixO x_x5.Code x13).bind λx_x14 =>
 (Sc x_x14).bind λr15 =>
 chk (r15.length + ([10]).length <= 16777216) <|
 chk (out12.length + (r15 ++ ([10])).length <= 16777216) <|
 cnt (out12 ++ (r15 ++ ([10])),i64.wrap (x13 + 1))
 else
 lft (cnt (out12,i64.wrap (x4 + 1)))
def RN (x_x5 : QT) (x4 : Int) (out7 : List UInt8) (x8 : Int) : Option (((List UInt8) × Int) ⊕ (((List UInt8) × Int) ⊕ ((List UInt8) × Int))) :=
 bif (decide (x8 < (x_x5.Slots.length : Int))) then
 (ixO x_x5.Slots x8).bind λx_x9 =>
 (WD x_x9.Size).bind λr10 =>
 chk (([115,108,111,116,32]).length + r10.length <= 16777216) <|
 chk ((([115,108,111,116,32]) ++ r10).length + ([32]).length <= 16777216) <|
 (WD x_x9.Align).bind λr11 =>
 chk (((([115,108,111,116,32]) ++ r10) ++ ([32])).length + r11.length <= 16777216) <|
 chk ((((([115,108,111,116,32]) ++ r10) ++ ([32])) ++ r11).length + ([10]).length <= 16777216) <|
 chk (out7.length + ((((([115,108,111,116,32]) ++ r10) ++ ([32])) ++ r11) ++ ([10])).length <= 16777216) <|
 cnt (out7 ++ ((((([115,108,111,116,32]) ++ r10) ++ ([32])) ++ r11) ++ ([10])),i64.wrap (x8 + 1))
 else
 lft (Rk (λs=>RV x_x5 x4 s.1 s.2) (out7,0))
def RI (p1 : Mk) (out3 : List UInt8) (x4 : Int) : Option (((List UInt8) × Int) ⊕ ((List UInt8) × Int)) :=
 bif (decide (x4 < (p1.Funcs.length : Int))) then
 (ixO p1.Funcs x4).bind λx_x5 =>
 (WD x_x5.Params).bind λr6 =>
 chk (([102,117,110,99,32]).length + r6.length <= 16777216) <|
 chk ((([102,117,110,99,32]) ++ r6).length + ([10]).length <= 16777216) <|
 chk (out3.length + ((([102,117,110,99,32]) ++ r6) ++ ([10])).length <= 16777216) <|
 Rk (λs=>RN x_x5 x4 s.1 s.2) (out3 ++ ((([102,117,110,99,32]) ++ r6) ++ ([10])),0)
 else
 lft (
 bif (decide ((out3.length : Int) > 65536)) then
 some ([],3)
 else
 chk (out3 ≠ []) <|
 some (out3,0))
def Uh (p1 : Mk) : Option ((List UInt8) × Int) :=
 (Vv p1).bind λr2 =>
 bif (r2 != 0) then
 some ([],r2)
 else
 Rk (λs=>RI p1 s.1 s.2) (([] : List UInt8),0)

def Rs (k1 : Int) (n2 : Int) : Option (Bool) :=
 bif (decide (k1 >= 0)) then
 some (decide (k1 < n2))
 else
 some false

def TI (n1 : Int) : Option (Bool) :=
 bif (n1 == 1) then
 some true
 else
 bif (n1 == 2) then
 some true
 else
 bif (n1 == 4) then
 some true
 else
 bif (n1 == 8) then
 some true
 else
 some (n1 == 16)

def RM (n1 : Int) (k2 : Int) : Option ((Int) ⊕ (Bool)) :=
 bif (decide (k2 <= 16777216)) then
 bif (n1 == k2) then
 lft (some true)
 else
 cnt (i64.wrap (k2 * 2))
 else
 lft (some false)
def Ur (n1 : Int) : Option (Bool) :=
 Rk (λs=>RM n1 s) 1

def UD (s1 : (List QO)) (i2 : Int) : Option ((Int) ⊕ (Int)) :=
 bif (decide (i2 < (s1.length : Int))) then
 (ixO s1 i2).bind λx_x3 =>
 (TI x_x3.Size).bind λr4 =>
 bif (!r4) then
 lft (some 5)
 else
 (ixO s1 i2).bind λx_x5 =>
 (Ur x_x5.Align).bind λr6 =>
 bif (!r6) then
 lft (some 5)
 else
 cnt (i64.wrap (i2 + 1))
 else
 lft (some 0)
def Us (s1 : (List QO)) : Option (Int) :=
 bif (decide ((s1.length : Int) > 512)) then
 some 3
 else
 Rk (λs=>UD s1 s) 0

def QP (op1 : Int) (x4 : Bool) : Option (Bool × Bool × Bool × Bool) :=
 bif x4 then
 some (true,false,false,false)
 else
 bif (op1 == 24) then
 some (false,false,false,true)
 else
 some (false,false,false,false)
def QK (op1 : Int) (x3 : Bool) : Option (Bool × Bool × Bool × Bool) :=
 bif x3 then
 some (true,true,true,false)
 else
 bif (op1 == 13) then
 QP op1 (op1 == 13)
 else
 bif (op1 == 14) then
 QP op1 (op1 == 14)
 else
 bif (op1 == 20) then
 QP op1 (op1 == 20)
 else
 QP op1 (op1 == 22)
def QM (op1 : Int) (x2 : Bool) : Option (Bool × Bool × Bool × Bool) :=
 bif x2 then
 some (true,true,false,false)
 else
 bif (op1 == 2) then
 QK op1 (op1 == 2)
 else
 bif (op1 == 3) then
 QK op1 (op1 == 3)
 else
 bif (op1 == 4) then
 QK op1 (op1 == 4)
 else
 bif (op1 == 5) then
 QK op1 (op1 == 5)
 else
 bif (op1 == 6) then
 QK op1 (op1 == 6)
 else
 bif (op1 == 7) then
 QK op1 (op1 == 7)
 else
 bif (op1 == 8) then
 QK op1 (op1 == 8)
 else
 bif (op1 == 9) then
 QK op1 (op1 == 9)
 else
 bif (op1 == 10) then
 QK op1 (op1 == 10)
 else
 QK op1 (op1 == 11)
def QV (op1 : Int) : Option (Bool × Bool × Bool × Bool) :=
 bif (op1 == 0) then
 some (true,false,false,true)
 else
 bif (op1 == 1) then
 QM op1 (op1 == 1)
 else
 bif (op1 == 12) then
 QM op1 (op1 == 12)
 else
 bif (op1 == 15) then
 QM op1 (op1 == 15)
 else
 bif (op1 == 16) then
 QM op1 (op1 == 16)
 else
 bif (op1 == 17) then
 QM op1 (op1 == 17)
 else
 bif (op1 == 18) then
 QM op1 (op1 == 18)
 else
 bif (op1 == 19) then
 QM op1 (op1 == 19)
 else
 QM op1 (op1 == 21)

def Rt (n1 : Int) : Option (Bool) :=
 bif (decide (n1 >= 0)) then
 some (decide (n1 < 8))
 else
 some false

def QL (x3 : Ed) (f2 : QT) (p1 : Mk) (x9 : Bool) : Option (Bool) :=
 bif x9 then
 (Rt x3.A).bind λr10 =>
 bif r10 then
 (Rt x3.B).bind λr11 =>
 bif r11 then
 (Rt x3.C).bind λr12 =>
 some r12
 else
 some false
 else
 some false
 else
 bif (x3.Op == 15) then
 (Rt x3.A).bind λr13 =>
 bif r13 then
 (Rs x3.B (f2.Slots.length : Int)).bind λr14 =>
 some r14
 else
 some false
 else
 bif (x3.Op == 16) then
 (Rs x3.A (f2.Slots.length : Int)).bind λr15 =>
 bif r15 then
 (Rt x3.B).bind λr16 =>
 some r16
 else
 some false
 else
 bif (x3.Op == 17) then
 (Rs x3.A (f2.Slots.length : Int)).bind λr17 =>
 bif r17 then
 (Rs x3.B (f2.Slots.length : Int)).bind λr18 =>
 some r18
 else
 some false
 else
 bif (x3.Op == 18) then
 (Rs x3.A 8).bind λr19 =>
 bif r19 then
 (Rt x3.B).bind λr20 =>
 some r20
 else
 some false
 else
 bif (x3.Op == 19) then
 (Rt x3.A).bind λr21 =>
 bif r21 then
 (Rs x3.B f2.Params).bind λr22 =>
 some r22
 else
 some false
 else
 bif (x3.Op == 21) then
 (Rt x3.A).bind λr23 =>
 some r23
 else
 bif (x3.Op == 22) then
 (Rs x3.A (p1.Funcs.length : Int)).bind λr24 =>
 some r24
 else
 some true
def QS (x3 : Ed) (f2 : QT) (p1 : Mk) (x6 : Bool) : Option (Bool) :=
 bif x6 then
 (Rt x3.A).bind λr7 =>
 bif r7 then
 (Rt x3.B).bind λr8 =>
 some r8
 else
 some false
 else
 bif (x3.Op == 2) then
 QL x3 f2 p1 (x3.Op == 2)
 else
 bif (x3.Op == 3) then
 QL x3 f2 p1 (x3.Op == 3)
 else
 bif (x3.Op == 4) then
 QL x3 f2 p1 (x3.Op == 4)
 else
 bif (x3.Op == 5) then
 QL x3 f2 p1 (x3.Op == 5)
 else
 bif (x3.Op == 6) then
 QL x3 f2 p1 (x3.Op == 6)
 else
 bif (x3.Op == 7) then
 QL x3 f2 p1 (x3.Op == 7)
 else
 bif (x3.Op == 8) then
 QL x3 f2 p1 (x3.Op == 8)
 else
 bif (x3.Op == 9) then
 QL x3 f2 p1 (x3.Op == 9)
 else
 bif (x3.Op == 10) then
 QL x3 f2 p1 (x3.Op == 10)
 else
 QL x3 f2 p1 (x3.Op == 11)
def QQ (x3 : Ed) (f2 : QT) (p1 : Mk) (x4 : Bool) : Option (Bool) :=
 bif x4 then
 (Rt x3.A).bind λr5 =>
 some r5
 else
 bif (x3.Op == 1) then
 QS x3 f2 p1 (x3.Op == 1)
 else
 QS x3 f2 p1 (x3.Op == 12)
def QY (p1 : Mk) (f2 : QT) (x3 : Ed) : Option (Bool) :=
 bif (x3.Op == 0) then
 QQ x3 f2 p1 (x3.Op == 0)
 else
 bif (x3.Op == 13) then
 QQ x3 f2 p1 (x3.Op == 13)
 else
 QQ x3 f2 p1 (x3.Op == 14)

def QN (x_x8 : Ed) (x_x7 : QT) : Option (Int) :=
 bif (x_x8.Op == 20) then
 (Rs x_x8.A (x_x7.Code.length : Int)).bind λr14 =>
 bif (!r14) then
 some 6
 else
 bif (x_x8.Op == 21) then
 (Rs x_x8.B (x_x7.Code.length : Int)).bind λr15 =>
 bif (!r15) then
 some 6
 else
 some 0
 else
 some 0
 else
 bif (x_x8.Op == 21) then
 (Rs x_x8.B (x_x7.Code.length : Int)).bind λr16 =>
 bif (!r16) then
 some 6
 else
 some 0
 else
 some 0
def Lo (p1 : Mk) (x_x7 : QT) (x_x8 : Ed) : Option (Int) :=
 (QY p1 x_x7 x_x8).bind λr11 =>
 bif (!r11) then
 some 4
 else
 bif (x_x8.Op == 17) then
 (ixO x_x7.Slots x_x8.A).bind λx_x12 =>
 (ixO x_x7.Slots x_x8.B).bind λx_x13 =>
 bif (x_x12.Size != x_x13.Size) then
 some 5
 else
 QN x_x8 x_x7
 else
 QN x_x8 x_x7
def SE (p1 : Mk) (i2 : Int) (k3 : Int) : Option (Int) :=
 (ixO p1.Funcs i2).bind λx_x7 =>
 (ixO x_x7.Code k3).bind λx_x8 =>
 (Rs x_x8.Op 25).bind λr9 =>
 bif (!r9) then
 some 4
 else
 (QV x_x8.Op).bind λr10 =>
 bif (!r10.1) then
 bif (x_x8.A != 0) then
 some 2
 else
 bif (!r10.2.1) then
 bif (x_x8.B != 0) then
 some 2
 else
 bif (!r10.2.2.1) then
 bif (x_x8.C != 0) then
 some 2
 else
 bif (!r10.2.2.2) then
 bif (x_x8.Imm != 0) then
 some 2
 else
 Lo p1 x_x7 x_x8
 else
 Lo p1 x_x7 x_x8
 else
 bif (!r10.2.2.2) then
 bif (x_x8.Imm != 0) then
 some 2
 else
 Lo p1 x_x7 x_x8
 else
 Lo p1 x_x7 x_x8
 else
 bif (!r10.2.2.1) then
 bif (x_x8.C != 0) then
 some 2
 else
 bif (!r10.2.2.2) then
 bif (x_x8.Imm != 0) then
 some 2
 else
 Lo p1 x_x7 x_x8
 else
 Lo p1 x_x7 x_x8
 else
 bif (!r10.2.2.2) then
 bif (x_x8.Imm != 0) then
 some 2
 else
 Lo p1 x_x7 x_x8
 else
 Lo p1 x_x7 x_x8
 else
 bif (!r10.2.1) then
 bif (x_x8.B != 0) then
 some 2
 else
 bif (!r10.2.2.1) then
 bif (x_x8.C != 0) then
 some 2
 else
 bif (!r10.2.2.2) then
 bif (x_x8.Imm != 0) then
 some 2
 else
 Lo p1 x_x7 x_x8
 else
 Lo p1 x_x7 x_x8
 else
 bif (!r10.2.2.2) then
 bif (x_x8.Imm != 0) then
 some 2
 else
 Lo p1 x_x7 x_x8
 else
 Lo p1 x_x7 x_x8
 else
 bif (!r10.2.2.1) then
 bif (x_x8.C != 0) then
 some 2
 else
 bif (!r10.2.2.2) then
 bif (x_x8.Imm != 0) then
 some 2
 else
 Lo p1 x_x7 x_x8
 else
 Lo p1 x_x7 x_x8
 else
 bif (!r10.2.2.2) then
 bif (x_x8.Imm != 0) then
 some 2
 else
 Lo p1 x_x7 x_x8
 else
 Lo p1 x_x7 x_x8
def SF (p1 : Mk) (i2 : Int) (k3 : Int) : Option (Int) :=
 (Rs i2 (p1.Funcs.length : Int)).bind λr4 =>
 bif (!r4) then
 some 4
 else
 (ixO p1.Funcs i2).bind λx_x5 =>
 (Rs k3 (x_x5.Code.length : Int)).bind λr6 =>
 bif (!r6) then
 some 4
 else
 SE p1 i2 k3

def SH (op1 : Int) : Option (Bool) :=
 bif (op1 == 20) then
 some true
 else
 bif (op1 == 23) then
 some true
 else
 some (op1 == 24)

def RT (x_x4 : QT) (p1 : Mk) (i2 : Int) (k6 : Int) : Option ((Int) ⊕ (Int)) :=
 bif (decide (k6 < (x_x4.Code.length : Int))) then
 (SF p1 i2 k6).bind λr7 =>
 bif (r7 != 0) then
 lft (some r7)
 else
 cnt (i64.wrap (k6 + 1))
 else
 lft (
 bif ((x_x4.Code.length : Int) == 0) then
 some 6
 else
 (ixO x_x4.Code (i64.wrap ((x_x4.Code.length : Int) - 1))).bind λx_x8 =>
 (SH x_x8.Op).bind λr9 =>
 bif (!r9) then
 some 6
 else
 some 0)
def Uy (x_x4 : QT) (p1 : Mk) (i2 : Int) : Option (Int) :=
 Rk (λs=>RT x_x4 p1 i2 s) 0
def TJ (p1 : Mk) (i2 : Int) : Option (Int) :=
 (Rs i2 (p1.Funcs.length : Int)).bind λr3 =>
 bif (!r3) then
 some 4
 else
 (ixO p1.Funcs i2).bind λx_x4 =>
 bif (decide ((x_x4.Code.length : Int) > 1024)) then
 some 3
 else
 (Us x_x4.Slots).bind λr5 =>
 bif (r5 != 0) then
 some r5
 else
 bif (decide (x_x4.Params < 0)) then
 some 4
 else
 bif (decide (x_x4.Params > 8)) then
 some 4
 else
 Uy x_x4 p1 i2

def SG (p1 : Mk) (i3 : Int) : Option ((Int) ⊕ (Int)) :=
 bif (decide (i3 < (p1.Funcs.length : Int))) then
 (TJ p1 i3).bind λr4 =>
 bif (r4 != 0) then
 lft (some r4)
 else
 cnt (i64.wrap (i3 + 1))
 else
 lft (some 0)
def UO (p1 : Mk) : Option (Int) :=
 bif (decide ((p1.Funcs.length : Int) > 80)) then
 some 3
 else
 bif ((p1.Funcs.length : Int) == 0) then
 some 4
 else
 (ixO p1.Funcs 0).bind λx_x2 =>
 bif (x_x2.Params != 0) then
 some 7
 else
 Rk (λs=>SG p1 s) 0

def SI (u2 : Int) (s3 : List UInt8) : Option ((Int × (List UInt8)) ⊕ ((List UInt8))) :=
 chk ((Xo ([u8.wrap (u64.wrap (48 + (u2.tmod 10)))] : List Int)).length + s3.length <= 16777216) <|
 bif ((u64.wrap (u2.tdiv 10)) == 0) then
 lft (some ((Xo ([u8.wrap (u64.wrap (48 + (u2.tmod 10)))] : List Int)) ++ s3))
 else
 cnt (u64.wrap (u2.tdiv 10),(Xo ([u8.wrap (u64.wrap (48 + (u2.tmod 10)))] : List Int)) ++ s3)
def Ss (u1 : Int) : Option ((List UInt8)) :=
 Rk (λs=>SI s.1 s.2) (u1,[])

def Tf (n1 : Int) : Option ((List UInt8)) :=
 bif (decide (n1 < 0)) then
 (Ss (u64.wrap (0 - (u64.wrap (n1))))).bind λr2 =>
 chk (([45]).length + r2.length <= 16777216) <|
 some (([45]) ++ r2)
 else
 (Ss (u64.wrap (n1))).bind λr3 =>
 some r3

def Ul (op1 : Int) : Option ((List UInt8)) :=
 bif (decide (op1 < 0)) then
 some ([63])
 else
 bif (decide (op1 >= (([[99,111,110,115,116],[99,111,112,121],[97,100,100],[115,117,98],[109,117,108],[100,105,118],[97,110,100],[111,114],[120,111,114],[108,101,115,115],[101,113,117,97,108],[112,97,105,114],[104,105,103,104],[105,110],[111,117,116],[108,111,97,100],[115,116,111,114,101],[109,111,118,101],[97,114,103],[112,97,114,97,109],[106,117,109,112],[98,114,97,110,99,104],[99,97,108,108],[114,101,116,117,114,110],[116,114,97,112]] : List (List UInt8)).length : Int))) then
 some ([63])
 else
 chk (0 <= op1 /\ op1 < ([[99,111,110,115,116],[99,111,112,121],[97,100,100],[115,117,98],[109,117,108],[100,105,118],[97,110,100],[111,114],[120,111,114],[108,101,115,115],[101,113,117,97,108],[112,97,105,114],[104,105,103,104],[105,110],[111,117,116],[108,111,97,100],[115,116,111,114,101],[109,111,118,101],[97,114,103],[112,97,114,97,109],[106,117,109,112],[98,114,97,110,99,104],[99,97,108,108],[114,101,116,117,114,110],[116,114,97,112]] : List (List UInt8)).length) <|
 ((([[99,111,110,115,116],[99,111,112,121],[97,100,100],[115,117,98],[109,117,108],[100,105,118],[97,110,100],[111,114],[120,111,114],[108,101,115,115],[101,113,117,97,108],[112,97,105,114],[104,105,103,104],[105,110],[111,117,116],[108,111,97,100],[115,116,111,114,101],[109,111,118,101],[97,114,103],[112,97,114,97,109],[106,117,109,112],[98,114,97,110,99,104],[99,97,108,108],[114,101,116,117,114,110],[116,114,97,112]] : List (List UInt8)))[op1.toNat]?).bind λnames_e2 =>
 some names_e2

def UP (op1 : Int) : Option ((List UInt8) × (List UInt8) × (List UInt8)) :=
 bif (op1 == 15) then
 some ([114],[115],[])
 else
 bif (op1 == 16) then
 some ([115],[114],[])
 else
 bif (op1 == 17) then
 some ([115],[115],[])
 else
 bif (op1 == 18) then
 some ([97],[114],[])
 else
 bif (op1 == 19) then
 some ([114],[97],[])
 else
 bif (op1 == 20) then
 some ([64],[],[])
 else
 bif (op1 == 21) then
 some ([114],[64],[])
 else
 bif (op1 == 22) then
 some ([102],[],[])
 else
 some ([114],[114],[114])

def Ti (r3 : Bool × Bool × Bool × Bool) (x1 : Ed) (s9 : List UInt8) : Option ((List UInt8)) :=
 bif r3.2.2.2 then
 (Ss x1.Imm).bind λr11 =>
 chk (([32]).length + r11.length <= 16777216) <|
 chk (s9.length + (([32]) ++ r11).length <= 16777216) <|
 some (s9 ++ (([32]) ++ r11))
 else
 some s9
def Th (r3 : Bool × Bool × Bool × Bool) (r4 : (List UInt8) × (List UInt8) × (List UInt8)) (x1 : Ed) (s7 : List UInt8) : Option ((List UInt8)) :=
 bif r3.2.2.1 then
 chk (([32]).length + r4.2.2.length <= 16777216) <|
 (Tf x1.C).bind λr10 =>
 chk ((([32]) ++ r4.2.2).length + r10.length <= 16777216) <|
 chk (s7.length + ((([32]) ++ r4.2.2) ++ r10).length <= 16777216) <|
 Ti r3 x1 (s7 ++ ((([32]) ++ r4.2.2) ++ r10))
 else
 Ti r3 x1 s7
def Tg (r3 : Bool × Bool × Bool × Bool) (r4 : (List UInt8) × (List UInt8) × (List UInt8)) (x1 : Ed) (s5 : List UInt8) : Option ((List UInt8)) :=
 bif r3.2.1 then
 chk (([32]).length + r4.2.1.length <= 16777216) <|
 (Tf x1.B).bind λr8 =>
 chk ((([32]) ++ r4.2.1).length + r8.length <= 16777216) <|
 chk (s5.length + ((([32]) ++ r4.2.1) ++ r8).length <= 16777216) <|
 Th r3 r4 x1 (s5 ++ ((([32]) ++ r4.2.1) ++ r8))
 else
 Th r3 r4 x1 s5
def Sb (x1 : Ed) : Option ((List UInt8)) :=
 (Ul x1.Op).bind λr2 =>
 bif (r2 == ([63])) then
 some r2
 else
 (QV x1.Op).bind λr3 =>
 (UP x1.Op).bind λr4 =>
 bif r3.1 then
 chk (([32]).length + r4.1.length <= 16777216) <|
 (Tf x1.A).bind λr6 =>
 chk ((([32]) ++ r4.1).length + r6.length <= 16777216) <|
 chk (r2.length + ((([32]) ++ r4.1) ++ r6).length <= 16777216) <|
 Tg r3 r4 x1 (r2 ++ ((([32]) ++ r4.1) ++ r6))
 else
 Tg r3 r4 x1 r2

def Uu (i5 : Int) (s6 : List UInt8) : Option (((List UInt8) × Int) ⊕ ((List UInt8) × Int)) :=
 cnt (s6,i64.wrap (i5 + 1))
def So (x_x7 : QT) (i5 : Int) (s15 : List UInt8) (k16 : Int) : Option (((List UInt8) × Int) ⊕ (((List UInt8) × Int) ⊕ ((List UInt8) × Int))) :=
 bif (decide (k16 < (x_x7.Code.length : Int))) then
 (ixO x_x7.Code k16).bind λx_x17 =>
 (Sb x_x17).bind λr18 =>
 chk (r18.length + ([10]).length <= 16777216) <|
 chk (s15.length + (r18 ++ ([10])).length <= 16777216) <|
 cnt (s15 ++ (r18 ++ ([10])),i64.wrap (k16 + 1))
 else
 lft (Uu i5 s15)
def RY (x_x7 : QT) (i5 : Int) (s9 : List UInt8) (k10 : Int) : Option (((List UInt8) × Int) ⊕ (((List UInt8) × Int) ⊕ ((List UInt8) × Int))) :=
 bif (decide (k10 < (x_x7.Slots.length : Int))) then
 (ixO x_x7.Slots k10).bind λx_x11 =>
 (Tf x_x11.Size).bind λr12 =>
 chk (([115,108,111,116,32]).length + r12.length <= 16777216) <|
 chk ((([115,108,111,116,32]) ++ r12).length + ([32]).length <= 16777216) <|
 (ixO x_x7.Slots k10).bind λx_x13 =>
 (Tf x_x13.Align).bind λr14 =>
 chk (((([115,108,111,116,32]) ++ r12) ++ ([32])).length + r14.length <= 16777216) <|
 chk ((((([115,108,111,116,32]) ++ r12) ++ ([32])) ++ r14).length + ([10]).length <= 16777216) <|
 chk (s9.length + ((((([115,108,111,116,32]) ++ r12) ++ ([32])) ++ r14) ++ ([10])).length <= 16777216) <|
 cnt (s9 ++ ((((([115,108,111,116,32]) ++ r12) ++ ([32])) ++ r14) ++ ([10])),i64.wrap (k10 + 1))
 else
 lft (Rk (λs=>So x_x7 i5 s.1 s.2) (s9,0))
def TK (p1 : Mk) (i5 : Int) (s4 : List UInt8) : Option (((List UInt8) × Int) ⊕ ((List UInt8) × Int)) :=
 (ixO p1.Funcs i5).bind λx_x7 =>
 (Tf x_x7.Params).bind λr8 =>
 chk (([102,117,110,99,32]).length + r8.length <= 16777216) <|
 chk ((([102,117,110,99,32]) ++ r8).length + ([10]).length <= 16777216) <|
 chk (s4.length + ((([102,117,110,99,32]) ++ r8) ++ ([10])).length <= 16777216) <|
 Rk (λs=>RY x_x7 i5 s.1 s.2) (s4 ++ ((([102,117,110,99,32]) ++ r8) ++ ([10])),0)
def SW (s3 : List UInt8) : Option ((List UInt8) × Int) :=
 bif (decide ((s3.length : Int) > 65536)) then
 some ([],3)
 else
 some (s3,0)
def RX (p1 : Mk) (s4 : List UInt8) (i5 : Int) : Option (((List UInt8) × Int) ⊕ ((List UInt8) × Int)) :=
 bif (decide (i5 < (p1.Funcs.length : Int))) then
 bif (decide ((s4.length : Int) <= 65536)) then
 TK p1 i5 s4
 else
 lft (SW s4)
 else
 lft (SW s4)
def Uz (p1 : Mk) : Option ((List UInt8) × Int) :=
 (UO p1).bind λr2 =>
 bif (r2 != 0) then
 some ([],r2)
 else
 Rk (λs=>RX p1 s.1 s.2) ([],0)

def SO (r4 : Mk × Av) (r5 : Mk × Av) (x6 : Int) : Option ((Int) ⊕ (Bool)) :=
 bif (decide (x6 < (([r4.1,r5.1,(Mk.mk ([]))] : List Mk).length : Int))) then
 chk (0 <= x6 /\ x6 < ([r4.1,r5.1,(Mk.mk ([]))] : List Mk).length) <|
 ((([r4.1,r5.1,(Mk.mk ([]))] : List Mk))[x6.toNat]?).bind λx_e7 =>
 (Uh x_e7).bind λr8 =>
 (Uz x_e7).bind λr9 =>
 bif (r8.2 != r9.2) then
 lft (some false)
 else
 bif (!(r8.1 == r9.1)) then
 lft (some false)
 else
 cnt (i64.wrap (x6 + 1))
 else
 lft (some true)
def SD (codes1 : (List Int)) : Option (Bool) :=
 (UN).bind λr2 =>
 bif (!r2) then
 some false
 else
 (VM codes1 200).bind λr3 =>
 (SQ r3 4 10).bind λr4 =>
 (TZ r4.2 r4.1).bind λr5 =>
 Rk (λs=>SO r4 r5 s) 0

end
end Go.Proofs.YtbnconokpjdnjaaDoor
