/-
 The programs on typed data; written by a program (dx.py).
-/
import Derived.Test.YtgebpjgohchohaaDxT
namespace Go.Proofs.Ytgebpjgohchohaa
open Go Go.Dw Go.Proofs
open Go.IntKind (i64 u64)
set_option maxRecDepth 100000
set_option maxHeartbeats 40000000
noncomputable section
def SE (op1 : Int) : Option (Bool) :=
 bif (op1 == 20) then
 some true
 else
 bif (op1 == 23) then
 some true
 else
 some (op1 == 24)

def So (x_x3 : OE) (l4 : List Int) : Option ((List Int)) :=
 bif (x_x3.Op == 20) then
 chk (l4.length + ([x_x3.A] : List Int).length <= 16777216) <|
 chk ((l4 ++ ([x_x3.A] : List Int)).length < 4611686018427387904) <|
 chk ((Ro (l4 ++ ([x_x3.A] : List Int))).length < 4611686018427387904) <|
 some (Lib.compact (Ro (l4 ++ ([x_x3.A] : List Int))))
 else
 bif (x_x3.Op == 21) then
 chk (l4.length + ([x_x3.B] : List Int).length <= 16777216) <|
 chk ((l4 ++ ([x_x3.B] : List Int)).length < 4611686018427387904) <|
 chk ((Ro (l4 ++ ([x_x3.B] : List Int))).length < 4611686018427387904) <|
 some (Lib.compact (Ro (l4 ++ ([x_x3.B] : List Int))))
 else
 chk (l4.length < 4611686018427387904) <|
 chk ((Ro l4).length < 4611686018427387904) <|
 some (Lib.compact (Ro l4))
def Th (f1 : OG) (k2 : Int) : Option ((List Int)) :=
 (ixO f1.Code k2).bind λx_x3 =>
 (SE x_x3.Op).bind λr5 =>
 bif (!r5) then
 chk (([] : List Int).length + ([i64.wrap (k2 + 1)] : List Int).length <= 16777216) <|
 So x_x3 (([] : List Int) ++ ([i64.wrap (k2 + 1)] : List Int))
 else
 So x_x3 ([] : List Int)
def Sn (f1 : OG) (k2 : Int) : Option ((List Int)) :=
 bif (decide (k2 < 0)) then
 some ([] : List Int)
 else
 bif (decide (k2 >= (f1.Code.length : Int))) then
 some ([] : List Int)
 else
 Th f1 k2

def PG (out9 : List Int) (x17 : List Bool) (x18 : List Ed) : Option (((List Bool) × (List Int) × (List Ed)) ⊕ ((List Int))) :=
 cnt (x17,out9,x18)
def QD (x_x14 : Int) (x8 : List Bool) (f1 : OG) (x10 : List Ed) (x_o16 : Ed) (x_e15 : Ed) (out9 : List Int) (x19 : Bool) : Option (((List Bool) × (List Int) × (List Ed)) ⊕ ((List Int))) :=
 bif x19 then
 chk (0 <= x_x14 /\ x_x14 < x8.length) <|
 ((x8)[x_x14.toNat]?).bind λ_ =>
 (Sn f1 x_x14).bind λr22 =>
 chk ((x10.set ((i64.wrap ((x10.length : Int) - 1)).toNat) (Ed.mk x_o16.k (x_e15.rest.drop (1 : Int).toNat))).length + ([(Ed.mk x_x14 r22)] : List Ed).length <= 16777216) <|
 PG out9 (x8.set x_x14.toNat true) ((x10.set ((i64.wrap ((x10.length : Int) - 1)).toNat) (Ed.mk x_o16.k (x_e15.rest.drop (1 : Int).toNat))) ++ ([(Ed.mk x_x14 r22)] : List Ed))
 else
 PG out9 x8 (x10.set ((i64.wrap ((x10.length : Int) - 1)).toNat) (Ed.mk x_o16.k (x_e15.rest.drop (1 : Int).toNat)))
def Rx (f1 : OG) (x8 : List Bool) (out9 : List Int) (x10 : List Ed) : Option (((List Bool) × (List Int) × (List Ed)) ⊕ ((List Int))) :=
 bif (!((x10.length : Int) == 0)) then
 chk (0 <= (i64.wrap ((x10.length : Int) - 1)) /\ (i64.wrap ((x10.length : Int) - 1)) < x10.length) <|
 ((x10)[(i64.wrap ((x10.length : Int) - 1)).toNat]?).bind λx_e11 =>
 bif ((x_e11.rest.length : Int) == 0) then
 ((x10)[(i64.wrap ((x10.length : Int) - 1)).toNat]?).bind λx_e12 =>
 chk (out9.length + ([x_e12.k] : List Int).length <= 16777216) <|
 chk (0 <= (i64.wrap ((x10.length : Int) - 1)) /\ (i64.wrap ((x10.length : Int) - 1)) <= x10.length) <|
 cnt (x8,out9 ++ ([x_e12.k] : List Int),x10.take ((i64.wrap ((x10.length : Int) - 1)).toNat))
 else
 ((x10)[(i64.wrap ((x10.length : Int) - 1)).toNat]?).bind λx_e13 =>
 (ixO x_e13.rest 0).bind λx_x14 =>
 ((x10)[(i64.wrap ((x10.length : Int) - 1)).toNat]?).bind λx_e15 =>
 chk (0 <= (1 : Int) /\ (1 : Int) <= x_e15.rest.length) <|
 ((x10)[(i64.wrap ((x10.length : Int) - 1)).toNat]?).bind λx_o16 =>
 bif (decide (x_x14 < (x8.length : Int))) then
 chk (0 <= x_x14 /\ x_x14 < x8.length) <|
 ((x8)[x_x14.toNat]?).bind λx_e20 =>
 QD x_x14 x8 f1 x10 x_o16 x_e15 out9 (!x_e20)
 else
 QD x_x14 x8 f1 x10 x_o16 x_e15 out9 false
 else
 lft (
 chk (out9.length < 4611686018427387904) <|
 some (List.reverse out9))
def PC (f1 : OG) (x2 : List Bool) (x3 : List Ed) : Option ((List Int)) :=
 Pl (λs=>Rx f1 s.1 s.2.1 s.2.2) (x2,([] : List Int),x3)
def QC (f1 : OG) (x4 : Bool) : Option ((List Int)) :=
 bif x4 then
 chk (0 <= (0 : Int) /\ (0 : Int) < (List.replicate (f1.Code.length : Int).toNat false).length) <|
 ((List.replicate (f1.Code.length : Int).toNat false)[(0 : Int).toNat]?).bind λ_ =>
 (Sn f1 0).bind λr7 =>
 chk (([] : List Ed).length + ([(Ed.mk 0 r7)] : List Ed).length <= 16777216) <|
 PC f1 ((List.replicate (f1.Code.length : Int).toNat false).set ((0 : Int).toNat) true) (([] : List Ed) ++ ([(Ed.mk 0 r7)] : List Ed))
 else
 PC f1 (List.replicate (f1.Code.length : Int).toNat false) ([] : List Ed)
def Qg (f1 : OG) : Option ((List Int)) :=
 chk (0 <= (f1.Code.length : Int) /\ (f1.Code.length : Int) <= 16777216) <|
 bif (decide (0 < ((List.replicate (f1.Code.length : Int).toNat false).length : Int))) then
 chk (0 <= (0 : Int) /\ (0 : Int) < (List.replicate (f1.Code.length : Int).toNat false).length) <|
 ((List.replicate (f1.Code.length : Int).toNat false)[(0 : Int).toNat]?).bind λx_e5 =>
 QC f1 (!x_e5)
 else
 QC f1 false

def SH  : Option (Bool) :=
 (Qg (OG.mk 0 ([]) ([(OE.mk 20 1 0 0 0),(OE.mk 23 0 0 0 0)] : List OE))).bind λr1 =>
 bif ((r1.length : Int) == 2) then
 (ixO r1 1).bind λx_x2 =>
 some (x_x2 == 1)
 else
 some false

def Ub (list1 : (List Int)) (limit2 : Int) : Option (Mk) :=
 chk (0 <= (SV (list1.length : Int) limit2) /\ (SV (list1.length : Int) limit2) <= list1.length) <|
 some (Mk.mk (list1.take (SV (list1.length : Int) limit2).toNat) 0)

def Sh (c1 : Mk) : Option (Bool × Mk) :=
 some ((decide (c1.at_ < (c1.list.length : Int))),c1)

def Rj (n2 : Int) (c3 : List Int) (c4 : Int) : Option (Int × Mk) :=
 (ixO c3 c4).bind λx_x6 =>
 some (i64.wrap ((i64.wrap ((i64.wrap (x_x6)) * n2)).tdiv 256),(Mk.mk c3 (i64.wrap (c4 + 1))))
def OJ (c1 : Mk) (n2 : Int) : Option (Int × Mk) :=
 (Sh c1).bind λr5 =>
 bif (!r5.1) then
 some (0,r5.2)
 else
 bif (decide (n2 < 1)) then
 some (0,r5.2)
 else
 Rj n2 r5.2.list r5.2.at_

def Rl (c1 : Mk) : Option (Pp × Mk) :=
 (OJ c1 7).bind λr2 =>
 chk (0 <= r2.1 /\ r2.1 < ([8,4,8,1,2,16,8] : List Int).length) <|
 ((([8,4,8,1,2,16,8] : List Int))[r2.1.toNat]?).bind λx_e3 =>
 (OJ r2.2 8).bind λr4 =>
 chk (0 <= r4.1 /\ r4.1 < ([8,4,1,8,16,2,32,64] : List Int).length) <|
 ((([8,4,1,8,16,2,32,64] : List Int))[r4.1.toNat]?).bind λx_e5 =>
 some ((Pp.mk x_e3 x_e5),r4.2)

def QU (c4 : List Int) (c5 : Int) (l6 : List Pp) (n7 : Int) : Option (((List Int) × Int × (List Pp) × Int) ⊕ ((List Pp) × Mk)) :=
 bif (decide (n7 > 0)) then
 (Rl (Mk.mk c4 c5)).bind λr8 =>
 chk (l6.length + ([r8.1] : List Pp).length <= 16777216) <|
 cnt (r8.2.list,r8.2.at_,l6 ++ ([r8.1] : List Pp),i64.wrap (n7 - 1))
 else
 lft (some (l6,(Mk.mk c4 c5)))
def QN (c1 : Mk) (most2 : Int) : Option ((List Pp) × Mk) :=
 (OJ c1 (i64.wrap (most2 + 1))).bind λr3 =>
 Pl (λs=>QU s.1 s.2.1 s.2.2.1 s.2.2.2) (r3.2.list,r3.2.at_,([] : List Pp),r3.1)

def Rr (f2 : OG) (s3 : Int) (c1 : Mk) (l4 : List Int) (k5 : Int) : Option (((List Int) × Int) ⊕ (Int × Mk)) :=
 bif (decide (k5 < (f2.Slots.length : Int))) then
 (ixO f2.Slots k5).bind λx_x6 =>
 (ixO f2.Slots s3).bind λx_x7 =>
 bif (x_x6.Size == x_x7.Size) then
 chk (l4.length + ([k5] : List Int).length <= 16777216) <|
 cnt (l4 ++ ([k5] : List Int),i64.wrap (k5 + 1))
 else
 cnt (l4,i64.wrap (k5 + 1))
 else
 lft (
 (OJ c1 (l4.length : Int)).bind λr8 =>
 chk (0 <= r8.1 /\ r8.1 < l4.length) <|
 ((l4)[r8.1.toNat]?).bind λl_e9 =>
 some (l_e9,r8.2))
def Rq (c1 : Mk) (f2 : OG) (s3 : Int) : Option (Int × Mk) :=
 Pl (λs=>Rr f2 s3 c1 s.1 s.2) (([] : List Int),0)

def QG (c1 : Mk) : Option (Int × Mk) :=
 (OJ c1 6).bind λr2 =>
 bif (r2.1 == 0) then
 (OJ r2.2 3).bind λr3 =>
 some (u64.wrap (18446744073709551615 - (u64.wrap (r3.1))),r3.2)
 else
 bif (r2.1 == 1) then
 (OJ r2.2 64).bind λr4 =>
 chk (0 <= r4.1) <|
 some (u64.wrap (1 * 2 ^ (Nat.min r4.1.toNat u64.bits)),r4.2)
 else
 bif (r2.1 == 2) then
 some (0,r2.2)
 else
 (OJ r2.2 256).bind λr5 =>
 some (u64.wrap (r5.1),r5.2)

def Rp (params4 : (List Int)) (i3 : Int) (r23 : Int × Mk) (c24 : List Int) (c25 : Int) (out26 : List OE) (a27 : Int) : Option (((List Int) × Int × (List OE) × Int) ⊕ ((List OE) × Mk)) :=
 (ixO params4 (i64.wrap ((i64.wrap (i3 + 1)) + r23.1))).bind λx_x28 =>
 bif (decide (a27 < x_x28)) then
 (OJ (Mk.mk c24 c25) 8).bind λr29 =>
 bif (decide (r29.1 < 7)) then
 (OJ r29.2 4).bind λr30 =>
 chk (out26.length + ([(OE.mk 18 a27 r30.1 0 0)] : List OE).length <= 16777216) <|
 cnt (r30.2.list,r30.2.at_,out26 ++ ([(OE.mk 18 a27 r30.1 0 0)] : List OE),i64.wrap (a27 + 1))
 else
 cnt (r29.2.list,r29.2.at_,out26,i64.wrap (a27 + 1))
 else
 lft (
 chk (out26.length + ([(OE.mk 22 (i64.wrap ((i64.wrap (i3 + 1)) + r23.1)) 0 0 0)] : List OE).length <= 16777216) <|
 some (out26 ++ ([(OE.mk 22 (i64.wrap ((i64.wrap (i3 + 1)) + r23.1)) 0 0 0)] : List OE),(Mk.mk c24 c25)))
def Sk (r5 : Int × Mk) (r6 : Int × Mk) : Option ((List OE) × Mk) :=
 some (([(OE.mk 14 r5.1 0 0 0)] : List OE),r6.2)
def Qc (r6 : Int × Mk) (params4 : (List Int)) (i3 : Int) (r5 : Int × Mk) (x22 : Bool) : Option ((List OE) × Mk) :=
 bif x22 then
 (OJ r6.2 (i64.wrap ((i64.wrap ((params4.length : Int) - i3)) - 1))).bind λr23 =>
 Pl (λs=>Rp params4 i3 r23 s.1 s.2.1 s.2.2.1 s.2.2.2) (r23.2.list,r23.2.at_,([] : List OE),0)
 else
 Sk r5 r6
def Qb (r6 : Int × Mk) (f2 : OG) (r5 : Int × Mk) (params4 : (List Int)) (i3 : Int) (x20 : Bool) : Option ((List OE) × Mk) :=
 bif x20 then
 (OJ r6.2 f2.Params).bind λr21 =>
 some (([(OE.mk 19 r5.1 r21.1 0 0)] : List OE),r21.2)
 else
 bif (decide (r6.1 >= 17)) then
 Qc r6 params4 i3 r5 (decide ((i64.wrap (i3 + 1)) < (params4.length : Int)))
 else
 Qc r6 params4 i3 r5 false
def Qa (r6 : Int × Mk) (f2 : OG) (r5 : Int × Mk) (params4 : (List Int)) (i3 : Int) (x11 : Bool) : Option ((List OE) × Mk) :=
 bif x11 then
 (OJ r6.2 (f2.Slots.length : Int)).bind λr12 =>
 (Rq r12.2 f2 r12.1).bind λr13 =>
 some (([(OE.mk 17 r13.1 r12.1 0 0)] : List OE),r13.2)
 else
 bif (decide (r6.1 < 11)) then
 (QG r6.2).bind λr14 =>
 some (([(OE.mk 0 r5.1 0 0 r14.1)] : List OE),r14.2)
 else
 bif (decide (r6.1 < 13)) then
 (OJ r6.2 10).bind λr15 =>
 (OJ r15.2 4).bind λr16 =>
 (OJ r16.2 8).bind λr17 =>
 some (([(OE.mk (i64.wrap (2 + r15.1)) r5.1 r16.1 r17.1 0)] : List OE),r17.2)
 else
 bif (decide (r6.1 < 15)) then
 some (([(OE.mk 14 r5.1 0 0 0)] : List OE),r6.2)
 else
 bif (r6.1 == 15) then
 (OJ r6.2 3).bind λr18 =>
 chk (0 <= r18.1 /\ r18.1 < ([13,12,1] : List Int).length) <|
 ((([13,12,1] : List Int))[r18.1.toNat]?).bind λx_e19 =>
 some (([(OE.mk x_e19 r5.1 0 0 0)] : List OE),r18.2)
 else
 bif (r6.1 == 16) then
 Qb r6 f2 r5 params4 i3 (decide (f2.Params > 0))
 else
 Qb r6 f2 r5 params4 i3 false
def PW (r6 : Int × Mk) (f2 : OG) (r5 : Int × Mk) (params4 : (List Int)) (i3 : Int) (x9 : Bool) : Option ((List OE) × Mk) :=
 bif x9 then
 (OJ r6.2 (f2.Slots.length : Int)).bind λr10 =>
 some (([(OE.mk 15 r5.1 r10.1 0 0)] : List OE),r10.2)
 else
 bif (decide (r6.1 < 9)) then
 Qa r6 f2 r5 params4 i3 (decide ((f2.Slots.length : Int) > 0))
 else
 Qa r6 f2 r5 params4 i3 false
def PV (r6 : Int × Mk) (f2 : OG) (r5 : Int × Mk) (params4 : (List Int)) (i3 : Int) (x7 : Bool) : Option ((List OE) × Mk) :=
 bif x7 then
 (OJ r6.2 (f2.Slots.length : Int)).bind λr8 =>
 some (([(OE.mk 16 r8.1 r5.1 0 0)] : List OE),r8.2)
 else
 bif (decide (r6.1 < 6)) then
 PW r6 f2 r5 params4 i3 (decide ((f2.Slots.length : Int) > 0))
 else
 PW r6 f2 r5 params4 i3 false
def Rn (c1 : Mk) (f2 : OG) (i3 : Int) (params4 : (List Int)) : Option ((List OE) × Mk) :=
 (OJ c1 4).bind λr5 =>
 (OJ r5.2 20).bind λr6 =>
 bif (decide (r6.1 < 3)) then
 PV r6 f2 r5 params4 i3 (decide ((f2.Slots.length : Int) > 0))
 else
 PV r6 f2 r5 params4 i3 false

def PQ (k32 : Int) (code31 : List OE) (r33 : Int × Mk) (to34 : Int) (x35 : Bool) : Option (((List Int) × Int × (List OE) × Int) ⊕ (OG × Mk)) :=
 bif x35 then
 chk (0 <= k32 /\ k32 < code31.length) <|
 ((code31)[k32.toNat]?).bind λcode_o38 =>
 cnt (r33.2.list,r33.2.at_,code31.set k32.toNat (OE.mk code_o38.Op to34 code_o38.B code_o38.C code_o38.Imm),i64.wrap (k32 + 1))
 else
 chk (0 <= k32 /\ k32 < code31.length) <|
 ((code31)[k32.toNat]?).bind λcode_e39 =>
 bif (code_e39.Op == 21) then
 chk (0 <= k32 /\ k32 < code31.length) <|
 ((code31)[k32.toNat]?).bind λcode_e40 =>
 bif (decide (code_e40.B < 0)) then
 chk (0 <= k32 /\ k32 < code31.length) <|
 ((code31)[k32.toNat]?).bind λcode_o41 =>
 cnt (r33.2.list,r33.2.at_,code31.set k32.toNat (OE.mk code_o41.Op code_o41.A to34 code_o41.C code_o41.Imm),i64.wrap (k32 + 1))
 else
 cnt (r33.2.list,r33.2.at_,code31,i64.wrap (k32 + 1))
 else
 cnt (r33.2.list,r33.2.at_,code31,i64.wrap (k32 + 1))
def Pc (k32 : Int) (code31 : List OE) (r33 : Int × Mk) (to34 : Int) : Option (((List Int) × Int × (List OE) × Int) ⊕ (OG × Mk)) :=
 chk (0 <= k32 /\ k32 < code31.length) <|
 ((code31)[k32.toNat]?).bind λcode_e36 =>
 bif (code_e36.Op == 20) then
 chk (0 <= k32 /\ k32 < code31.length) <|
 ((code31)[k32.toNat]?).bind λcode_e37 =>
 PQ k32 code31 r33 to34 (decide (code_e37.A < 0))
 else
 PQ k32 code31 r33 to34 false
def PO (x_x5 : Int) (f17 : List Pp) (c29 : List Int) (c30 : Int) (code31 : List OE) (k32 : Int) : Option (((List Int) × Int × (List OE) × Int) ⊕ (OG × Mk)) :=
 bif (decide (k32 < (code31.length : Int))) then
 (OJ (Mk.mk c29 c30) 8).bind λr33 =>
 bif (decide ((i64.wrap ((i64.wrap (k32 + r33.1)) - 2)) < 0)) then
 Pc k32 code31 r33 (i64.wrap ((code31.length : Int) - 1))
 else
 bif (decide ((i64.wrap ((i64.wrap (k32 + r33.1)) - 2)) >= (code31.length : Int))) then
 Pc k32 code31 r33 (i64.wrap ((code31.length : Int) - 1))
 else
 Pc k32 code31 r33 (i64.wrap ((i64.wrap (k32 + r33.1)) - 2))
 else
 lft (some ((OG.mk x_x5 f17 code31),(Mk.mk c29 c30)))
def Py (code16 : List OE) (x_x5 : Int) (f17 : List Pp) (c23 : List Int) (c24 : Int) (end25 : Int) (end26 : Int) : Option (OG × Mk) :=
 chk (code16.length + ([(OE.mk end25 0 0 0 end26)] : List OE).length <= 16777216) <|
 Pl (λs=>PO x_x5 f17 s.1 s.2.1 s.2.2.1 s.2.2.2) (c23,c24,code16 ++ ([(OE.mk end25 0 0 0 end26)] : List OE),0)
def Qz (x_x5 : Int) (i2 : Int) (params3 : (List Int)) (c14 : List Int) (c15 : Int) (code16 : List OE) (f17 : List Pp) (n18 : Int) : Option (((List Int) × Int × (List OE) × (List Pp) × Int) ⊕ (OG × Mk)) :=
 bif (decide (n18 > 0)) then
 (Rn (Mk.mk c14 c15) (OG.mk x_x5 f17 ([])) i2 params3).bind λr19 =>
 chk (code16.length + r19.1.length <= 16777216) <|
 (OJ r19.2 9).bind λr20 =>
 bif (r20.1 == 7) then
 (OJ r20.2 4).bind λr21 =>
 chk ((code16 ++ r19.1).length + ([(OE.mk 21 r21.1 (-1) 0 0)] : List OE).length <= 16777216) <|
 cnt (r21.2.list,r21.2.at_,(code16 ++ r19.1) ++ ([(OE.mk 21 r21.1 (-1) 0 0)] : List OE),f17,i64.wrap (n18 - 1))
 else
 bif (r20.1 == 8) then
 (OJ r20.2 3).bind λr22 =>
 bif (r22.1 == 2) then
 chk ((code16 ++ r19.1).length + ([(OE.mk 20 (-1) 0 0 0)] : List OE).length <= 16777216) <|
 cnt (r22.2.list,r22.2.at_,(code16 ++ r19.1) ++ ([(OE.mk 20 (-1) 0 0 0)] : List OE),f17,i64.wrap (n18 - 1))
 else
 cnt (r22.2.list,r22.2.at_,code16 ++ r19.1,f17,i64.wrap (n18 - 1))
 else
 cnt (r20.2.list,r20.2.at_,code16 ++ r19.1,f17,i64.wrap (n18 - 1))
 else
 lft (
 (OJ (Mk.mk c14 c15) 12).bind λr27 =>
 bif (r27.1 == 11) then
 (QG r27.2).bind λr28 =>
 Py code16 x_x5 f17 r28.2.list r28.2.at_ 24 r28.1
 else
 Py code16 x_x5 f17 r27.2.list r27.2.at_ 23 0)
def Qy (r6 : (List Pp) × Mk) (most4 : Int) (x_x5 : Int) (i2 : Int) (params3 : (List Int)) (c7 : List Int) (c8 : Int) (code9 : List OE) (s10 : Int) : Option (((List Int) × Int × (List OE) × Int) ⊕ (OG × Mk)) :=
 bif (decide (s10 < (r6.1.length : Int))) then
 (OJ (Mk.mk c7 c8) 4).bind λr11 =>
 bif (decide (r11.1 < 3)) then
 (OJ r11.2 4).bind λr12 =>
 chk (code9.length + ([(OE.mk 16 s10 r12.1 0 0)] : List OE).length <= 16777216) <|
 cnt (r12.2.list,r12.2.at_,code9 ++ ([(OE.mk 16 s10 r12.1 0 0)] : List OE),i64.wrap (s10 + 1))
 else
 cnt (r11.2.list,r11.2.at_,code9,i64.wrap (s10 + 1))
 else
 lft (
 (OJ (Mk.mk c7 c8) (i64.wrap (most4 + 1))).bind λr13 =>
 Pl (λs=>Qz x_x5 i2 params3 s.1 s.2.1 s.2.2.1 s.2.2.2.1 s.2.2.2.2) (r13.2.list,r13.2.at_,code9,r6.1,r13.1))
def Qr (c1 : Mk) (i2 : Int) (params3 : (List Int)) (most4 : Int) : Option (OG × Mk) :=
 (ixO params3 i2).bind λx_x5 =>
 (QN c1 6).bind λr6 =>
 Pl (λs=>Qy r6 most4 x_x5 i2 params3 s.1 s.2.1 s.2.2.1 s.2.2.2) (r6.2.list,r6.2.at_,([] : List OE),0)

def QF (most3 : Int) (c10 : List Int) (c11 : Int) (p12 : List OG) (i13 : Int) (params14 : List Int) : Option (((List Int) × Int × (List OG) × Int × (List Int)) ⊕ (QM × Mk)) :=
 bif (decide (i13 < (params14.length : Int))) then
 chk (([] : List OG).length + p12.length <= 16777216) <|
 (Qr (Mk.mk c10 c11) i13 params14 most3).bind λr15 =>
 chk ((([] : List OG) ++ p12).length + ([r15.1] : List OG).length <= 16777216) <|
 cnt (r15.2.list,r15.2.at_,(([] : List OG) ++ p12) ++ ([r15.1] : List OG),i64.wrap (i13 + 1),params14)
 else
 lft (some ((QM.mk p12),(Mk.mk c10 c11)))
def QE (most3 : Int) (c5 : List Int) (c6 : Int) (params7 : List Int) (n8 : Int) : Option (((List Int) × Int × (List Int) × Int) ⊕ (QM × Mk)) :=
 bif (decide (n8 > 0)) then
 (OJ (Mk.mk c5 c6) 4).bind λr9 =>
 chk (params7.length + ([r9.1] : List Int).length <= 16777216) <|
 cnt (r9.2.list,r9.2.at_,params7 ++ ([r9.1] : List Int),i64.wrap (n8 - 1))
 else
 lft (Pl (λs=>QF most3 s.1 s.2.1 s.2.2.1 s.2.2.2.1 s.2.2.2.2) (c5,c6,[],0,params7))
def QA (c1 : Mk) (funcs2 : Int) (most3 : Int) : Option (QM × Mk) :=
 (OJ c1 funcs2).bind λr4 =>
 Pl (λs=>QE most3 s.1 s.2.1 s.2.2.1 s.2.2.2) (r4.2.list,r4.2.at_,([0] : List Int),r4.1)

def RI (codes1 : (List Int)) : Option (OG) :=
 (Ub codes1 250).bind λr2 =>
 (QA r2 3 16).bind λr3 =>
 (OJ r3.2 (r3.1.Funcs.length : Int)).bind λr4 =>
 (ixO r3.1.Funcs r4.1).bind λx_x5 =>
 some x_x5

def Rv (x1 : Int) (y2 : Int) : Option (Int × Int) :=
 some (u64.wrap ((u64.wrap ((u64.wrap ((x1.fdiv (2 ^ (Nat.min (32 : Int).toNat u64.bits))) * (y2.fdiv (2 ^ (Nat.min (32 : Int).toNat u64.bits))))) + ((u64.wrap ((u64.wrap ((x1.fdiv (2 ^ (Nat.min (32 : Int).toNat u64.bits))) * (u64.wrap ((BitVec.ofInt u64.bits y2 &&& BitVec.ofInt u64.bits 4294967295).toNat)))) + ((u64.wrap ((u64.wrap ((BitVec.ofInt u64.bits x1 &&& BitVec.ofInt u64.bits 4294967295).toNat)) * (u64.wrap ((BitVec.ofInt u64.bits y2 &&& BitVec.ofInt u64.bits 4294967295).toNat)))).fdiv (2 ^ (Nat.min (32 : Int).toNat u64.bits))))).fdiv (2 ^ (Nat.min (32 : Int).toNat u64.bits))))) + ((u64.wrap ((u64.wrap ((BitVec.ofInt u64.bits (u64.wrap ((u64.wrap ((x1.fdiv (2 ^ (Nat.min (32 : Int).toNat u64.bits))) * (u64.wrap ((BitVec.ofInt u64.bits y2 &&& BitVec.ofInt u64.bits 4294967295).toNat)))) + ((u64.wrap ((u64.wrap ((BitVec.ofInt u64.bits x1 &&& BitVec.ofInt u64.bits 4294967295).toNat)) * (u64.wrap ((BitVec.ofInt u64.bits y2 &&& BitVec.ofInt u64.bits 4294967295).toNat)))).fdiv (2 ^ (Nat.min (32 : Int).toNat u64.bits))))) &&& BitVec.ofInt u64.bits 4294967295).toNat)) + (u64.wrap ((u64.wrap ((BitVec.ofInt u64.bits x1 &&& BitVec.ofInt u64.bits 4294967295).toNat)) * (y2.fdiv (2 ^ (Nat.min (32 : Int).toNat u64.bits))))))).fdiv (2 ^ (Nat.min (32 : Int).toNat u64.bits)))),u64.wrap (x1 * y2))

def SL (x1 : Int) (y2 : Int) : Option (Int × Int) :=
 (Rv x1 y2).bind λr3 =>
 some (r3.1,r3.2)

def Qh (newslice4 : List Int) (n5 : Int) : Option (((List Int) × Int) ⊕ ((List Int))) :=
 bif (decide (n5 < (newslice4.length : Int))) then
 chk (0 <= n5 /\ n5 <= newslice4.length) <|
 chk (0 <= n5 /\ n5 <= newslice4.length) <|
 cnt (QQ newslice4 n5.toNat (newslice4.length - n5.toNat) (newslice4.take n5.toNat),i64.wrap (n5 + (Nat.min (newslice4.length - n5.toNat) (newslice4.take n5.toNat).length : Int)))
 else
 lft (some newslice4)
def Qj (r3 : Int × Int) (x1 : (List Int)) : Option ((List Int)) :=
 chk (0 <= (i64.wrap (r3.2)) /\ (i64.wrap (r3.2)) <= 16777216) <|
 Pl (λs=>Qh s.1 s.2) (QQ (List.replicate (i64.wrap (r3.2)).toNat (0 : Int)) 0 ((List.replicate (i64.wrap (r3.2)).toNat (0 : Int)).length) x1,(Nat.min ((List.replicate (i64.wrap (r3.2)).toNat (0 : Int)).length) x1.length : Int))
def Qi (x1 : (List Int)) (count2 : Int) : Option ((List Int)) :=
 (SL (u64.wrap ((x1.length : Int))) (u64.wrap (count2))).bind λr3 =>
 bif (decide (r3.1 > 0)) then
 none
 else
 bif (decide (r3.2 > 9223372036854775807)) then
 none
 else
 Qj r3 x1
def Pz (x1 : (List Int)) (count2 : Int) : Option ((List Int)) :=
 bif (decide (count2 < 0)) then
 none
 else
 Qi x1 count2

def RH (r3 : (List Int)) (rank4 : List Int) (x5 : Int) : Option (((List Int) × Int) ⊕ ((List Int))) :=
 bif (decide (x5 < (r3.length : Int))) then
 (ixO r3 x5).bind λx_x6 =>
 chk (0 <= x_x6 /\ x_x6 < rank4.length) <|
 ((rank4)[x_x6.toNat]?).bind λ_ =>
 cnt (rank4.set x_x6.toNat x5,i64.wrap (x5 + 1))
 else
 lft (some rank4)
def QL (f1 : OG) : Option ((List Int)) :=
 (Pz ([(-1)] : List Int) (f1.Code.length : Int)).bind λr2 =>
 (Qg f1).bind λr3 =>
 Pl (λs=>RH r3 s.1 s.2) (r2,0)

def Sz (r4 : (List Int)) (x3 : Int) (l5 : List (List Int)) (x6 : Int) : Option (((List (List Int)) × Int) ⊕ (((List (List Int)) × Int) ⊕ ((List (List Int))))) :=
 bif (decide (x6 < (r4.length : Int))) then
 chk (0 <= x6 /\ x6 < r4.length) <|
 ((r4)[x6.toNat]?).bind λx_e7 =>
 chk (0 <= x_e7 /\ x_e7 < l5.length) <|
 ((l5)[x_e7.toNat]?).bind λl_e8 =>
 chk (l_e8.length + ([x3] : List Int).length <= 16777216) <|
 chk (0 <= x_e7 /\ x_e7 < l5.length) <|
 cnt (l5.set x_e7.toNat (l_e8 ++ ([x3] : List Int)),i64.wrap (x6 + 1))
 else
 lft (cnt (l5,i64.wrap (x3 + 1)))
def Sv (f1 : OG) (l2 : List (List Int)) (x3 : Int) : Option (((List (List Int)) × Int) ⊕ ((List (List Int)))) :=
 bif (decide (x3 < (f1.Code.length : Int))) then
 (Sn f1 x3).bind λr4 =>
 Pl (λs=>Sz r4 x3 s.1 s.2) (l2,0)
 else
 lft (some l2)
def Sf (f1 : OG) : Option ((List (List Int))) :=
 chk (0 <= (f1.Code.length : Int) /\ (f1.Code.length : Int) <= 16777216) <|
 Pl (λs=>Sv f1 s.1 s.2) (List.replicate (f1.Code.length : Int).toNat ([] : (List Int)),0)

def Qn (x14 : Int) (x19 : Int) : Option ((Int × Int) ⊕ (((List Int) × Int × Bool) ⊕ (((List Int) × Bool) ⊕ ((List Int))))) :=
 cnt (x19,i64.wrap (x14 + 1))
def PK (r3 : (List Int)) (x8 : List Int) (x14 : Int) (a20 : Int) (b21 : Int) : Option ((Int × Int) ⊕ ((Int × Int) ⊕ (((List Int) × Int × Bool) ⊕ (((List Int) × Bool) ⊕ ((List Int)))))) :=
 bif (a20 != b21) then
 chk (0 <= a20 /\ a20 < r3.length) <|
 ((r3)[a20.toNat]?).bind λx_e22 =>
 chk (0 <= b21 /\ b21 < r3.length) <|
 ((r3)[b21.toNat]?).bind λx_e23 =>
 bif (decide (x_e22 > x_e23)) then
 chk (0 <= a20 /\ a20 < x8.length) <|
 ((x8)[a20.toNat]?).bind λx_e24 =>
 cnt (x_e24,b21)
 else
 chk (0 <= b21 /\ b21 < x8.length) <|
 ((x8)[b21.toNat]?).bind λx_e25 =>
 cnt (a20,x_e25)
 else
 lft (Qn x14 a20)
def OZ (d13 : Int) (x14 : Int) (x_x15 : Int) (r3 : (List Int)) (x8 : List Int) (x16 : Bool) : Option ((Int × Int) ⊕ (((List Int) × Int × Bool) ⊕ (((List Int) × Bool) ⊕ ((List Int))))) :=
 bif x16 then
 cnt (d13,i64.wrap (x14 + 1))
 else
 bif (decide (d13 < 0)) then
 cnt (x_x15,i64.wrap (x14 + 1))
 else
 Pl (λs=>PK r3 x8 x14 s.1 s.2) (d13,x_x15)
def PJ (x_x12 : (List Int)) (r3 : (List Int)) (x8 : List Int) (x_x11 : Int) (x9 : Int) (changed10 : Bool) (d13 : Int) (x14 : Int) : Option ((Int × Int) ⊕ (((List Int) × Int × Bool) ⊕ (((List Int) × Bool) ⊕ ((List Int))))) :=
 bif (decide (x14 < (x_x12.length : Int))) then
 (ixO x_x12 x14).bind λx_x15 =>
 chk (0 <= x_x15 /\ x_x15 < r3.length) <|
 ((r3)[x_x15.toNat]?).bind λx_e17 =>
 bif (decide (x_e17 < 0)) then
 OZ d13 x14 x_x15 r3 x8 true
 else
 bif (x_x15 != 0) then
 chk (0 <= x_x15 /\ x_x15 < x8.length) <|
 ((x8)[x_x15.toNat]?).bind λx_e18 =>
 OZ d13 x14 x_x15 r3 x8 (decide (x_e18 < 0))
 else
 OZ d13 x14 x_x15 r3 x8 false
 else
 lft (
 chk (0 <= x_x11 /\ x_x11 < x8.length) <|
 ((x8)[x_x11.toNat]?).bind λx_e26 =>
 bif (d13 != x_e26) then
 chk (0 <= x_x11 /\ x_x11 < x8.length) <|
 ((x8)[x_x11.toNat]?).bind λ_ =>
 cnt (x8.set x_x11.toNat d13,i64.wrap (x9 + 1),true)
 else
 cnt (x8,i64.wrap (x9 + 1),changed10))
def PI (r2 : (List Int)) (r4 : (List (List Int))) (r3 : (List Int)) (x8 : List Int) (x9 : Int) (changed10 : Bool) : Option (((List Int) × Int × Bool) ⊕ (((List Int) × Bool) ⊕ ((List Int)))) :=
 bif (decide (x9 < ((r2.drop (SV 1 (r2.length : Int)).toNat).length : Int))) then
 (ixO (r2.drop (SV 1 (r2.length : Int)).toNat) x9).bind λx_x11 =>
 (ixO r4 x_x11).bind λx_x12 =>
 Pl (λs=>PJ x_x12 r3 x8 x_x11 x9 changed10 s.1 s.2) ((-1),0)
 else
 lft (cnt (x8,changed10))
def Qm (r2 : (List Int)) (r4 : (List (List Int))) (r3 : (List Int)) (x6 : List Int) (changed7 : Bool) : Option (((List Int) × Bool) ⊕ ((List Int))) :=
 bif changed7 then
 chk (0 <= (SV 1 (r2.length : Int)) /\ (SV 1 (r2.length : Int)) <= r2.length) <|
 Pl (λs=>PI r2 r4 r3 s.1 s.2.1 s.2.2) (x6,0,false)
 else
 lft (some x6)
def Qf (f1 : OG) : Option ((List Int)) :=
 (Qg f1).bind λr2 =>
 (QL f1).bind λr3 =>
 (Sf f1).bind λr4 =>
 (Pz ([(-1)] : List Int) (f1.Code.length : Int)).bind λr5 =>
 Pl (λs=>Qm r2 r4 r3 s.1 s.2) (r5,true)

def PH (x_x3 : OE) (k2 : Int) (x4 : Bool) : Option ((List Int)) :=
 bif x4 then
 some ([] : List Int)
 else
 bif (x_x3.Op == 21) then
 bif (decide (x_x3.B < (i64.wrap (k2 + 1)))) then
 some ([x_x3.B,i64.wrap (k2 + 1)] : List Int)
 else
 bif (decide (x_x3.B > (i64.wrap (k2 + 1)))) then
 some ([i64.wrap (k2 + 1),x_x3.B] : List Int)
 else
 some ([i64.wrap (k2 + 1)] : List Int)
 else
 some ([i64.wrap (k2 + 1)] : List Int)
def SM (f1 : OG) (k2 : Int) : Option ((List Int)) :=
 (ixO f1.Code k2).bind λx_x3 =>
 bif (x_x3.Op == 20) then
 some ([x_x3.A] : List Int)
 else
 bif (x_x3.Op == 23) then
 PH x_x3 k2 (x_x3.Op == 23)
 else
 PH x_x3 k2 (x_x3.Op == 24)
def SD (f1 : OG) (k2 : Int) : Option ((List Int)) :=
 bif (decide (k2 < 0)) then
 some ([] : List Int)
 else
 bif (decide (k2 >= (f1.Code.length : Int))) then
 some ([] : List Int)
 else
 SM f1 k2

def RU (i14 : Int) (r11 : (List Int)) (out12 : List Bool) (again13 : Bool) (x15 : Bool) : Option (((List Bool) × Bool × Int) ⊕ (((List Bool) × Bool × Int) ⊕ (((List Bool) × Bool) ⊕ ((List Bool))))) :=
 chk (0 <= i14 /\ i14 < r11.length) <|
 ((r11)[i14.toNat]?).bind λl_e17 =>
 chk (0 <= l_e17 /\ l_e17 < out12.length) <|
 ((out12)[l_e17.toNat]?).bind λout_e18 =>
 bif (!out_e18) then
 chk (0 <= i14 /\ i14 < r11.length) <|
 ((r11)[i14.toNat]?).bind λl_e19 =>
 chk (0 <= l_e19 /\ l_e19 < out12.length) <|
 ((out12)[l_e19.toNat]?).bind λ_ =>
 cnt (out12.set l_e19.toNat true,true,i64.wrap (i14 + 1))
 else
 cnt (out12,again13,i64.wrap (i14 + 1))
def Qu (k8 : Int) (out9 : List Bool) (again10 : Bool) : Option (((List Bool) × Bool × Int) ⊕ (((List Bool) × Bool) ⊕ ((List Bool)))) :=
 cnt (out9,again10,i64.wrap (k8 + 1))
def RT (r11 : (List Int)) (k8 : Int) (out12 : List Bool) (again13 : Bool) (i14 : Int) : Option (((List Bool) × Bool × Int) ⊕ (((List Bool) × Bool × Int) ⊕ (((List Bool) × Bool) ⊕ ((List Bool))))) :=
 bif (decide (i14 < (r11.length : Int))) then
 chk (0 <= k8 /\ k8 < out12.length) <|
 ((out12)[k8.toNat]?).bind λout_e16 =>
 bif out_e16 then
 RU i14 r11 out12 again13 out_e16
 else
 lft (Qu k8 out12 again13)
 else
 lft (Qu k8 out12 again13)
def RS (f1 : OG) (out6 : List Bool) (again7 : Bool) (k8 : Int) : Option (((List Bool) × Bool × Int) ⊕ (((List Bool) × Bool) ⊕ ((List Bool)))) :=
 bif (decide (k8 < (f1.Code.length : Int))) then
 (SD f1 k8).bind λr11 =>
 Pl (λs=>RT r11 k8 s.1 s.2.1 s.2.2) (out6,again7,0)
 else
 lft (cnt (out6,again7))
def RR (f1 : OG) (out4 : List Bool) (again5 : Bool) : Option (((List Bool) × Bool) ⊕ ((List Bool))) :=
 bif again5 then
 Pl (λs=>RS f1 s.1 s.2.1 s.2.2) (out4,false,0)
 else
 lft (some out4)
def QO (f1 : OG) (out2 : List Bool) : Option ((List Bool)) :=
 Pl (λs=>RR f1 s.1 s.2) (out2,true)
def Sc (f1 : OG) : Option ((List Bool)) :=
 chk (0 <= (f1.Code.length : Int) /\ (f1.Code.length : Int) <= 16777216) <|
 bif (decide (((List.replicate (f1.Code.length : Int).toNat false).length : Int) > 0)) then
 chk (0 <= (0 : Int) /\ (0 : Int) < (List.replicate (f1.Code.length : Int).toNat false).length) <|
 ((List.replicate (f1.Code.length : Int).toNat false)[(0 : Int).toNat]?).bind λ_ =>
 QO f1 ((List.replicate (f1.Code.length : Int).toNat false).set ((0 : Int).toNat) true)
 else
 QO f1 (List.replicate (f1.Code.length : Int).toNat false)

def PR (i14 : Int) (r11 : (List Int)) (out12 : List Bool) (again13 : Bool) (x17 : Bool) : Option (((List Bool) × Bool × Int) ⊕ (((List Bool) × Bool × Int) ⊕ (((List Bool) × Bool) ⊕ ((List Bool))))) :=
 bif x17 then
 chk (0 <= i14 /\ i14 < r11.length) <|
 ((r11)[i14.toNat]?).bind λl_e21 =>
 chk (0 <= l_e21 /\ l_e21 < out12.length) <|
 ((out12)[l_e21.toNat]?).bind λ_ =>
 cnt (out12.set l_e21.toNat true,true,i64.wrap (i14 + 1))
 else
 cnt (out12,again13,i64.wrap (i14 + 1))
def Sb (i14 : Int) (r11 : (List Int)) (d2 : Int) (out12 : List Bool) (again13 : Bool) (x15 : Bool) : Option (((List Bool) × Bool × Int) ⊕ (((List Bool) × Bool × Int) ⊕ (((List Bool) × Bool) ⊕ ((List Bool))))) :=
 chk (0 <= i14 /\ i14 < r11.length) <|
 ((r11)[i14.toNat]?).bind λl_e18 =>
 bif (l_e18 != d2) then
 chk (0 <= i14 /\ i14 < r11.length) <|
 ((r11)[i14.toNat]?).bind λl_e19 =>
 chk (0 <= l_e19 /\ l_e19 < out12.length) <|
 ((out12)[l_e19.toNat]?).bind λout_e20 =>
 PR i14 r11 out12 again13 (!out_e20)
 else
 PR i14 r11 out12 again13 false
def Qv (k8 : Int) (out9 : List Bool) (again10 : Bool) : Option (((List Bool) × Bool × Int) ⊕ (((List Bool) × Bool) ⊕ ((List Bool)))) :=
 cnt (out9,again10,i64.wrap (k8 + 1))
def QP (r11 : (List Int)) (k8 : Int) (d2 : Int) (out12 : List Bool) (again13 : Bool) (i14 : Int) : Option (((List Bool) × Bool × Int) ⊕ (((List Bool) × Bool × Int) ⊕ (((List Bool) × Bool) ⊕ ((List Bool))))) :=
 bif (decide (i14 < (r11.length : Int))) then
 chk (0 <= k8 /\ k8 < out12.length) <|
 ((out12)[k8.toNat]?).bind λout_e16 =>
 bif out_e16 then
 Sb i14 r11 d2 out12 again13 out_e16
 else
 lft (Qv k8 out12 again13)
 else
 lft (Qv k8 out12 again13)
def RZ (f1 : OG) (d2 : Int) (out6 : List Bool) (again7 : Bool) (k8 : Int) : Option (((List Bool) × Bool × Int) ⊕ (((List Bool) × Bool) ⊕ ((List Bool)))) :=
 bif (decide (k8 < (f1.Code.length : Int))) then
 (SD f1 k8).bind λr11 =>
 Pl (λs=>QP r11 k8 d2 s.1 s.2.1 s.2.2) (out6,again7,0)
 else
 lft (cnt (out6,again7))
def RY (f1 : OG) (d2 : Int) (out4 : List Bool) (again5 : Bool) : Option (((List Bool) × Bool) ⊕ ((List Bool))) :=
 bif again5 then
 Pl (λs=>RZ f1 d2 s.1 s.2.1 s.2.2) (out4,false,0)
 else
 lft (some out4)
def Sa (f1 : OG) (d2 : Int) : Option ((List Bool)) :=
 chk (0 <= (0 : Int) /\ (0 : Int) < (List.replicate (f1.Code.length : Int).toNat false).length) <|
 ((List.replicate (f1.Code.length : Int).toNat false)[(0 : Int).toNat]?).bind λ_ =>
 Pl (λs=>RY f1 d2 s.1 s.2) ((List.replicate (f1.Code.length : Int).toNat false).set ((0 : Int).toNat) true,true)
def Sd (f1 : OG) (d2 : Int) : Option ((List Bool)) :=
 chk (0 <= (f1.Code.length : Int) /\ (f1.Code.length : Int) <= 16777216) <|
 bif (d2 == 0) then
 some (List.replicate (f1.Code.length : Int).toNat false)
 else
 bif (((List.replicate (f1.Code.length : Int).toNat false).length : Int) == 0) then
 some (List.replicate (f1.Code.length : Int).toNat false)
 else
 Sa f1 d2

def RB (d4 : Int) (out5 : List (List Bool)) : Option (((List (List Bool)) × Int) ⊕ ((List (List Bool)))) :=
 cnt (out5,i64.wrap (d4 + 1))
def RA (f1 : OG) (d4 : Int) (r2 : (List Bool)) (r6 : (List Bool)) (out8 : List (List Bool)) (k9 : Int) : Option (((List (List Bool)) × Int) ⊕ (((List (List Bool)) × Int) ⊕ ((List (List Bool))))) :=
 bif (decide (k9 < (f1.Code.length : Int))) then
 chk (0 <= d4 /\ d4 < out8.length) <|
 ((out8)[d4.toNat]?).bind λout_e10 =>
 chk (0 <= k9 /\ k9 < r2.length) <|
 ((r2)[k9.toNat]?).bind λreached_e11 =>
 bif reached_e11 then
 chk (0 <= k9 /\ k9 < r6.length) <|
 ((r6)[k9.toNat]?).bind λw_e12 =>
 chk (0 <= k9 /\ k9 < out_e10.length) <|
 ((out_e10)[k9.toNat]?).bind λ_ =>
 cnt (out8.set d4.toNat (out_e10.set k9.toNat (!w_e12)),i64.wrap (k9 + 1))
 else
 chk (0 <= k9 /\ k9 < out_e10.length) <|
 ((out_e10)[k9.toNat]?).bind λ_ =>
 cnt (out8.set d4.toNat (out_e10.set k9.toNat false),i64.wrap (k9 + 1))
 else
 lft (RB d4 out8)
def Rz (f1 : OG) (r2 : (List Bool)) (out3 : List (List Bool)) (d4 : Int) : Option (((List (List Bool)) × Int) ⊕ ((List (List Bool)))) :=
 bif (decide (d4 < (f1.Code.length : Int))) then
 (Sd f1 d4).bind λr6 =>
 chk (0 <= (f1.Code.length : Int) /\ (f1.Code.length : Int) <= 16777216) <|
 chk (0 <= d4 /\ d4 < out3.length) <|
 ((out3)[d4.toNat]?).bind λ_ =>
 Pl (λs=>RA f1 d4 r2 r6 s.1 s.2) (out3.set d4.toNat (List.replicate (f1.Code.length : Int).toNat false),0)
 else
 lft (some out3)
def Ry (f1 : OG) : Option ((List (List Bool))) :=
 (Sc f1).bind λr2 =>
 chk (0 <= (f1.Code.length : Int) /\ (f1.Code.length : Int) <= 16777216) <|
 Pl (λs=>Rz f1 r2 s.1 s.2) (List.replicate (f1.Code.length : Int).toNat ([] : (List Bool)),0)

def OP (k7 : Int) (r4 : (List Int)) (r3 : OG) (r5 : (List Int)) (r6 : (List (List Bool))) (x8 : Bool) : Option ((Int) ⊕ (Bool)) :=
 bif x8 then
 chk (0 <= k7 /\ k7 < r4.length) <|
 ((r4)[k7.toNat]?).bind λd_e10 =>
 bif (d_e10 != (-1)) then
 lft (some false)
 else
 cnt (i64.wrap (k7 + 1))
 else
 chk (0 <= k7 /\ k7 < r4.length) <|
 ((r4)[k7.toNat]?).bind λd_e11 =>
 bif (decide (d_e11 < 0)) then
 lft (some false)
 else
 chk (0 <= k7 /\ k7 < r4.length) <|
 ((r4)[k7.toNat]?).bind λd_e12 =>
 bif (decide (d_e12 >= (r3.Code.length : Int))) then
 lft (some false)
 else
 chk (0 <= k7 /\ k7 < r4.length) <|
 ((r4)[k7.toNat]?).bind λd_e13 =>
 chk (0 <= d_e13 /\ d_e13 < r5.length) <|
 ((r5)[d_e13.toNat]?).bind λrank_e14 =>
 chk (0 <= k7 /\ k7 < r5.length) <|
 ((r5)[k7.toNat]?).bind λrank_e15 =>
 bif (decide (rank_e14 >= rank_e15)) then
 lft (some false)
 else
 chk (0 <= k7 /\ k7 < r4.length) <|
 ((r4)[k7.toNat]?).bind λd_e16 =>
 (ixO r6 d_e16).bind λx_x17 =>
 (ixO x_x17 k7).bind λx_x18 =>
 bif (!x_x18) then
 lft (some false)
 else
 cnt (i64.wrap (k7 + 1))
def OW (r3 : OG) (r4 : (List Int)) (r5 : (List Int)) (r6 : (List (List Bool))) (k7 : Int) : Option ((Int) ⊕ (Bool)) :=
 bif (decide (k7 < (r3.Code.length : Int))) then
 bif (k7 == 0) then
 OP k7 r4 r3 r5 r6 true
 else
 chk (0 <= k7 /\ k7 < r5.length) <|
 ((r5)[k7.toNat]?).bind λrank_e9 =>
 OP k7 r4 r3 r5 r6 (decide (rank_e9 < 0))
 else
 lft (some true)
def Po (r3 : OG) (r4 : (List Int)) (r5 : (List Int)) (r6 : (List (List Bool))) : Option (Bool) :=
 Pl (λs=>OW r3 r4 r5 r6 s) 0
def Pw (codes1 : (List Int)) : Option (Bool) :=
 (SH).bind λr2 =>
 bif (!r2) then
 some false
 else
 (RI codes1).bind λr3 =>
 (Qf r3).bind λr4 =>
 (QL r3).bind λr5 =>
 (Ry r3).bind λr6 =>
 bif ((r4.length : Int) != (r3.Code.length : Int)) then
 some false
 else
 bif ((r5.length : Int) != (r3.Code.length : Int)) then
 some false
 else
 Po r3 r4 r5 r6

def Xi (a1 : (List Int)) (b2 : (List Int)) (i3 : Int) : Option ((Int) ⊕ (Bool)) :=
 bif (decide (i3 < (a1.length : Int))) then
 (ixO a1 i3).bind λx_x4 =>
 (ixO b2 i3).bind λx_x5 =>
 bif (x_x4 != x_x5) then
 lft (some false)
 else
 cnt (i64.wrap (i3 + 1))
 else
 lft (some true)
def Zs (a1 : (List Int)) (b2 : (List Int)) : Option (Bool) :=
 bif ((a1.length : Int) != (b2.length : Int)) then
 some false
 else
 Pl (λs=>Xi a1 b2 s) 0

end
end Go.Proofs.Ytgebpjgohchohaa
