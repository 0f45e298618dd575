/-
 The programs on typed data; written by a program (dx.py).
-/
import Derived.Test.YtcppfbhmhlhncaaDoorDxT
namespace Go.Proofs.YtcppfbhmhlhncaaDoor
open Go Go.Dw Go.Proofs
open Go.IntKind (i64 u64 u8)
set_option maxRecDepth 100000
set_option maxHeartbeats 40000000
noncomputable section
def Ss (c1:Int):Option ((List UInt8)) :=
 bif (c1==0)then
 some ([98,97,115,101,108,105,110,101])
 else
 bif (c1==1)then
 some ([112,97,99,107,101,100])
 else
 bif (c1==2)then
 some ([111,112,116,105,109,105,115,101,100])
 else
 some ([63])

def Wb  : Option (Bool) :=
 (Ss 1).bind λr1 =>
 some (r1==([112,97,99,107,101,100]))

def WV (list1:(List Int)) (limit2:Int):Option (BS) :=
 chk (0<=(WW (list1.length:Int) limit2)/\(WW (list1.length:Int) limit2)<=list1.length) <|
 some (BS.mk (list1.take (WW (list1.length:Int) limit2).toNat) 0)

def Uu (c1:BS):Option (Bool×BS) :=
 some ((decide (c1.at_<(c1.list.length:Int))),c1)

def Tl (n2:Int) (c3:List Int) (c4:Int):Option (Int×BS) :=
 (ixO c3 c4).bind λx_x5 =>
 some (i64.wrap ((i64.wrap ((i64.wrap (x_x5))*n2)).tdiv 256),(BS.mk c3 (i64.wrap (c4+1))))
def Pl (c1:BS) (n2:Int):Option (Int×BS) :=
 (Uu c1).bind λr6 =>
 bif (!r6.1)then
 some (0,r6.2)
 else
 bif (decide (n2<1))then
 some (0,r6.2)
 else
 Tl n2 r6.2.list r6.2.at_

def Tm (c1:BS):Option (Qu×BS) :=
 (Pl c1 7).bind λr2 =>
 chk (0<=r2.1/\r2.1<([8,4,8,1,2,16,8]:List Int).length) <|
 ((([8,4,8,1,2,16,8]:List Int))[r2.1.toNat]?).bind λx_e3 =>
 (Pl r2.2 8).bind λr4 =>
 chk (0<=r4.1/\r4.1<([8,4,1,8,16,2,32,64]:List Int).length) <|
 ((([8,4,1,8,16,2,32,64]:List Int))[r4.1.toNat]?).bind λx_e5 =>
 some ((Qu.mk x_e3 x_e5),r4.2)

def Te (c4:List Int) (c5:Int) (l6:List Qu) (n7:Int):Option (((List Int)×Int×(List Qu)×Int)⊕((List Qu)×BS)) :=
 bif (decide (n7>0))then
 (Tm (BS.mk c4 c5)).bind λr8 =>
 chk (l6.length+([r8.1]:List Qu).length<=16777216) <|
 cnt (r8.2.list,r8.2.at_,l6++([r8.1]:List Qu),i64.wrap (n7-1))
 else
 lft (some (l6,(BS.mk c4 c5)))
def Tb (c1:BS) (most2:Int):Option ((List Qu)×BS) :=
 (Pl c1 (i64.wrap (most2+1))).bind λr3 =>
 Qv (λs=>Te s.1 s.2.1 s.2.2.1 s.2.2.2) (r3.2.list,r3.2.at_,([]:List Qu),r3.1)

def Tq (f2:Qo) (s3:Int) (c1:BS) (l4:List Int) (k5:Int):Option (((List Int)×Int)⊕(Int×BS)) :=
 bif (decide (k5<(f2.Slots.length:Int)))then
 (ixO f2.Slots k5).bind λx_x6 =>
 (ixO f2.Slots s3).bind λx_x7 =>
 bif (x_x6.Size==x_x7.Size)then
 chk (l4.length+([k5]:List Int).length<=16777216) <|
 cnt (l4++([k5]:List Int),i64.wrap (k5+1))
 else
 cnt (l4,i64.wrap (k5+1))
 else
 lft (
 (Pl c1 (l4.length:Int)).bind λr8 =>
 chk (0<=r8.1/\r8.1<l4.length) <|
 ((l4)[r8.1.toNat]?).bind λl_e9 =>
 some (l_e9,r8.2))
def Tp (c1:BS) (f2:Qo) (s3:Int):Option (Int×BS) :=
 Qv (λs=>Tq f2 s3 c1 s.1 s.2) (([]:List Int),0)

def Sm (c1:BS):Option (Int×BS) :=
 (Pl c1 6).bind λr2 =>
 bif (r2.1==0)then
 (Pl r2.2 3).bind λr3 =>
 some (u64.wrap (18446744073709551615-(u64.wrap (r3.1))),r3.2)
 else
 bif (r2.1==1)then
 (Pl r2.2 64).bind λr4 =>
 chk (0<=r4.1) <|
 some (u64.wrap (1*2 ^ (Nat.min r4.1.toNat u64.bits)),r4.2)
 else
 bif (r2.1==2)then
 some (0,r2.2)
 else
 (Pl r2.2 256).bind λr5 =>
 some (u64.wrap (r5.1),r5.2)

def To (params4:(List Int)) (i3:Int) (r23:Int×BS) (c24:List Int) (c25:Int) (out26:List Ed) (a27:Int):Option (((List Int)×Int×(List Ed)×Int)⊕((List Ed)×BS)) :=
 (ixO params4 (i64.wrap ((i64.wrap (i3+1))+r23.1))).bind λx_x28 =>
 bif (decide (a27<x_x28))then
 (Pl (BS.mk c24 c25) 8).bind λr29 =>
 bif (decide (r29.1<7))then
 (Pl r29.2 4).bind λr30 =>
 chk (out26.length+([(Ed.mk 18 a27 r30.1 0 0)]:List Ed).length<=16777216) <|
 cnt (r30.2.list,r30.2.at_,out26++([(Ed.mk 18 a27 r30.1 0 0)]:List Ed),i64.wrap (a27+1))
 else
 cnt (r29.2.list,r29.2.at_,out26,i64.wrap (a27+1))
 else
 lft (
 chk (out26.length+([(Ed.mk 22 (i64.wrap ((i64.wrap (i3+1))+r23.1)) 0 0 0)]:List Ed).length<=16777216) <|
 some (out26++([(Ed.mk 22 (i64.wrap ((i64.wrap (i3+1))+r23.1)) 0 0 0)]:List Ed),(BS.mk c24 c25)))
def UK (r5:Int×BS) (r6:Int×BS):Option ((List Ed)×BS) :=
 some (([(Ed.mk 14 r5.1 0 0 0)]:List Ed),r6.2)
def Sb (r6:Int×BS) (params4:(List Int)) (i3:Int) (r5:Int×BS) (x22:Bool):Option ((List Ed)×BS) :=
 bif x22 then
 (Pl r6.2 (i64.wrap ((i64.wrap ((params4.length:Int)-i3))-1))).bind λr23 =>
 Qv (λs=>To params4 i3 r23 s.1 s.2.1 s.2.2.1 s.2.2.2) (r23.2.list,r23.2.at_,([]:List Ed),0)
 else
 UK r5 r6
def Sa (r6:Int×BS) (f2:Qo) (r5:Int×BS) (params4:(List Int)) (i3:Int) (x20:Bool):Option ((List Ed)×BS) :=
 bif x20 then
 (Pl r6.2 f2.Params).bind λr21 =>
 some (([(Ed.mk 19 r5.1 r21.1 0 0)]:List Ed),r21.2)
 else
 bif (decide (r6.1>=17))then
 Sb r6 params4 i3 r5 (decide ((i64.wrap (i3+1))<(params4.length:Int)))
 else
 Sb r6 params4 i3 r5 false
def RZ (r6:Int×BS) (f2:Qo) (r5:Int×BS) (params4:(List Int)) (i3:Int) (x11:Bool):Option ((List Ed)×BS) :=
 bif x11 then
 (Pl r6.2 (f2.Slots.length:Int)).bind λr12 =>
 (Tp r12.2 f2 r12.1).bind λr13 =>
 some (([(Ed.mk 17 r13.1 r12.1 0 0)]:List Ed),r13.2)
 else
 bif (decide (r6.1<11))then
 (Sm r6.2).bind λr14 =>
 some (([(Ed.mk 0 r5.1 0 0 r14.1)]:List Ed),r14.2)
 else
 bif (decide (r6.1<13))then
 (Pl r6.2 10).bind λr15 =>
 (Pl r15.2 4).bind λr16 =>
 (Pl r16.2 8).bind λr17 =>
 some (([(Ed.mk (i64.wrap (2+r15.1)) r5.1 r16.1 r17.1 0)]:List Ed),r17.2)
 else
 bif (decide (r6.1<15))then
 some (([(Ed.mk 14 r5.1 0 0 0)]:List Ed),r6.2)
 else
 bif (r6.1==15)then
 (Pl r6.2 3).bind λr18 =>
 chk (0<=r18.1/\r18.1<([13,12,1]:List Int).length) <|
 ((([13,12,1]:List Int))[r18.1.toNat]?).bind λx_e19 =>
 some (([(Ed.mk x_e19 r5.1 0 0 0)]:List Ed),r18.2)
 else
 bif (r6.1==16)then
 Sa r6 f2 r5 params4 i3 (decide (f2.Params>0))
 else
 Sa r6 f2 r5 params4 i3 false
def RY (r6:Int×BS) (f2:Qo) (r5:Int×BS) (params4:(List Int)) (i3:Int) (x9:Bool):Option ((List Ed)×BS) :=
 bif x9 then
 (Pl r6.2 (f2.Slots.length:Int)).bind λr10 =>
 some (([(Ed.mk 15 r5.1 r10.1 0 0)]:List Ed),r10.2)
 else
 bif (decide (r6.1<9))then
 RZ r6 f2 r5 params4 i3 (decide ((f2.Slots.length:Int)>0))
 else
 RZ r6 f2 r5 params4 i3 false
def RX (r6:Int×BS) (f2:Qo) (r5:Int×BS) (params4:(List Int)) (i3:Int) (x7:Bool):Option ((List Ed)×BS) :=
 bif x7 then
 (Pl r6.2 (f2.Slots.length:Int)).bind λr8 =>
 some (([(Ed.mk 16 r8.1 r5.1 0 0)]:List Ed),r8.2)
 else
 bif (decide (r6.1<6))then
 RY r6 f2 r5 params4 i3 (decide ((f2.Slots.length:Int)>0))
 else
 RY r6 f2 r5 params4 i3 false
def Tn (c1:BS) (f2:Qo) (i3:Int) (params4:(List Int)):Option ((List Ed)×BS) :=
 (Pl c1 4).bind λr5 =>
 (Pl r5.2 20).bind λr6 =>
 bif (decide (r6.1<3))then
 RX r6 f2 r5 params4 i3 (decide ((f2.Slots.length:Int)>0))
 else
 RX r6 f2 r5 params4 i3 false

def RK (k30:Int) (code29:List Ed) (r31:Int×BS) (to32:Int) (x33:Bool):Option (((List Int)×Int×(List Ed)×Int)⊕(Qo×BS)) :=
 bif x33 then
 chk (0<=k30/\k30<code29.length) <|
 ((code29)[k30.toNat]?).bind λcode_o34 =>
 cnt (r31.2.list,r31.2.at_,code29.set k30.toNat (Ed.mk code_o34.Op to32 code_o34.B code_o34.C code_o34.Imm),i64.wrap (k30+1))
 else
 chk (0<=k30/\k30<code29.length) <|
 ((code29)[k30.toNat]?).bind λcode_e35 =>
 bif (code_e35.Op==21)then
 chk (0<=k30/\k30<code29.length) <|
 ((code29)[k30.toNat]?).bind λcode_e36 =>
 bif (decide (code_e36.B<0))then
 chk (0<=k30/\k30<code29.length) <|
 ((code29)[k30.toNat]?).bind λcode_o37 =>
 cnt (r31.2.list,r31.2.at_,code29.set k30.toNat (Ed.mk code_o37.Op code_o37.A to32 code_o37.C code_o37.Imm),i64.wrap (k30+1))
 else
 cnt (r31.2.list,r31.2.at_,code29,i64.wrap (k30+1))
 else
 cnt (r31.2.list,r31.2.at_,code29,i64.wrap (k30+1))
def QP (k30:Int) (code29:List Ed) (r31:Int×BS) (to32:Int):Option (((List Int)×Int×(List Ed)×Int)⊕(Qo×BS)) :=
 chk (0<=k30/\k30<code29.length) <|
 ((code29)[k30.toNat]?).bind λcode_e38 =>
 bif (code_e38.Op==20)then
 chk (0<=k30/\k30<code29.length) <|
 ((code29)[k30.toNat]?).bind λcode_e39 =>
 RK k30 code29 r31 to32 (decide (code_e39.A<0))
 else
 RK k30 code29 r31 to32 false
def RJ (x_x5:Int) (f17:List Qu) (c27:List Int) (c28:Int) (code29:List Ed) (k30:Int):Option (((List Int)×Int×(List Ed)×Int)⊕(Qo×BS)) :=
 bif (decide (k30<(code29.length:Int)))then
 (Pl (BS.mk c27 c28) 8).bind λr31 =>
 bif (decide ((i64.wrap ((i64.wrap (k30+r31.1))-2))<0))then
 QP k30 code29 r31 (i64.wrap ((code29.length:Int)-1))
 else
 bif (decide ((i64.wrap ((i64.wrap (k30+r31.1))-2))>=(code29.length:Int)))then
 QP k30 code29 r31 (i64.wrap ((code29.length:Int)-1))
 else
 QP k30 code29 r31 (i64.wrap ((i64.wrap (k30+r31.1))-2))
 else
 lft (some ((Qo.mk x_x5 f17 code29),(BS.mk c27 c28)))
def Rm (code16:List Ed) (x_x5:Int) (f17:List Qu) (c23:List Int) (c24:Int) (end25:Int) (end26:Int):Option (Qo×BS) :=
 chk (code16.length+([(Ed.mk end25 0 0 0 end26)]:List Ed).length<=16777216) <|
 Qv (λs=>RJ x_x5 f17 s.1 s.2.1 s.2.2.1 s.2.2.2) (c23,c24,code16++([(Ed.mk end25 0 0 0 end26)]:List Ed),0)
def SG (x_x5:Int) (i2:Int) (params3:(List Int)) (c14:List Int) (c15:Int) (code16:List Ed) (f17:List Qu) (n18:Int):Option (((List Int)×Int×(List Ed)×(List Qu)×Int)⊕(Qo×BS)) :=
 bif (decide (n18>0))then
 (Tn (BS.mk c14 c15) (Qo.mk x_x5 f17 ([])) i2 params3).bind λr19 =>
 chk (code16.length+r19.1.length<=16777216) <|
 (Pl r19.2 9).bind λr20 =>
 bif (r20.1==7)then
 (Pl r20.2 4).bind λr21 =>
 chk ((code16++r19.1).length+([(Ed.mk 21 r21.1 (-1) 0 0)]:List Ed).length<=16777216) <|
 cnt (r21.2.list,r21.2.at_,(code16++r19.1)++([(Ed.mk 21 r21.1 (-1) 0 0)]:List Ed),f17,i64.wrap (n18-1))
 else
 bif (r20.1==8)then
 (Pl r20.2 3).bind λr22 =>
 bif (r22.1==2)then
 chk ((code16++r19.1).length+([(Ed.mk 20 (-1) 0 0 0)]:List Ed).length<=16777216) <|
 cnt (r22.2.list,r22.2.at_,(code16++r19.1)++([(Ed.mk 20 (-1) 0 0 0)]:List Ed),f17,i64.wrap (n18-1))
 else
 cnt (r22.2.list,r22.2.at_,code16++r19.1,f17,i64.wrap (n18-1))
 else
 cnt (r20.2.list,r20.2.at_,code16++r19.1,f17,i64.wrap (n18-1))
 else
 lft (
 (Pl (BS.mk c14 c15) 12).bind λr40 =>
 bif (r40.1==11)then
 (Sm r40.2).bind λr41 =>
 Rm code16 x_x5 f17 r41.2.list r41.2.at_ 24 r41.1
 else
 Rm code16 x_x5 f17 r40.2.list r40.2.at_ 23 0)
def SF (r6:(List Qu)×BS) (most4:Int) (x_x5:Int) (i2:Int) (params3:(List Int)) (c7:List Int) (c8:Int) (code9:List Ed) (s10:Int):Option (((List Int)×Int×(List Ed)×Int)⊕(Qo×BS)) :=
 bif (decide (s10<(r6.1.length:Int)))then
 (Pl (BS.mk c7 c8) 4).bind λr11 =>
 bif (decide (r11.1<3))then
 (Pl r11.2 4).bind λr12 =>
 chk (code9.length+([(Ed.mk 16 s10 r12.1 0 0)]:List Ed).length<=16777216) <|
 cnt (r12.2.list,r12.2.at_,code9++([(Ed.mk 16 s10 r12.1 0 0)]:List Ed),i64.wrap (s10+1))
 else
 cnt (r11.2.list,r11.2.at_,code9,i64.wrap (s10+1))
 else
 lft (
 (Pl (BS.mk c7 c8) (i64.wrap (most4+1))).bind λr13 =>
 Qv (λs=>SG x_x5 i2 params3 s.1 s.2.1 s.2.2.1 s.2.2.2.1 s.2.2.2.2) (r13.2.list,r13.2.at_,code9,r6.1,r13.1))
def Sy (c1:BS) (i2:Int) (params3:(List Int)) (most4:Int):Option (Qo×BS) :=
 (ixO params3 i2).bind λx_x5 =>
 (Tb c1 6).bind λr6 =>
 Qv (λs=>SF r6 most4 x_x5 i2 params3 s.1 s.2.1 s.2.2.1 s.2.2.2) (r6.2.list,r6.2.at_,([]:List Ed),0)

def SO (most3:Int) (c10:List Int) (c11:Int) (p12:List Qo) (i13:Int) (params14:List Int):Option (((List Int)×Int×(List Qo)×Int×(List Int))⊕(Qj×BS)) :=
 bif (decide (i13<(params14.length:Int)))then
 chk (([]:List Qo).length+p12.length<=16777216) <|
 (Sy (BS.mk c10 c11) i13 params14 most3).bind λr15 =>
 chk ((([]:List Qo)++p12).length+([r15.1]:List Qo).length<=16777216) <|
 cnt (r15.2.list,r15.2.at_,(([]:List Qo)++p12)++([r15.1]:List Qo),i64.wrap (i13+1),params14)
 else
 lft (some ((Qj.mk p12),(BS.mk c10 c11)))
def SN (most3:Int) (c5:List Int) (c6:Int) (params7:List Int) (n8:Int):Option (((List Int)×Int×(List Int)×Int)⊕(Qj×BS)) :=
 bif (decide (n8>0))then
 (Pl (BS.mk c5 c6) 4).bind λr9 =>
 chk (params7.length+([r9.1]:List Int).length<=16777216) <|
 cnt (r9.2.list,r9.2.at_,params7++([r9.1]:List Int),i64.wrap (n8-1))
 else
 lft (Qv (λs=>SO most3 s.1 s.2.1 s.2.2.1 s.2.2.2.1 s.2.2.2.2) (c5,c6,[],0,params7))
def SK (c1:BS) (funcs2:Int) (most3:Int):Option (Qj×BS) :=
 (Pl c1 funcs2).bind λr4 =>
 Qv (λs=>SN most3 s.1 s.2.1 s.2.2.1 s.2.2.2) (r4.2.list,r4.2.at_,([0]:List Int),r4.1)

def VD (n1:Int):Option (Bool) :=
 bif (n1==1)then
 some true
 else
 bif (n1==2)then
 some true
 else
 bif (n1==4)then
 some true
 else
 bif (n1==8)then
 some true
 else
 some (n1==16)

def TU (n1:Int) (k2:Int):Option ((Int)⊕(Bool)) :=
 bif (decide (k2<=16777216))then
 bif (n1==k2)then
 lft (some true)
 else
 cnt (i64.wrap (k2*2))
 else
 lft (some false)
def SH (n1:Int):Option (Bool) :=
 Qv (λs=>TU n1 s) 1

def UR (s1:(List Qu)) (i2:Int):Option ((Int)⊕(Int)) :=
 bif (decide (i2<(s1.length:Int)))then
 (ixO s1 i2).bind λx_x3 =>
 (VD x_x3.Size).bind λr4 =>
 bif (!r4)then
 lft (some 5)
 else
 (ixO s1 i2).bind λx_x5 =>
 (SH x_x5.Align).bind λr6 =>
 bif (!r6)then
 lft (some 5)
 else
 cnt (i64.wrap (i2+1))
 else
 lft (some 0)
def Ve (s1:(List Qu)):Option (Int) :=
 bif (decide ((s1.length:Int)>512))then
 some 3
 else
 Qv (λs=>UR s1 s) 0

def UQ (s1:(List Qu)) (a3:Int) (i4:Int):Option ((Int×Int)⊕(Int)) :=
 bif (decide (i4<(s1.length:Int)))then
 (ixO s1 i4).bind λx_x5 =>
 cnt (TR a3 x_x5.Align,i64.wrap (i4+1))
 else
 lft (some a3)
def Vc (s1:(List Qu)):Option (Int) :=
 (Ve s1).bind λr2 =>
 bif (r2 != 0)then
 some 16
 else
 Qv (λs=>UQ s1 s.1 s.2) (16,0)

def US (p1:Qj) (a2:Int) (i3:Int):Option ((Int×Int)⊕(Int)) :=
 bif (decide (i3<(p1.Funcs.length:Int)))then
 (ixO p1.Funcs i3).bind λx_x4 =>
 (Vc x_x4.Slots).bind λr5 =>
 cnt (TR a2 r5,i64.wrap (i3+1))
 else
 lft (some a2)
def Vg (p1:Qj):Option (Int) :=
 Qv (λs=>US p1 s.1 s.2) (16,0)

def Vl (x_x3:Qo) (p1:Qj) (n4:Int) (k5:Int):Option ((Int×Int)⊕(Int)) :=
 bif (decide (k5<(x_x3.Code.length:Int)))then
 (ixO x_x3.Code k5).bind λx_x6 =>
 bif (x_x6.Op==18)then
 (ixO x_x3.Code k5).bind λx_x7 =>
 cnt (TR n4 (i64.wrap (x_x7.A+1)),i64.wrap (k5+1))
 else
 bif (x_x6.Op==22)then
 (ixO x_x3.Code k5).bind λx_x8 =>
 (ixO p1.Funcs x_x8.A).bind λx_x9 =>
 cnt (TR n4 x_x9.Params,i64.wrap (k5+1))
 else
 cnt (n4,i64.wrap (k5+1))
 else
 lft (some (i64.wrap (n4*16)))
def Uj (p1:Qj) (i2:Int):Option (Int) :=
 (ixO p1.Funcs i2).bind λx_x3 =>
 Qv (λs=>Vl x_x3 p1 s.1 s.2) (0,0)

def TC (n1:Int):Option (Bool) :=
 bif (decide (n1>=0))then
 some (decide (n1<=2147483647))
 else
 some false

def Vf (m3:Int):Option (Int×Int) :=
 bif (decide (m3>2147483647))then
 some (0,9)
 else
 some (m3,0)
def Wd (align2:Int) (n1:Int):Option (Int×Int) :=
 chk (align2≠0) <|
 bif ((n1.tmod align2) != 0)then
 chk (align2≠0) <|
 Vf (i64.wrap ((i64.wrap (n1-(n1.tmod align2)))+align2))
 else
 Vf n1
def VU (n1:Int) (align2:Int):Option (Int×Int) :=
 (TC n1).bind λr4 =>
 bif (!r4)then
 some (0,4)
 else
 (SH align2).bind λr5 =>
 bif (!r5)then
 some (0,4)
 else
 Wd align2 n1

def TN (x6:List Int) (r10:Int×Int) (x_x5:Qo) (k7:Int) (x11:Qu) (x12:Qu) (x13:Int) (x14:Int) (x15:Bool):Option (((List Int)×Int×Int)⊕(Qn×Int)) :=
 chk (([]:List Int).length+x6.length<=16777216) <|
 chk ((([]:List Int)++x6).length+([r10.1]:List Int).length<=16777216) <|
 (ixO x_x5.Slots k7).bind λx_x16 =>
 cnt ((([]:List Int)++x6)++([r10.1]:List Int),i64.wrap (k7+1),i64.wrap (r10.1+x_x16.Size))
def TM (x_x5:Qo) (align3:Int) (r4:Int) (x6:List Int) (k7:Int) (end8:Int):Option (((List Int)×Int×Int)⊕(Qn×Int)) :=
 bif (decide (k7<(x_x5.Slots.length:Int)))then
 (ixO x_x5.Slots k7).bind λx_x9 =>
 (VU end8 x_x9.Align).bind λr10 =>
 bif (r10.2 != 0)then
 lft (some ((Qn.mk 0 0 ([])),9))
 else
 (ixO x_x5.Slots k7).bind λx_x17 =>
 bif (decide (r10.1>(i64.wrap (2147483519-x_x17.Size))))then
 lft (some ((Qn.mk 0 0 ([])),9))
 else
 TN x6 r10 x_x5 k7 x_x17 x_x17 x_x17.Size (i64.wrap (2147483519-x_x17.Size)) (decide (r10.1>(i64.wrap (2147483519-x_x17.Size))))
 else
 lft (
 (VU end8 align3).bind λr18 =>
 bif (r18.2 != 0)then
 some ((Qn.mk 0 0 ([])),9)
 else
 bif (decide (r18.1>2147483519))then
 some ((Qn.mk 0 0 ([])),9)
 else
 some ((Qn.mk r4 r18.1 x6),0))
def SB (p1:Qj) (i2:Int) (align3:Int):Option (Qn×Int) :=
 (Uj p1 i2).bind λr4 =>
 (ixO p1.Funcs i2).bind λx_x5 =>
 Qv (λs=>TM x_x5 align3 r4 s.1 s.2.1 s.2.2) (([]:List Int),0,r4)

def Tx (p1:Qj) (align2:Int) (out3:List Qn) (i4:Int):Option (((List Qn)×Int)⊕((List Qn)×Int)) :=
 bif (decide (i4<(p1.Funcs.length:Int)))then
 (SB p1 i4 align2).bind λr5 =>
 bif (r5.2 != 0)then
 lft (some (([]:List Qn),r5.2))
 else
 chk (out3.length+([r5.1]:List Qn).length<=16777216) <|
 cnt (out3++([r5.1]:List Qn),i64.wrap (i4+1))
 else
 lft (some (out3,0))
def SP (p1:Qj) (align2:Int):Option ((List Qn)×Int) :=
 Qv (λs=>Tx p1 align2 s.1 s.2) (([]:List Qn),0)

def Vd (a1:QK):Option (Bool) :=
 (TC a1.Off).bind λr2 =>
 bif r2 then
 (TC a1.Size).bind λr3 =>
 bif r3 then
 some (decide ((i64.wrap (a1.Off+a1.Size))<=2147483647))
 else
 some false
 else
 some false

def UL (a1:QK) (size2:Int):Option (Bool) :=
 (Vd a1).bind λr3 =>
 bif r3 then
 some (decide ((i64.wrap (a1.Off+a1.Size))<=size2))
 else
 some false

def UT (x_x6:Qo) (y4:Qn) (align3:Int) (r5:Qn×Int) (k7:Int):Option ((Int)⊕(Int)) :=
 bif (decide (k7<(x_x6.Slots.length:Int)))then
 (ixO y4.Off k7).bind λx_x8 =>
 bif (decide (x_x8<y4.Args))then
 lft (some 13)
 else
 (ixO y4.Off k7).bind λx_x9 =>
 (ixO x_x6.Slots k7).bind λx_x10 =>
 chk (x_x10.Align≠0) <|
 bif ((x_x9.tmod x_x10.Align) != 0)then
 lft (some 13)
 else
 (ixO y4.Off k7).bind λx_x11 =>
 (ixO x_x6.Slots k7).bind λx_x12 =>
 (UL (QK.mk x_x11 x_x12.Size) y4.Size).bind λr13 =>
 bif (!r13)then
 lft (some 13)
 else
 cnt (i64.wrap (k7+1))
 else
 lft (
 chk (align3≠0) <|
 bif ((y4.Size.tmod align3) != 0)then
 some 13
 else
 bif (decide (y4.Size<y4.Args))then
 some 13
 else
 bif (decide (y4.Size>r5.1.Size))then
 some 13
 else
 some 0)
def UU (x_x6:Qo) (y4:Qn) (align3:Int) (r5:Qn×Int):Option (Int) :=
 Qv (λs=>UT x_x6 y4 align3 r5 s) 0
def Vh (p1:Qj) (i2:Int) (align3:Int) (y4:Qn):Option (Int) :=
 (SB p1 i2 align3).bind λr5 =>
 bif (r5.2 != 0)then
 some r5.2
 else
 (ixO p1.Funcs i2).bind λx_x6 =>
 (Uj p1 i2).bind λr14 =>
 bif (y4.Args != r14)then
 some 13
 else
 bif ((y4.Off.length:Int) != (x_x6.Slots.length:Int))then
 some 13
 else
 UU x_x6 y4 align3 r5

def Vj (f1:Qo) (y2:Qn) (x3:Ed):Option (Ed) :=
 bif (x3.Op==15)then
 (ixO y2.Off x3.B).bind λx_x4 =>
 (ixO f1.Slots x3.B).bind λx_x5 =>
 some (Ed.mk 15 x3.A x_x4 x_x5.Size 0)
 else
 bif (x3.Op==16)then
 (ixO y2.Off x3.A).bind λx_x6 =>
 (ixO f1.Slots x3.A).bind λx_x7 =>
 some (Ed.mk 16 x_x6 x3.B x_x7.Size 0)
 else
 bif (x3.Op==17)then
 (ixO y2.Off x3.A).bind λx_x8 =>
 (ixO y2.Off x3.B).bind λx_x9 =>
 (ixO f1.Slots x3.A).bind λx_x10 =>
 some (Ed.mk 17 x_x8 x_x9 x_x10.Size 0)
 else
 bif (x3.Op==18)then
 some (Ed.mk 16 (i64.wrap (16*x3.A)) x3.B 16 0)
 else
 bif (x3.Op==19)then
 some (Ed.mk 15 x3.A (i64.wrap (y2.Size+(i64.wrap (16*x3.B)))) 16 0)
 else
 some x3

def UW (x_x4:Qo) (y3:Qn) (code5:List Ed) (k6:Int):Option (((List Ed)×Int)⊕(Qk)) :=
 bif (decide (k6<(x_x4.Code.length:Int)))then
 (ixO x_x4.Code k6).bind λx_x7 =>
 (Vj x_x4 y3 x_x7).bind λr8 =>
 chk (code5.length+([r8]:List Ed).length<=16777216) <|
 cnt (code5++([r8]:List Ed),i64.wrap (k6+1))
 else
 lft (some (Qk.mk x_x4.Params y3.Size code5))
def Vi (p1:Qj) (i2:Int) (y3:Qn):Option (Qk) :=
 (ixO p1.Funcs i2).bind λx_x4 =>
 Qv (λs=>UW x_x4 y3 s.1 s.2) (([]:List Ed),0)

def UF (l3:(List Qn)) (p1:Qj) (align2:Int) (frames4:List Qk) (i5:Int):Option (((List Qk)×Int)⊕(Pw×Int)) :=
 bif (decide (i5<(l3.length:Int)))then
 (ixO l3 i5).bind λx_x6 =>
 (Vh p1 i5 align2 x_x6).bind λr7 =>
 bif (r7 != 0)then
 lft (some ((Pw.mk 0 ([])),13))
 else
 (ixO l3 i5).bind λx_x8 =>
 (Vi p1 i5 x_x8).bind λr9 =>
 chk (frames4.length+([r9]:List Qk).length<=16777216) <|
 cnt (frames4++([r9]:List Qk),i64.wrap (i5+1))
 else
 lft (some ((Pw.mk align2 frames4),0))
def UM (p1:Qj) (align2:Int) (l3:(List Qn)):Option (Pw×Int) :=
 bif ((l3.length:Int) != (p1.Funcs.length:Int))then
 some ((Pw.mk 0 ([])),13)
 else
 Qv (λs=>UF l3 p1 align2 s.1 s.2) (([]:List Qk),0)

def Rx (i11:Int) (frames10:List Qk) (c20:List Int) (c21:Int) (code_e24:Ed) (k19:Int) (code18:List Ed) (x25:Bool):Option (((List Int)×Int×(List Ed)×Int)⊕(((List Int)×Int×(List Qk)×Int)⊕(Pw×BS))) :=
 bif x25 then
 chk (0<=i11/\i11<frames10.length) <|
 ((frames10)[i11.toNat]?).bind λframes_e26 =>
 (Pl (BS.mk c20 c21) (i64.wrap ((i64.wrap (frames_e26.Size-code_e24.C))+1))).bind λr27 =>
 chk (0<=k19/\k19<code18.length) <|
 ((code18)[k19.toNat]?).bind λcode_o28 =>
 cnt (r27.2.list,r27.2.at_,code18.set k19.toNat (Ed.mk code_o28.Op r27.1 code_o28.B code_o28.C code_o28.Imm),i64.wrap (k19+1))
 else
 cnt (c20,c21,code18,i64.wrap (k19+1))
def SY (k19:Int) (code18:List Ed) (i11:Int) (frames10:List Qk) (c20:List Int) (c21:Int) (x22:Int) (x23:Bool):Option (((List Int)×Int×(List Ed)×Int)⊕(((List Int)×Int×(List Qk)×Int)⊕(Pw×BS))) :=
 chk (0<=k19/\k19<code18.length) <|
 ((code18)[k19.toNat]?).bind λcode_e24 =>
 bif (code_e24.Op==16)then
 chk (0<=i11/\i11<frames10.length) <|
 ((frames10)[i11.toNat]?).bind λframes_e29 =>
 Rx i11 frames10 c20 c21 code_e24 k19 code18 (decide (frames_e29.Size>=code_e24.C))
 else
 Rx i11 frames10 c20 c21 code_e24 k19 code18 false
def Rv (i11:Int) (c12:List Int) (c13:Int) (frames14:List Qk):Option (((List Int)×Int×(List Qk)×Int)⊕(Pw×BS)) :=
 cnt (c12,c13,frames14,i64.wrap (i11+1))
def Sl (i11:Int) (frames10:List Qk) (c16:List Int) (c17:Int) (code18:List Ed) (k19:Int):Option (((List Int)×Int×(List Ed)×Int)⊕(((List Int)×Int×(List Qk)×Int)⊕(Pw×BS))) :=
 bif (decide (k19<(code18.length:Int)))then
 (Pl (BS.mk c16 c17) 3).bind λr30 =>
 bif (r30.1==2)then
 SY k19 code18 i11 frames10 r30.2.list r30.2.at_ r30.1 (r30.1==2)
 else
 lft (
 chk (0<=i11/\i11<frames10.length) <|
 ((frames10)[i11.toNat]?).bind λframes_o31 =>
 Rv i11 r30.2.list r30.2.at_ (frames10.set i11.toNat (Qk.mk frames_o31.Params frames_o31.Size code18)))
 else
 lft (
 chk (0<=i11/\i11<frames10.length) <|
 ((frames10)[i11.toNat]?).bind λframes_o32 =>
 Rv i11 c16 c17 (frames10.set i11.toNat (Qk.mk frames_o32.Params frames_o32.Size code18)))
def SX (r7:Pw×Int) (c8:List Int) (c9:Int) (frames10:List Qk) (i11:Int):Option (((List Int)×Int×(List Qk)×Int)⊕(Pw×BS)) :=
 bif (decide (i11<(frames10.length:Int)))then
 chk (0<=i11/\i11<frames10.length) <|
 ((frames10)[i11.toNat]?).bind λframes_e15 =>
 chk (([]:List Ed).length+frames_e15.Code.length<=16777216) <|
 Qv (λs=>Sl i11 frames10 s.1 s.2.1 s.2.2.1 s.2.2.2) (c8,c9,([]:List Ed)++frames_e15.Code,0)
 else
 lft (some ((Pw.mk r7.1.Align frames10),(BS.mk c8 c9)))
def SR (c1:BS) (funcs2:Int) (most3:Int):Option (Pw×BS) :=
 (SK c1 funcs2 most3).bind λr4 =>
 (Vg r4.1).bind λr5 =>
 (SP r4.1 r5).bind λr6 =>
 (UM r4.1 r5 r6.1).bind λr7 =>
 chk (([]:List Qk).length+r7.1.Frames.length<=16777216) <|
 Qv (λs=>SX r7 s.1 s.2.1 s.2.2.1 s.2.2.2) (r4.2.list,r4.2.at_,([]:List Qk)++r7.1.Frames,0)

def Rl (c1:BS):Option (Int×BS) :=
 (Pl c1 12).bind λr2 =>
 bif (r2.1==11)then
 (Pl r2.2 (([9223372036854775807,(-9223372036854775808),2147483648,2147483647,(-1),16777216,33554432,1048577,512,80]:List Int).length:Int)).bind λr3 =>
 chk (0<=r3.1/\r3.1<([9223372036854775807,(-9223372036854775808),2147483648,2147483647,(-1),16777216,33554432,1048577,512,80]:List Int).length) <|
 ((([9223372036854775807,(-9223372036854775808),2147483648,2147483647,(-1),16777216,33554432,1048577,512,80]:List Int))[r3.1.toNat]?).bind λl_e4 =>
 some (l_e4,r3.2)
 else
 (Pl r2.2 256).bind λr5 =>
 (Pl r5.2 7).bind λr6 =>
 chk (0<=r6.1) <|
 some (i64.wrap ((r5.1.fdiv (2 ^ (Nat.min r6.1.toNat i64.bits)))-(i64.wrap (r2.1.tdiv 9))),r6.2)

def Qq (r3:Int×BS) (t2:Pw) (c6:List Int) (c7:Int) (x8:List Ed) (f9:Int) (f10:Int):Option (Pw×BS) :=
 chk (0<=r3.1/\r3.1<(([]:List Qk)++t2.Frames).length) <|
 ((([]:List Qk)++t2.Frames)[r3.1.toNat]?).bind λ_ =>
 (Pl (BS.mk c6 c7) 10).bind λr12 =>
 bif (r12.1==9)then
 (Rl r12.2).bind λr13 =>
 some ((Pw.mk r13.1 ((([]:List Qk)++t2.Frames).set r3.1.toNat (Qk.mk f9 f10 x8))),r13.2)
 else
 some ((Pw.mk t2.Align ((([]:List Qk)++t2.Frames).set r3.1.toNat (Qk.mk f9 f10 x8))),r12.2)
def Si (c1:BS) (t2:Pw):Option (Pw×BS) :=
 chk (([]:List Qk).length+t2.Frames.length<=16777216) <|
 (Pl c1 ((([]:List Qk)++t2.Frames).length:Int)).bind λr3 =>
 chk (0<=r3.1/\r3.1<(([]:List Qk)++t2.Frames).length) <|
 ((([]:List Qk)++t2.Frames)[r3.1.toNat]?).bind λl_e4 =>
 bif ((l_e4.Code.length:Int)==0)then
 some (t2,r3.2)
 else
 chk (([]:List Ed).length+l_e4.Code.length<=16777216) <|
 (Pl r3.2 ((([]:List Ed)++l_e4.Code).length:Int)).bind λr5 =>
 (Pl r5.2 9).bind λr14 =>
 bif (r14.1==0)then
 (Pl r14.2 28).bind λr15 =>
 chk (0<=r5.1/\r5.1<(([]:List Ed)++l_e4.Code).length) <|
 ((([]:List Ed)++l_e4.Code)[r5.1.toNat]?).bind λx_o16 =>
 Qq r3 t2 r15.2.list r15.2.at_ ((([]:List Ed)++l_e4.Code).set r5.1.toNat (Ed.mk (i64.wrap (r15.1-1)) x_o16.A x_o16.B x_o16.C x_o16.Imm)) l_e4.Params l_e4.Size
 else
 bif (r14.1==1)then
 (Rl r14.2).bind λr17 =>
 chk (0<=r5.1/\r5.1<(([]:List Ed)++l_e4.Code).length) <|
 ((([]:List Ed)++l_e4.Code)[r5.1.toNat]?).bind λx_o18 =>
 Qq r3 t2 r17.2.list r17.2.at_ ((([]:List Ed)++l_e4.Code).set r5.1.toNat (Ed.mk x_o18.Op r17.1 x_o18.B x_o18.C x_o18.Imm)) l_e4.Params l_e4.Size
 else
 bif (r14.1==2)then
 (Rl r14.2).bind λr19 =>
 chk (0<=r5.1/\r5.1<(([]:List Ed)++l_e4.Code).length) <|
 ((([]:List Ed)++l_e4.Code)[r5.1.toNat]?).bind λx_o20 =>
 Qq r3 t2 r19.2.list r19.2.at_ ((([]:List Ed)++l_e4.Code).set r5.1.toNat (Ed.mk x_o20.Op x_o20.A r19.1 x_o20.C x_o20.Imm)) l_e4.Params l_e4.Size
 else
 bif (r14.1==3)then
 (Rl r14.2).bind λr21 =>
 chk (0<=r5.1/\r5.1<(([]:List Ed)++l_e4.Code).length) <|
 ((([]:List Ed)++l_e4.Code)[r5.1.toNat]?).bind λx_o22 =>
 Qq r3 t2 r21.2.list r21.2.at_ ((([]:List Ed)++l_e4.Code).set r5.1.toNat (Ed.mk x_o22.Op x_o22.A x_o22.B r21.1 x_o22.Imm)) l_e4.Params l_e4.Size
 else
 bif (r14.1==4)then
 (Sm r14.2).bind λr23 =>
 chk (0<=r5.1/\r5.1<(([]:List Ed)++l_e4.Code).length) <|
 ((([]:List Ed)++l_e4.Code)[r5.1.toNat]?).bind λx_o24 =>
 Qq r3 t2 r23.2.list r23.2.at_ ((([]:List Ed)++l_e4.Code).set r5.1.toNat (Ed.mk x_o24.Op x_o24.A x_o24.B x_o24.C r23.1)) l_e4.Params l_e4.Size
 else
 bif (r14.1==5)then
 (Rl r14.2).bind λr25 =>
 Qq r3 t2 r25.2.list r25.2.at_ (([]:List Ed)++l_e4.Code) r25.1 l_e4.Size
 else
 bif (r14.1==6)then
 (Pl r14.2 4).bind λr26 =>
 Qq r3 t2 r26.2.list r26.2.at_ (([]:List Ed)++l_e4.Code) l_e4.Params (i64.wrap (l_e4.Size+(i64.wrap (16*(i64.wrap (r26.1-2))))))
 else
 bif (r14.1==7)then
 chk (0<=r5.1/\r5.1<=(([]:List Ed)++l_e4.Code).length) <|
 Qq r3 t2 r14.2.list r14.2.at_ ((([]:List Ed)++l_e4.Code).take r5.1.toNat) l_e4.Params l_e4.Size
 else
 bif (r14.1==8)then
 (Rl r14.2).bind λr27 =>
 Qq r3 t2 r27.2.list r27.2.at_ (([]:List Ed)++l_e4.Code) l_e4.Params r27.1
 else
 Qq r3 t2 r14.2.list r14.2.at_ (([]:List Ed)++l_e4.Code) l_e4.Params l_e4.Size

def RV (x1:Ed) (words4:List (List UInt8)) (x5:(List UInt8)×Nat):Option (((List (List UInt8))×((List UInt8)×Nat))⊕((List UInt8))) :=
 bif Nat.blt x5.2 x5.1.length then
 bif (((Vm x5.1 x5.2).1:Int)==35)then
 (Vz x1.Imm 10).bind λr6 =>
 chk (words4.length+([r6]:List (List UInt8)).length<=16777216) <|
 cnt (words4++([r6]:List (List UInt8)),itN x5)
 else
 chk (0<=(x5.2:Int)/\(x5.2:Int)<3) <|
 (((SM.mk x1.A x1.B x1.C).toList)[(x5.2:Int).toNat]?).bind λnumbers_e7 =>
 (VA numbers_e7).bind λr8 =>
 chk ((YC ((Vm x5.1 x5.2).1:Int)).length+r8.length<=16777216) <|
 chk (words4.length+([(YC ((Vm x5.1 x5.2).1:Int))++r8]:List (List UInt8)).length<=16777216) <|
 cnt (words4++([(YC ((Vm x5.1 x5.2).1:Int))++r8]:List (List UInt8)),itN x5)
 else
 lft (
 (AaS words4 ([32])).bind λr9 =>
 some r9)
def Um (x1:Ed):Option ((List UInt8)) :=
 chk (0<=x1.Op/\x1.Op<25) <|
 (SD[x1.Op.toNat]?).bind λe2 =>
 chk (0<=x1.Op/\x1.Op<25) <|
 (TI[x1.Op.toNat]?).bind λe3 =>
 Qv (λs=>RV x1 s.1 s.2) (([e2]:List (List UInt8)),(e3,0))
def Uo (x1:Ed):Option ((List UInt8)) :=
 bif (decide (x1.Op<0))then
 some ([63])
 else
 bif (decide (x1.Op>=25))then
 some ([63])
 else
 Um x1

def Tc (s1:(List UInt8)) (sep2:(List UInt8)):Option ((List UInt8)×(List UInt8)×Bool) :=
 (AcU s1 sep2).bind λr3 =>
 bif (decide (r3>=0))then
 chk (0<=r3/\r3<=s1.length) <|
 chk (0<=(i64.wrap (r3+(sep2.length:Int)))/\(i64.wrap (r3+(sep2.length:Int)))<=s1.length) <|
 some (s1.take r3.toNat,s1.drop (i64.wrap (r3+(sep2.length:Int))).toNat,true)
 else
 some (s1,[],false)

def Vk (s1:(List UInt8)) (sep2:(List UInt8)):Option ((List UInt8)×(List UInt8)×Bool) :=
 (Tc s1 sep2).bind λr3 =>
 some (r3.1,r3.2.1,r3.2.2)

def Sg (op1:Int) (x2:Bool):Option (Int×Bool) :=
 bif x2 then
 some (1,false)
 else
 bif (op1==1)then
 bif (op1==1)then
 some (2,false)
 else
 some (3,false)
 else
 bif (op1==12)then
 bif (op1==12)then
 some (2,false)
 else
 some (3,false)
 else
 bif (op1==21)then
 bif (op1==21)then
 some (2,false)
 else
 some (3,false)
 else
 bif (op1==18)then
 bif (op1==18)then
 some (2,false)
 else
 some (3,false)
 else
 bif (op1==19)then
 some (2,false)
 else
 some (3,false)
def Rf (op1:Int):Option (Int×Bool) :=
 bif (op1==0)then
 some (1,true)
 else
 bif (op1==24)then
 some (0,true)
 else
 bif (op1==23)then
 some (0,false)
 else
 bif (op1==13)then
 Sg op1 (op1==13)
 else
 bif (op1==14)then
 Sg op1 (op1==14)
 else
 bif (op1==20)then
 Sg op1 (op1==20)
 else
 Sg op1 (op1==22)

def Sf (x_e19:Mk) (x18:Int) (x20:List UInt8):Option (((List UInt8)×Int)⊕(((List UInt8)×Int)⊕(((List UInt8)×Int)⊕((List UInt8))))) :=
 anyM x_e19 (λn21 =>
 (VA n21).bind λr24 =>
 chk (x20.length+r24.length<=16777216) <|
 cnt (x20++r24,i64.wrap (x18+1)))
 (λn22 =>
 (Vz n22 10).bind λr25 =>
 chk (x20.length+r25.length<=16777216) <|
 cnt (x20++r25,i64.wrap (x18+1)))
 (λs23 =>
 chk (x20.length+s23.length<=16777216) <|
 cnt (x20++s23,i64.wrap (x18+1)))
def Se (x8:Int) (x16:List UInt8):Option (((List UInt8)×Int)⊕(((List UInt8)×Int)⊕((List UInt8)))) :=
 cnt (x16,i64.wrap (x8+1))
def Ub (words13:List Mk) (x_x9:Ed) (x8:Int) (x17:List UInt8) (x18:Int):Option (((List UInt8)×Int)⊕(((List UInt8)×Int)⊕(((List UInt8)×Int)⊕((List UInt8))))) :=
 bif (decide (x18<((words13++([(Mk.u x_x9.Imm)]:List Mk)).length:Int)))then
 chk (0<=x18/\x18<(words13++([(Mk.u x_x9.Imm)]:List Mk)).length) <|
 ((words13++([(Mk.u x_x9.Imm)]:List Mk))[x18.toNat]?).bind λx_e19 =>
 bif (decide (x18>0))then
 chk (x17.length+1<=16777216) <|
 Sf x_e19 x18 (x17++[32])
 else
 Sf x_e19 x18 x17
 else
 lft (
 chk (x17.length+1<=16777216) <|
 Se x8 (x17++[10]))
def RO (x_e29:Mk) (x28:Int) (x30:List UInt8):Option (((List UInt8)×Int)⊕(((List UInt8)×Int)⊕(((List UInt8)×Int)⊕((List UInt8))))) :=
 anyM x_e29 (λn31 =>
 (VA n31).bind λr34 =>
 chk (x30.length+r34.length<=16777216) <|
 cnt (x30++r34,i64.wrap (x28+1)))
 (λn32 =>
 (Vz n32 10).bind λr35 =>
 chk (x30.length+r35.length<=16777216) <|
 cnt (x30++r35,i64.wrap (x28+1)))
 (λs33 =>
 chk (x30.length+s33.length<=16777216) <|
 cnt (x30++s33,i64.wrap (x28+1)))
def RN (x8:Int) (x26:List UInt8):Option (((List UInt8)×Int)⊕(((List UInt8)×Int)⊕((List UInt8)))) :=
 cnt (x26,i64.wrap (x8+1))
def TD (words13:List Mk) (x8:Int) (x27:List UInt8) (x28:Int):Option (((List UInt8)×Int)⊕(((List UInt8)×Int)⊕(((List UInt8)×Int)⊕((List UInt8))))) :=
 bif (decide (x28<(words13.length:Int)))then
 chk (0<=x28/\x28<words13.length) <|
 ((words13)[x28.toNat]?).bind λx_e29 =>
 bif (decide (x28>0))then
 chk (x27.length+1<=16777216) <|
 RO x_e29 x28 (x27++[32])
 else
 RO x_e29 x28 x27
 else
 lft (
 chk (x27.length+1<=16777216) <|
 RN x8 (x27++[10]))
def Re (r12:Int×Bool) (x_x9:Ed) (x8:Int) (x7:List UInt8) (words13:List Mk) (x14:Int):Option (((List Mk)×Int)⊕(((List UInt8)×Int)⊕(((List UInt8)×Int)⊕((List UInt8))))) :=
 bif (decide (x14<(r12.1.toNat:Int)))then
 chk (0<=x14/\x14<(r12.1.toNat:Nat)/\r12.1.toNat<=([x_x9.A,x_x9.B,x_x9.C]:List Int).length) <|
 ((([x_x9.A,x_x9.B,x_x9.C]:List Int))[x14.toNat]?).bind λx_e15 =>
 chk (words13.length+([(Mk.i x_e15)]:List Mk).length<=16777216) <|
 cnt (words13++([(Mk.i x_e15)]:List Mk),i64.wrap (x14+1))
 else
 lft (
 bif r12.2 then
 chk (words13.length+([(Mk.u x_x9.Imm)]:List Mk).length<=16777216) <|
 Qv (λs=>Ub words13 x_x9 x8 s.1 s.2) (x7,0)
 else
 Qv (λs=>TD words13 x8 s.1 s.2) (x7,0))
def RQ (x_e39:Mk) (x38:Int) (x40:List UInt8):Option (((List UInt8)×Int)⊕(((List UInt8)×Int)⊕(((List UInt8)×Int)⊕((List UInt8))))) :=
 anyM x_e39 (λn41 =>
 (VA n41).bind λr44 =>
 chk (x40.length+r44.length<=16777216) <|
 cnt (x40++r44,i64.wrap (x38+1)))
 (λn42 =>
 (Vz n42 10).bind λr45 =>
 chk (x40.length+r45.length<=16777216) <|
 cnt (x40++r45,i64.wrap (x38+1)))
 (λs43 =>
 chk (x40.length+s43.length<=16777216) <|
 cnt (x40++s43,i64.wrap (x38+1)))
def RP (x8:Int) (x36:List UInt8):Option (((List UInt8)×Int)⊕(((List UInt8)×Int)⊕((List UInt8)))) :=
 cnt (x36,i64.wrap (x8+1))
def TE (x8:Int) (x37:List UInt8) (x38:Int):Option (((List UInt8)×Int)⊕(((List UInt8)×Int)⊕(((List UInt8)×Int)⊕((List UInt8))))) :=
 bif (decide (x38<(([(Mk.s ([63]))]:List Mk).length:Int)))then
 chk (0<=x38/\x38<([(Mk.s ([63]))]:List Mk).length) <|
 ((([(Mk.s ([63]))]:List Mk))[x38.toNat]?).bind λx_e39 =>
 bif (decide (x38>0))then
 chk (x37.length+1<=16777216) <|
 RQ x_e39 x38 (x37++[32])
 else
 RQ x_e39 x38 x37
 else
 lft (
 chk (x37.length+1<=16777216) <|
 RP x8 (x37++[10]))
def RS (x_e49:Mk) (x48:Int) (x50:List UInt8):Option (((List UInt8)×Int)⊕(((List UInt8)×Int)⊕(((List UInt8)×Int)⊕((List UInt8))))) :=
 anyM x_e49 (λn51 =>
 (VA n51).bind λr54 =>
 chk (x50.length+r54.length<=16777216) <|
 cnt (x50++r54,i64.wrap (x48+1)))
 (λn52 =>
 (Vz n52 10).bind λr55 =>
 chk (x50.length+r55.length<=16777216) <|
 cnt (x50++r55,i64.wrap (x48+1)))
 (λs53 =>
 chk (x50.length+s53.length<=16777216) <|
 cnt (x50++s53,i64.wrap (x48+1)))
def RR (x8:Int) (x46:List UInt8):Option (((List UInt8)×Int)⊕(((List UInt8)×Int)⊕((List UInt8)))) :=
 cnt (x46,i64.wrap (x8+1))
def TF (x8:Int) (x47:List UInt8) (x48:Int):Option (((List UInt8)×Int)⊕(((List UInt8)×Int)⊕(((List UInt8)×Int)⊕((List UInt8))))) :=
 bif (decide (x48<(([(Mk.s ([63]))]:List Mk).length:Int)))then
 chk (0<=x48/\x48<([(Mk.s ([63]))]:List Mk).length) <|
 ((([(Mk.s ([63]))]:List Mk))[x48.toNat]?).bind λx_e49 =>
 bif (decide (x48>0))then
 chk (x47.length+1<=16777216) <|
 RS x_e49 x48 (x47++[32])
 else
 RS x_e49 x48 x47
 else
 lft (
 chk (x47.length+1<=16777216) <|
 RR x8 (x47++[10]))
def SQ (x_x9:Ed) (x8:Int) (x7:List UInt8):Option (((List UInt8)×Int)⊕(((List UInt8)×Int)⊕((List UInt8)))) :=
 (Uo (Ed.mk x_x9.Op 0 0 0 0)).bind λr10 =>
 (Vk r10 ([32])).bind λr11 =>
 (Rf x_x9.Op).bind λr12 =>
 chk (0<=r12.1/\r12.1<=([x_x9.A,x_x9.B,x_x9.C]:List Int).length) <|
 Qv (λs=>Re r12 x_x9 x8 x7 s.1 s.2) (([(Mk.s r11.1)]:List Mk),0)
def Rc (x_x5:Qk) (x4:Int) (x7:List UInt8) (x8:Int):Option (((List UInt8)×Int)⊕(((List UInt8)×Int)⊕((List UInt8)))) :=
 bif (decide (x8<(x_x5.Code.length:Int)))then
 (ixO x_x5.Code x8).bind λx_x9 =>
 bif (decide (x_x9.Op<0))then
 Qv (λs=>TE x8 s.1 s.2) (x7,0)
 else
 bif (decide (x_x9.Op>=25))then
 Qv (λs=>TF x8 s.1 s.2) (x7,0)
 else
 SQ x_x9 x8 x7
 else
 lft (cnt (x7,i64.wrap (x4+1)))
def RT (x_e58:Mk) (x57:Int) (x59:List UInt8):Option (((List UInt8)×Int)⊕(((List UInt8)×Int)⊕((List UInt8)))) :=
 anyM x_e58 (λn60 =>
 (VA n60).bind λr63 =>
 chk (x59.length+r63.length<=16777216) <|
 cnt (x59++r63,i64.wrap (x57+1)))
 (λn61 =>
 (Vz n61 10).bind λr64 =>
 chk (x59.length+r64.length<=16777216) <|
 cnt (x59++r64,i64.wrap (x57+1)))
 (λs62 =>
 chk (x59.length+s62.length<=16777216) <|
 cnt (x59++s62,i64.wrap (x57+1)))
def Sd (x_x5:Qk) (x4:Int) (x6:List UInt8):Option (((List UInt8)×Int)⊕((List UInt8))) :=
 Qv (λs=>Rc x_x5 x4 s.1 s.2) (x6,0)
def TG (x_x5:Qk) (x4:Int) (x56:List UInt8) (x57:Int):Option (((List UInt8)×Int)⊕(((List UInt8)×Int)⊕((List UInt8)))) :=
 bif (decide (x57<(([(Mk.s ([102,114,97,109,101])),(Mk.i x_x5.Params),(Mk.i x_x5.Size)]:List Mk).length:Int)))then
 chk (0<=x57/\x57<([(Mk.s ([102,114,97,109,101])),(Mk.i x_x5.Params),(Mk.i x_x5.Size)]:List Mk).length) <|
 ((([(Mk.s ([102,114,97,109,101])),(Mk.i x_x5.Params),(Mk.i x_x5.Size)]:List Mk))[x57.toNat]?).bind λx_e58 =>
 bif (decide (x57>0))then
 chk (x56.length+1<=16777216) <|
 RT x_e58 x57 (x56++[32])
 else
 RT x_e58 x57 x56
 else
 lft (
 chk (x56.length+1<=16777216) <|
 Sd x_x5 x4 (x56++[10]))
def Rb (t1:Pw) (x3:List UInt8) (x4:Int):Option (((List UInt8)×Int)⊕((List UInt8))) :=
 bif (decide (x4<(t1.Frames.length:Int)))then
 (ixO t1.Frames x4).bind λx_x5 =>
 Qv (λs=>TG x_x5 x4 s.1 s.2) (x3,0)
 else
 lft (
 chk (x3≠[]) <|
 some x3)
def RU (x_e67:Mk) (x66:Int) (x68:List UInt8):Option (((List UInt8)×Int)⊕((List UInt8))) :=
 anyM x_e67 (λn69 =>
 (VA n69).bind λr72 =>
 chk (x68.length+r72.length<=16777216) <|
 cnt (x68++r72,i64.wrap (x66+1)))
 (λn70 =>
 (Vz n70 10).bind λr73 =>
 chk (x68.length+r73.length<=16777216) <|
 cnt (x68++r73,i64.wrap (x66+1)))
 (λs71 =>
 chk (x68.length+s71.length<=16777216) <|
 cnt (x68++s71,i64.wrap (x66+1)))
def Sc (t1:Pw) (x2:List UInt8):Option ((List UInt8)) :=
 Qv (λs=>Rb t1 s.1 s.2) (x2,0)
def TH (t1:Pw) (x65:List UInt8) (x66:Int):Option (((List UInt8)×Int)⊕((List UInt8))) :=
 bif (decide (x66<(([(Mk.s ([97,108,105,103,110])),(Mk.i t1.Align)]:List Mk).length:Int)))then
 chk (0<=x66/\x66<([(Mk.s ([97,108,105,103,110])),(Mk.i t1.Align)]:List Mk).length) <|
 ((([(Mk.s ([97,108,105,103,110])),(Mk.i t1.Align)]:List Mk))[x66.toNat]?).bind λx_e67 =>
 bif (decide (x66>0))then
 chk (x65.length+1<=16777216) <|
 RU x_e67 x66 (x65++[32])
 else
 RU x_e67 x66 x65
 else
 lft (
 chk (x65.length+1<=16777216) <|
 Sc t1 (x65++[10]))
def SL (t1:Pw):Option ((List UInt8)) :=
 Qv (λs=>TH t1 s.1 s.2) (([]:List UInt8),0)

def SA (u2:Int) (s3:List UInt8):Option ((Int×(List UInt8))⊕((List UInt8))) :=
 chk ((YJ ([u8.wrap (u64.wrap (48+(u2.tmod 10)))]:List Int)).length+s3.length<=16777216) <|
 bif ((u64.wrap (u2.tdiv 10))==0)then
 lft (some ((YJ ([u8.wrap (u64.wrap (48+(u2.tmod 10)))]:List Int))++s3))
 else
 cnt (u64.wrap (u2.tdiv 10),(YJ ([u8.wrap (u64.wrap (48+(u2.tmod 10)))]:List Int))++s3)
def Sr (u1:Int):Option ((List UInt8)) :=
 Qv (λs=>SA s.1 s.2) (u1,[])

def Ta (n1:Int):Option ((List UInt8)) :=
 bif (decide (n1<0))then
 (Sr (u64.wrap (0-(u64.wrap (n1))))).bind λr2 =>
 chk (([45]).length+r2.length<=16777216) <|
 some (([45])++r2)
 else
 (Sr (u64.wrap (n1))).bind λr3 =>
 some r3

def Ui (op1:Int):Option ((List UInt8)) :=
 bif (decide (op1<0))then
 some ([63])
 else
 bif (decide (op1>=(([[99,111,110,115,116],[99,111,112,121],[97,100,100],[115,117,98],[109,117,108],[100,105,118],[97,110,100],[111,114],[120,111,114],[108,101,115,115],[101,113,117,97,108],[112,97,105,114],[104,105,103,104],[105,110],[111,117,116],[108,111,97,100],[115,116,111,114,101],[109,111,118,101],[97,114,103],[112,97,114,97,109],[106,117,109,112],[98,114,97,110,99,104],[99,97,108,108],[114,101,116,117,114,110],[116,114,97,112]]:List (List UInt8)).length:Int)))then
 some ([63])
 else
 chk (0<=op1/\op1<([[99,111,110,115,116],[99,111,112,121],[97,100,100],[115,117,98],[109,117,108],[100,105,118],[97,110,100],[111,114],[120,111,114],[108,101,115,115],[101,113,117,97,108],[112,97,105,114],[104,105,103,104],[105,110],[111,117,116],[108,111,97,100],[115,116,111,114,101],[109,111,118,101],[97,114,103],[112,97,114,97,109],[106,117,109,112],[98,114,97,110,99,104],[99,97,108,108],[114,101,116,117,114,110],[116,114,97,112]]:List (List UInt8)).length) <|
 ((([[99,111,110,115,116],[99,111,112,121],[97,100,100],[115,117,98],[109,117,108],[100,105,118],[97,110,100],[111,114],[120,111,114],[108,101,115,115],[101,113,117,97,108],[112,97,105,114],[104,105,103,104],[105,110],[111,117,116],[108,111,97,100],[115,116,111,114,101],[109,111,118,101],[97,114,103],[112,97,114,97,109],[106,117,109,112],[98,114,97,110,99,104],[99,97,108,108],[114,101,116,117,114,110],[116,114,97,112]]:List (List UInt8)))[op1.toNat]?).bind λnames_e2 =>
 some names_e2

def Xc (op1:Int):Option (Bool) :=
 bif (op1==15)then
 some true
 else
 bif (op1==16)then
 some true
 else
 some (op1==17)

def Sq (op1:Int) (x4:Bool):Option (Bool×Bool×Bool×Bool) :=
 bif x4 then
 some (true,false,false,false)
 else
 bif (op1==24)then
 some (false,false,false,true)
 else
 some (false,false,false,false)
def QE (op1:Int) (x3:Bool):Option (Bool×Bool×Bool×Bool) :=
 bif x3 then
 some (true,true,true,false)
 else
 bif (op1==13)then
 Sq op1 (op1==13)
 else
 bif (op1==14)then
 Sq op1 (op1==14)
 else
 bif (op1==20)then
 Sq op1 (op1==20)
 else
 Sq op1 (op1==22)
def QU (op1:Int) (x2:Bool):Option (Bool×Bool×Bool×Bool) :=
 bif x2 then
 some (true,true,false,false)
 else
 bif (op1==2)then
 QE op1 (op1==2)
 else
 bif (op1==3)then
 QE op1 (op1==3)
 else
 bif (op1==4)then
 QE op1 (op1==4)
 else
 bif (op1==5)then
 QE op1 (op1==5)
 else
 bif (op1==6)then
 QE op1 (op1==6)
 else
 bif (op1==7)then
 QE op1 (op1==7)
 else
 bif (op1==8)then
 QE op1 (op1==8)
 else
 bif (op1==9)then
 QE op1 (op1==9)
 else
 bif (op1==10)then
 QE op1 (op1==10)
 else
 QE op1 (op1==11)
def VV (op1:Int):Option (Bool×Bool×Bool×Bool) :=
 bif (op1==0)then
 some (true,false,false,true)
 else
 bif (op1==1)then
 QU op1 (op1==1)
 else
 bif (op1==12)then
 QU op1 (op1==12)
 else
 bif (op1==15)then
 QU op1 (op1==15)
 else
 bif (op1==16)then
 QU op1 (op1==16)
 else
 bif (op1==17)then
 QU op1 (op1==17)
 else
 bif (op1==18)then
 QU op1 (op1==18)
 else
 bif (op1==19)then
 QU op1 (op1==19)
 else
 QU op1 (op1==21)

def TV (op1:Int):Option (Bool×Bool×Bool×Bool) :=
 (Xc op1).bind λr2 =>
 bif r2 then
 some (true,true,true,false)
 else
 (VV op1).bind λr3 =>
 some (r3.1,r3.2.1,r3.2.2.1,r3.2.2.2)

def Ua (r3:Bool×Bool×Bool×Bool) (x1:Ed) (s6:List UInt8):Option ((List UInt8)) :=
 bif r3.2.2.2 then
 (Sr x1.Imm).bind λr7 =>
 chk (([32]).length+r7.length<=16777216) <|
 chk (s6.length+(([32])++r7).length<=16777216) <|
 chk ((s6++(([32])++r7)).length+([10]).length<=16777216) <|
 some ((s6++(([32])++r7))++([10]))
 else
 chk (s6.length+([10]).length<=16777216) <|
 some (s6++([10]))
def TZ (r3:Bool×Bool×Bool×Bool) (x1:Ed) (s5:List UInt8):Option ((List UInt8)) :=
 bif r3.2.2.1 then
 (Ta x1.C).bind λr8 =>
 chk (([32]).length+r8.length<=16777216) <|
 chk (s5.length+(([32])++r8).length<=16777216) <|
 Ua r3 x1 (s5++(([32])++r8))
 else
 Ua r3 x1 s5
def TY (r3:Bool×Bool×Bool×Bool) (x1:Ed) (s4:List UInt8):Option ((List UInt8)) :=
 bif r3.2.1 then
 (Ta x1.B).bind λr9 =>
 chk (([32]).length+r9.length<=16777216) <|
 chk (s4.length+(([32])++r9).length<=16777216) <|
 TZ r3 x1 (s4++(([32])++r9))
 else
 TZ r3 x1 s4
def Ur (x1:Ed):Option ((List UInt8)) :=
 (Ui x1.Op).bind λr2 =>
 bif (r2==([63]))then
 chk (r2.length+([10]).length<=16777216) <|
 some (r2++([10]))
 else
 (TV x1.Op).bind λr3 =>
 bif r3.1 then
 (Ta x1.A).bind λr10 =>
 chk (([32]).length+r10.length<=16777216) <|
 chk (r2.length+(([32])++r10).length<=16777216) <|
 TY r3 x1 (r2++(([32])++r10))
 else
 TY r3 x1 r2

def SZ (i4:Int) (s5:List UInt8):Option (((List UInt8)×Int)⊕((List UInt8))) :=
 cnt (s5,i64.wrap (i4+1))
def Rj (x_x6:Qk) (i4:Int) (s9:List UInt8) (k10:Int):Option (((List UInt8)×Int)⊕(((List UInt8)×Int)⊕((List UInt8)))) :=
 bif (decide (k10<(x_x6.Code.length:Int)))then
 (ixO x_x6.Code k10).bind λx_x11 =>
 (Ur x_x11).bind λr12 =>
 chk (s9.length+r12.length<=16777216) <|
 cnt (s9++r12,i64.wrap (k10+1))
 else
 lft (SZ i4 s9)
def Ri (t1:Pw) (s3:List UInt8) (i4:Int):Option (((List UInt8)×Int)⊕((List UInt8))) :=
 bif (decide (i4<(t1.Frames.length:Int)))then
 (ixO t1.Frames i4).bind λx_x6 =>
 (Ta x_x6.Params).bind λr7 =>
 chk (([102,114,97,109,101,32]).length+r7.length<=16777216) <|
 chk ((([102,114,97,109,101,32])++r7).length+([32]).length<=16777216) <|
 (Ta x_x6.Size).bind λr8 =>
 chk (((([102,114,97,109,101,32])++r7)++([32])).length+r8.length<=16777216) <|
 chk ((((([102,114,97,109,101,32])++r7)++([32]))++r8).length+([10]).length<=16777216) <|
 chk (s3.length+((((([102,114,97,109,101,32])++r7)++([32]))++r8)++([10])).length<=16777216) <|
 Qv (λs=>Rj x_x6 i4 s.1 s.2) (s3++((((([102,114,97,109,101,32])++r7)++([32]))++r8)++([10])),0)
 else
 lft (some s3)
def SS (t1:Pw):Option ((List UInt8)) :=
 (Ta t1.Align).bind λr2 =>
 chk (([97,108,105,103,110,32]).length+r2.length<=16777216) <|
 chk ((([97,108,105,103,110,32])++r2).length+([10]).length<=16777216) <|
 Qv (λs=>Ri t1 s.1 s.2) ((([97,108,105,103,110,32])++r2)++([10]),0)

def UN (c1:Int):Option ((List UInt8)) :=
 bif (c1==0)then
 some ([98,97,115,101,108,105,110,101])
 else
 bif (c1==1)then
 some ([112,97,99,107,101,100])
 else
 bif (c1==2)then
 some ([111,112,116,105,109,105,115,101,100])
 else
 some ([63])

def Rh (n3:Int) (k12:Int):Option ((Int)⊕(Bool)) :=
 bif (decide (k12<5))then
 (Ss k12).bind λr13 =>
 (UN k12).bind λr14 =>
 bif (!(r13==r14))then
 lft (some false)
 else
 cnt (i64.wrap (k12+1))
 else
 lft (
 (Ss n3).bind λr15 =>
 (UN n3).bind λr16 =>
 some (r15==r16))
def Rg (raw2:Pw) (r6:Pw×BS) (r7:Pw×BS) (n3:Int) (x8:Int):Option ((Int)⊕(Bool)) :=
 bif (decide (x8<(([raw2,r6.1,r7.1]:List Pw).length:Int)))then
 chk (0<=x8/\x8<([raw2,r6.1,r7.1]:List Pw).length) <|
 ((([raw2,r6.1,r7.1]:List Pw))[x8.toNat]?).bind λx_e9 =>
 (SL x_e9).bind λr10 =>
 (SS x_e9).bind λr11 =>
 bif (!(r10==r11))then
 lft (some false)
 else
 cnt (i64.wrap (x8+1))
 else
 lft (Qv (λs=>Rh n3 s) (-1))
def RC (codes1:(List Int)) (raw2:Pw) (n3:Int):Option (Bool) :=
 (WV codes1 250).bind λr5 =>
 (SR r5 4 10).bind λr6 =>
 (Si r6.2 r6.1).bind λr7 =>
 Qv (λs=>Rg raw2 r6 r7 n3 s) 0
def RD (raw2:Pw) (i19:Int) (size18:Int):Option ((Int×Int)⊕(Bool)) :=
 (ixO raw2.Frames i19).bind λx_x20 =>
 cnt (i64.wrap (size18+(x_x20.Code.length:Int)),i64.wrap (i19+1))
def QH (codes1:(List Int)) (raw2:Pw) (n3:Int) (size4:Int):Option (Bool) :=
 (Wb).bind λr17 =>
 bif (!r17)then
 some (decide (size4>300))
 else
 bif (decide (size4>300))then
 some (decide (size4>300))
 else
 RC codes1 raw2 n3
def RB (raw2:Pw) (codes1:(List Int)) (n3:Int) (size18:Int) (i19:Int):Option ((Int×Int)⊕(Bool)) :=
 bif (decide (i19<(raw2.Frames.length:Int)))then
 bif (decide (size18<=300))then
 RD raw2 i19 size18
 else
 lft (QH codes1 raw2 n3 size18)
 else
 lft (QH codes1 raw2 n3 size18)
def Rr (codes1:(List Int)) (raw2:Pw) (n3:Int):Option (Bool) :=
 Qv (λs=>RB raw2 codes1 n3 s.1 s.2) ((raw2.Frames.length:Int),0)

end
end Go.Proofs.YtcppfbhmhlhncaaDoor
