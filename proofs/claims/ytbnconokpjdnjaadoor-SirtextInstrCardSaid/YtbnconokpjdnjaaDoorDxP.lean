/-
 The programs on typed data; written by a program (dx.py).
-/
import Derived.Test.YtbnconokpjdnjaaDoorDxT
namespace Go.Proofs.YtbnconokpjdnjaaDoor
open Go Go.Dw Go.Proofs
open Go.IntKind (i64 u64 u8)
set_option maxRecDepth 100000
set_option maxHeartbeats 40000000
noncomputable section
def QO (x1 : Mk) (words4 : List (List UInt8)) (x5 : (List UInt8) × Nat) : Option (((List (List UInt8)) × ((List UInt8) × Nat)) ⊕ ((List UInt8))) :=
 bif Nat.blt x5.2 x5.1.length then
 bif (((RA x5.1 x5.2).1 : Int) == 35) then
 (SU x1.Imm 10).bind λr6 =>
 chk (words4.length + ([r6] : List (List UInt8)).length <= 16777216) <|
 cnt (words4 ++ ([r6] : List (List UInt8)),itN x5)
 else
 chk (0 <= (x5.2 : Int) /\ (x5.2 : Int) < 3) <|
 (((QZ.mk x1.A x1.B x1.C).toList)[(x5.2 : Int).toNat]?).bind λnumbers_e7 =>
 (SV numbers_e7).bind λr8 =>
 chk ((Si ((RA x5.1 x5.2).1 : Int)).length + r8.length <= 16777216) <|
 chk (words4.length + ([(Si ((RA x5.1 x5.2).1 : Int)) ++ r8] : List (List UInt8)).length <= 16777216) <|
 cnt (words4 ++ ([(Si ((RA x5.1 x5.2).1 : Int)) ++ r8] : List (List UInt8)),itN x5)
 else
 lft (
 (SW words4 ([32])).bind λr9 =>
 some r9)
def Rr (x1 : Mk) : Option ((List UInt8)) :=
 chk (0 <= x1.Op /\ x1.Op < 25) <|
 (Rk[x1.Op.toNat]?).bind λe2 =>
 chk (0 <= x1.Op /\ x1.Op < 25) <|
 (Rg[x1.Op.toNat]?).bind λe3 =>
 RJ (λs=>QO x1 s.1 s.2) (([e2] : List (List UInt8)),(e3,0))
def QN (x1 : Mk) : Option ((List UInt8)) :=
 bif (decide (x1.Op < 0)) then
 some ([63])
 else
 bif (decide (x1.Op >= 25)) then
 some ([63])
 else
 Rr x1

def Ry  : Option (Bool) :=
 (QN (Mk.mk 0 1 0 0 7)).bind λr1 =>
 some (r1 == ([99,111,110,115,116,32,114,49,32,55]))

def Rv (op1 : Int) : Option ((List UInt8)) :=
 bif (decide (op1 < 0)) then
 some ([63])
 else
 bif (decide (op1 >= (([[99,111,110,115,116],[99,111,112,121],[97,100,100],[115,117,98],[109,117,108],[100,105,118],[97,110,100],[111,114],[120,111,114],[108,101,115,115],[101,113,117,97,108],[112,97,105,114],[104,105,103,104],[105,110],[111,117,116],[108,111,97,100],[115,116,111,114,101],[109,111,118,101],[97,114,103],[112,97,114,97,109],[106,117,109,112],[98,114,97,110,99,104],[99,97,108,108],[114,101,116,117,114,110],[116,114,97,112]] : List (List UInt8)).length : Int))) then
 some ([63])
 else
 chk (0 <= op1 /\ op1 < ([[99,111,110,115,116],[99,111,112,121],[97,100,100],[115,117,98],[109,117,108],[100,105,118],[97,110,100],[111,114],[120,111,114],[108,101,115,115],[101,113,117,97,108],[112,97,105,114],[104,105,103,104],[105,110],[111,117,116],[108,111,97,100],[115,116,111,114,101],[109,111,118,101],[97,114,103],[112,97,114,97,109],[106,117,109,112],[98,114,97,110,99,104],[99,97,108,108],[114,101,116,117,114,110],[116,114,97,112]] : List (List UInt8)).length) <|
 ((([[99,111,110,115,116],[99,111,112,121],[97,100,100],[115,117,98],[109,117,108],[100,105,118],[97,110,100],[111,114],[120,111,114],[108,101,115,115],[101,113,117,97,108],[112,97,105,114],[104,105,103,104],[105,110],[111,117,116],[108,111,97,100],[115,116,111,114,101],[109,111,118,101],[97,114,103],[112,97,114,97,109],[106,117,109,112],[98,114,97,110,99,104],[99,97,108,108],[114,101,116,117,114,110],[116,114,97,112]] : List (List UInt8)))[op1.toNat]?).bind λnames_e2 =>
 some names_e2

def QQ (op1 : Int) (x4 : Bool) : Option (Bool × Bool × Bool × Bool) :=
 bif x4 then
 some (true,false,false,false)
 else
 bif (op1 == 24) then
 some (false,false,false,true)
 else
 some (false,false,false,false)
def Ed (op1 : Int) (x3 : Bool) : Option (Bool × Bool × Bool × Bool) :=
 bif x3 then
 some (true,true,true,false)
 else
 bif (op1 == 13) then
 QQ op1 (op1 == 13)
 else
 bif (op1 == 14) then
 QQ op1 (op1 == 14)
 else
 bif (op1 == 20) then
 QQ op1 (op1 == 20)
 else
 QQ op1 (op1 == 22)
def Pl (op1 : Int) (x2 : Bool) : Option (Bool × Bool × Bool × Bool) :=
 bif x2 then
 some (true,true,false,false)
 else
 bif (op1 == 2) then
 Ed op1 (op1 == 2)
 else
 bif (op1 == 3) then
 Ed op1 (op1 == 3)
 else
 bif (op1 == 4) then
 Ed op1 (op1 == 4)
 else
 bif (op1 == 5) then
 Ed op1 (op1 == 5)
 else
 bif (op1 == 6) then
 Ed op1 (op1 == 6)
 else
 bif (op1 == 7) then
 Ed op1 (op1 == 7)
 else
 bif (op1 == 8) then
 Ed op1 (op1 == 8)
 else
 bif (op1 == 9) then
 Ed op1 (op1 == 9)
 else
 bif (op1 == 10) then
 Ed op1 (op1 == 10)
 else
 Ed op1 (op1 == 11)
def Ro (op1 : Int) : Option (Bool × Bool × Bool × Bool) :=
 bif (op1 == 0) then
 some (true,false,false,true)
 else
 bif (op1 == 1) then
 Pl op1 (op1 == 1)
 else
 bif (op1 == 12) then
 Pl op1 (op1 == 12)
 else
 bif (op1 == 15) then
 Pl op1 (op1 == 15)
 else
 bif (op1 == 16) then
 Pl op1 (op1 == 16)
 else
 bif (op1 == 17) then
 Pl op1 (op1 == 17)
 else
 bif (op1 == 18) then
 Pl op1 (op1 == 18)
 else
 bif (op1 == 19) then
 Pl op1 (op1 == 19)
 else
 Pl op1 (op1 == 21)

def Rz (op1 : Int) : Option ((List UInt8) × (List UInt8) × (List UInt8)) :=
 bif (op1 == 15) then
 some ([114],[115],[])
 else
 bif (op1 == 16) then
 some ([115],[114],[])
 else
 bif (op1 == 17) then
 some ([115],[115],[])
 else
 bif (op1 == 18) then
 some ([97],[114],[])
 else
 bif (op1 == 19) then
 some ([114],[97],[])
 else
 bif (op1 == 20) then
 some ([64],[],[])
 else
 bif (op1 == 21) then
 some ([114],[64],[])
 else
 bif (op1 == 22) then
 some ([102],[],[])
 else
 some ([114],[114],[114])

def QT (u2 : Int) (s3 : List UInt8) : Option ((Int × (List UInt8)) ⊕ ((List UInt8))) :=
 chk ((Sn ([u8.wrap (u64.wrap (48 + (u2.tmod 10)))] : List Int)).length + s3.length <= 16777216) <|
 bif ((u64.wrap (u2.tdiv 10)) == 0) then
 lft (some ((Sn ([u8.wrap (u64.wrap (48 + (u2.tmod 10)))] : List Int)) ++ s3))
 else
 cnt (u64.wrap (u2.tdiv 10),(Sn ([u8.wrap (u64.wrap (48 + (u2.tmod 10)))] : List Int)) ++ s3)
def QS (u1 : Int) : Option ((List UInt8)) :=
 RJ (λs=>QT s.1 s.2) (u1,[])

def Rt (n1 : Int) : Option ((List UInt8)) :=
 bif (decide (n1 < 0)) then
 (QS (u64.wrap (0 - (u64.wrap (n1))))).bind λr2 =>
 chk (([45]).length + r2.length <= 16777216) <|
 some (([45]) ++ r2)
 else
 (QS (u64.wrap (n1))).bind λr3 =>
 some r3

def Rf (r3 : Bool × Bool × Bool × Bool) (x1 : Mk) (s9 : List UInt8) : Option ((List UInt8)) :=
 bif r3.2.2.2 then
 (QS x1.Imm).bind λr11 =>
 chk (([32]).length + r11.length <= 16777216) <|
 chk (s9.length + (([32]) ++ r11).length <= 16777216) <|
 some (s9 ++ (([32]) ++ r11))
 else
 some s9
def Re (r3 : Bool × Bool × Bool × Bool) (r4 : (List UInt8) × (List UInt8) × (List UInt8)) (x1 : Mk) (s7 : List UInt8) : Option ((List UInt8)) :=
 bif r3.2.2.1 then
 chk (([32]).length + r4.2.2.length <= 16777216) <|
 (Rt x1.C).bind λr10 =>
 chk ((([32]) ++ r4.2.2).length + r10.length <= 16777216) <|
 chk (s7.length + ((([32]) ++ r4.2.2) ++ r10).length <= 16777216) <|
 Rf r3 x1 (s7 ++ ((([32]) ++ r4.2.2) ++ r10))
 else
 Rf r3 x1 s7
def Rc (r3 : Bool × Bool × Bool × Bool) (r4 : (List UInt8) × (List UInt8) × (List UInt8)) (x1 : Mk) (s5 : List UInt8) : Option ((List UInt8)) :=
 bif r3.2.1 then
 chk (([32]).length + r4.2.1.length <= 16777216) <|
 (Rt x1.B).bind λr8 =>
 chk ((([32]) ++ r4.2.1).length + r8.length <= 16777216) <|
 chk (s5.length + ((([32]) ++ r4.2.1) ++ r8).length <= 16777216) <|
 Re r3 r4 x1 (s5 ++ ((([32]) ++ r4.2.1) ++ r8))
 else
 Re r3 r4 x1 s5
def QY (x1 : Mk) : Option ((List UInt8)) :=
 (Rv x1.Op).bind λr2 =>
 bif (r2 == ([63])) then
 some r2
 else
 (Ro x1.Op).bind λr3 =>
 (Rz x1.Op).bind λr4 =>
 bif r3.1 then
 chk (([32]).length + r4.1.length <= 16777216) <|
 (Rt x1.A).bind λr6 =>
 chk ((([32]) ++ r4.1).length + r6.length <= 16777216) <|
 chk (r2.length + ((([32]) ++ r4.1) ++ r6).length <= 16777216) <|
 Rc r3 r4 x1 (r2 ++ ((([32]) ++ r4.1) ++ r6))
 else
 Rc r3 r4 x1 r2

def Rj (x1 : Mk) (op2 : Int) : Option (Bool) :=
 (Ry).bind λr3 =>
 bif (!r3) then
 some false
 else
 (QN x1).bind λr4 =>
 (QY x1).bind λr5 =>
 bif (r4 == r5) then
 (QN (Mk.mk ((i64.wrap (op2)).tmod 26) x1.A x1.B x1.C x1.Imm)).bind λr6 =>
 (QY (Mk.mk ((i64.wrap (op2)).tmod 26) x1.A x1.B x1.C x1.Imm)).bind λr7 =>
 some (r6 == r7)
 else
 some false

end
end Go.Proofs.YtbnconokpjdnjaaDoor
