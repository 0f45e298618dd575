/-
  Programs on typed data, and the proofs that the code does what they say; written by a program (dx.py).
-/
import Derived.Test.YtfpgidpffhmadaaGreatDoorProg
import Derived.Test.YtfpgidpffhmadaaGreatDoorDc
import Derived.KernelRfl
import Derived.Test.YtfpgidpffhmadaaGreatDoorDxP
import Derived.Test.YtfpgidpffhmadaaGreatDoorDxF2
namespace Go.Proofs.YtfpgidpffhmadaaGreatDoor
open Go Go.Dw Go.Proofs
set_option maxRecDepth 100000
open Go.Dw renaming ZZ → mV,XI → bN,Rq → lO,VK → bD,XM → cK,XO → nI,XQ → xS,Aab → rG,Aad → sQ,RD → aO,XH → aS,XP → oF,XJ → bL,XK → bS,QF → cV,Pd → cG,Zm → aP,Rr → sV,SK → iS,Vk → iO,SM → lS,Vl → lW,VL → fA,Abx → fF,Abo → eX,AcP → nC,Uj → lF,Uk → sP,Qf → pT,Pw → pF,Aaa → uN,AfK → cT,XN → nW,XL → bX,RC → aN,XR → cD,VN → bK,Aac → rT,XV → sK,XS → eT,Zn → xC,VM → xL,RE → xR,AcQ → yR,XX → zR,TU → hE,Qg → lE,QG → bH,Px → bM,Tg → bR,QH → xE,XT → lP,UF → sC,XU → bC,rf → r
def AgI : Mm:=(.seq (.reg [P 3 (.box (T 0) 3 33),P 4 (.box (T 1) 1 37),P 5 (.box (T 2) 2 48),P 6 (.asg (C 0) none)] false) (.seq (.seq (.reg [P 10 (.ld 3 true (T 3)),P 11 (.ld 1 true (T 4)),P 12 (.call (.c (.clo 20 [])) [(T 10),(T 11)]),P 13 (.bin .neq (T 12) (C 0))] false) (.cond (T 13) (.seq (.reg [P 6 (.asg (C 11) none)] false) .ret) .skip)) (.seq (.seq (.reg [P 14 (.ld 3 true (T 3)),P 15 (.ld 2 true (T 5)),P 16 (.call (.c (.clo 21 [])) [(T 14),(T 15)]),P 17 (.bin .neq (T 16) (C 0))] false) (.cond (T 17) (.seq (.reg [P 6 (.asg (C 12) none)] false) .ret) .skip)) (.seq (.seq (.reg [P 19 (.ld 3 true (T 3)),P 20 (.ld 1 true (T 4)),P 21 (.ld 2 true (T 5)),P 22 (.call (.c (.clo 22 [])) [(T 19),(T 20),(T 21)]),M 18 22,P 23 (.ext (T 18) 0),P 24 (.ext (T 18) 1),P 25 (.ext (T 18) 2),P 7 (.asg (T 23) none),P 8 (.asg (T 24) none),P 9 (.asg (T 25) none)] false) (.seq (.reg [M 26 9] false) (.cond (T 26) (.seq (.reg [P 6 (.asg (C 12) none)] false) .ret) .skip))) (.seq (.reg [P 6 (.asg (C 0) none)] false) .ret)))))
theorem AiZ : (Tryz.f11.body.bind (Mo Tryz.prog Tryz.f11.ntmps)) = some AgI:=by kernel_rfl
theorem Aja : Tryz.f11.results.toList.mapM (My Tryz.prog) = some [(.t 6)]:=by kernel_rfl
def OK (a : LY × Mf × ML) : List D:=[ME a.1,Nf a.2.1,Um a.2.2]
def Ul (ds : List D) : LY × Mf × ML:=(Ny (ds.getD 0 .top),OL (ds.getD 1 .top),Zo (ds.getD 2 .top))
theorem RM (a : LY × Mf × ML) : Ul (OK a) = a:=by simp [Ul,OK]
def Aaf (b : Int) : D:=.int .i64 b
def Aae (_b : Int) : List D:=[]
noncomputable def QI : Dw.Spec:=Ml [] .ground OK Ul (fun a=>OJ a.1 a.2.1 a.2.2) Aaf Aae
set_option maxHeartbeats 4000000 in
theorem Zh : Mk Tryz.prog 11 QI:=by
 refine Mv (Mp (l:=[(20,Qi),(21,Rp),(22,TC)]) (by simp [Yi,ZU,AbA])) Tryz.func11 (by decide) AiZ Aja (np:=3) (by decide) RM (fun _=>r) (fun _=>r) (by decide)<|?_
 rintro ⟨f1,l2,r3⟩
 show TrE (specs [(20,Qi),(21,Rp),(22,TC)]) AgI (Mz [] .ground [(.t 6)] Aaf Aae) ⟨[(0,.agg [.int .i64 f1.Params,.sl (f1.Slots.map LZ),.sl (f1.Code.map LW)]),(1,.agg [.sl (l2.Out.map (eL LS))]),(2,.agg [.sl (r3.To.map LS),.sl (r3.Keep.map D.bool)])],[],262144⟩ (OJ f1 l2 r3)
 refine Mq<|?_
 unfold AgI OJ
 refine sQ<|rG<|bX r r r r r<|bX r r r r r<|bX r r r r r<|aS r r<|nI<|xS<|sQ<|sQ<|rG<|lO (v:=.agg [.int .i64 f1.Params,.sl (f1.Slots.map LZ),.sl (f1.Code.map LW)]) (z:=.agg [.int .i64 f1.Params,.sl (f1.Slots.map LZ),.sl (f1.Code.map LW)]) r r r r r r<|lO (v:=.agg [.sl (l2.Out.map (eL LS))]) (z:=.agg [.sl (l2.Out.map (eL LS))]) r r r r r r<|bD fun r4 hr4=>cG (f1,l2) r r r TX r r (by simp) r hr4 r<|bN (v:=.bool (r4 != 0)) r r r r r<|nI<|xS<|cD (c:=(r4 != 0)) r ?_ ?_
 ·refine sQ<|rG<|aS r r<|nI<|xS<|rT<|xR<|Mg (b:=11) r ?_ r r ?_ r
  all_goals first|(simp;done)|(simp;omega)|rfl|(simp [Me,Mc];done)
 ·refine sK<|xS<|sQ<|sQ<|rG<|lO (v:=.agg [.int .i64 f1.Params,.sl (f1.Slots.map LZ),.sl (f1.Code.map LW)]) (z:=.agg [.int .i64 f1.Params,.sl (f1.Slots.map LZ),.sl (f1.Code.map LW)]) r r r r r r<|lO (v:=.agg [.sl (r3.To.map LS),.sl (r3.Keep.map D.bool)]) (z:=.agg [.sl (r3.To.map LS),.sl (r3.Keep.map D.bool)]) r r r r r r<|bD fun r5 hr5=>cG (f1,r3) r r r VI r r (by simp) r hr5 r<|bN (v:=.bool (r5 != 0)) r r r r r<|nI<|xS<|cD (c:=(r5 != 0)) r ?_ ?_
  ·refine sQ<|rG<|aS r r<|nI<|xS<|rT<|xR<|Mg (b:=12) r ?_ r r ?_ r
   all_goals first|(simp;done)|(simp;omega)|rfl|(simp [Me,Mc];done)
  ·refine sK<|xS<|sQ<|sQ<|rG<|lO (v:=.agg [.int .i64 f1.Params,.sl (f1.Slots.map LZ),.sl (f1.Code.map LW)]) (z:=.agg [.int .i64 f1.Params,.sl (f1.Slots.map LZ),.sl (f1.Code.map LW)]) r r r r r r<|lO (v:=.agg [.sl (l2.Out.map (eL LS))]) (z:=.agg [.sl (l2.Out.map (eL LS))]) r r r r r r<|lO (v:=.agg [.sl (r3.To.map LS),.sl (r3.Keep.map D.bool)]) (z:=.agg [.sl (r3.To.map LS),.sl (r3.Keep.map D.bool)]) r r r r r r<|bD fun r6 hr6=>cG (f1,l2,r3) r r r WU r r (by simp) r hr6 r<|mV r r<|eX (v:=.int .i64 r6.1) r r r<|eX (v:=.int .i64 r6.2.1) r r r<|eX (v:=.bool r6.2.2) r r r<|aS r r<|aS r r<|aS r r<|nI<|xS<|sQ<|rG<|mV r r<|nI<|xS<|cD (c:=r6.2.2) r ?_ ?_
   ·refine sQ<|rG<|aS r r<|nI<|xS<|rT<|xR<|Mg (b:=12) r ?_ r r ?_ r
    all_goals first|(simp;done)|(simp;omega)|rfl|(simp [Me,Mc];done)
   ·refine sK<|xS<|sQ<|rG<|aS r r<|nI<|xS<|rT<|Mg (b:=0) r ?_ r r ?_ r
    all_goals first|(simp;done)|(simp;omega)|rfl|(simp [Me,Mc];done)

def dc4 : Mm:=(.seq (.reg [P 0 (.asg (.c (.bool false)) none)] false) (.seq (.reg [⟨(some 4),(.bld [(.int .i64 0),(.int .i64 0)] [⟨0,⟨1,(C 8)⟩⟩,⟨1,⟨1,(C 8)⟩⟩]),none,[]⟩,⟨(some 5),(.bld [(.int .i64 0),(.int .i64 0)] [⟨0,⟨1,(C 8)⟩⟩,⟨1,⟨1,(C 8)⟩⟩]),none,[]⟩,⟨(some 6),(.bldS 2 51 (.agg [(.int .i64 0),(.int .i64 0)]) 2 [⟨0,(T 4)⟩,⟨1,(T 5)⟩]),none,[]⟩,⟨(some 7),(.bld [(.int .i64 0),(.int .i64 0),(.int .i64 0),(.int .i64 0),(.int .u64 0)] [⟨0,⟨1,(C 16)⟩⟩]),none,[]⟩,⟨(some 8),(.bld [(.int .i64 0),(.int .i64 0),(.int .i64 0),(.int .i64 0),(.int .u64 0)] [⟨0,⟨1,(C 16)⟩⟩,⟨1,⟨1,(C 1)⟩⟩]),none,[]⟩,⟨(some 9),(.bld [(.int .i64 0),(.int .i64 0),(.int .i64 0),(.int .i64 0),(.int .u64 0)] [⟨0,⟨1,(C 15)⟩⟩]),none,[]⟩,⟨(some 10),(.bld [(.int .i64 0),(.int .i64 0),(.int .i64 0),(.int .i64 0),(.int .u64 0)] [⟨0,⟨1,(C 23)⟩⟩]),none,[]⟩,⟨(some 11),(.bldS 5 54 (.agg [(.int .i64 0),(.int .i64 0),(.int .i64 0),(.int .i64 0),(.int .u64 0)]) 4 [⟨0,(T 7)⟩,⟨1,(T 8)⟩,⟨2,(T 9)⟩,⟨3,(T 10)⟩]),none,[]⟩,⟨(some 12),(.bld [(.int .i64 0),.nils,.nils] [⟨1,⟨1,(T 6)⟩⟩,⟨2,⟨1,(T 11)⟩⟩]),none,[]⟩,P 1 (.new (.agg [(.int .i64 0),.nils,.nils]) 3 33),⟨none,(.st 3 (T 1) (T 12)),none,[]⟩] false) (.seq (.reg [⟨(some 13),(.bldS 1 3 (.int .i64 0) 1 [⟨0,(C 0)⟩]),none,[]⟩,⟨(some 14),(.bldS 1 3 (.int .i64 0) 1 [⟨0,(C 0)⟩]),none,[]⟩,P 15 (.bldS 1 3 (.int .i64 0) 0 []),P 16 (.bldS 1 3 (.int .i64 0) 0 []),⟨(some 17),(.bldS 1 42 (.sl []) 4 [⟨0,(T 13)⟩,⟨1,(T 14)⟩,⟨2,(T 15)⟩,⟨3,(T 16)⟩]),none,[]⟩,⟨(some 18),(.bld [.nils] [⟨0,⟨1,(T 17)⟩⟩]),none,[]⟩,P 2 (.new (.agg [.nils]) 1 37),⟨none,(.st 1 (T 2) (T 18)),none,[]⟩] false) (.seq (.reg [⟨(some 19),(.bldS 1 4 (.bool false) 4 [⟨0,(.c (.bool true))⟩,⟨1,(.c (.bool true))⟩,⟨2,(.c (.bool true))⟩,⟨3,(.c (.bool true))⟩]),none,[]⟩,⟨(some 3),(.asg (T 19) (some ⟨1,4⟩)),none,[]⟩] false) (.seq (.reg [P 20 (.ld 3 true (T 1)),P 21 (.ld 1 true (T 2)),⟨(some 22),(.bldS 1 3 (.int .i64 0) 2 [⟨0,(C 0)⟩,⟨1,(C 1)⟩]),none,[]⟩,M 23 3,⟨(some 24),(.bld [.nils,.nils] [⟨0,⟨1,(T 22)⟩⟩,⟨1,⟨1,(T 23)⟩⟩]),none,[]⟩,P 25 (.call (.c (.clo 11 [])) [(T 20),(T 21),(T 24)]),P 26 (.bin .eql (T 25) (C 0)),M 27 26,⟨(some 28),(.ld 3 true (T 1)),(some ⟨27,true⟩),[]⟩,⟨(some 29),(.ld 1 true (T 2)),(some ⟨27,true⟩),[]⟩,⟨(some 30),(.bldS 1 3 (.int .i64 0) 2 [⟨0,(C 0)⟩,⟨1,(C 0)⟩]),(some ⟨27,true⟩),[]⟩,⟨(some 31),(.mv (T 3)),(some ⟨27,true⟩),[]⟩,⟨(some 32),(.bld [.nils,.nils] [⟨0,⟨1,(T 30)⟩⟩,⟨1,⟨1,(T 31)⟩⟩]),(some ⟨27,true⟩),[]⟩,⟨(some 33),(.call (.c (.clo 11 [])) [(T 28),(T 29),(T 32)]),(some ⟨27,true⟩),[]⟩,⟨(some 34),(.bin .eql (T 33) (C 12)),(some ⟨27,true⟩),[]⟩,P 35 (.pick (T 27) (T 34) (.c (.bool false))),P 0 (.asg (T 35) none)] false) .ret)))))
theorem AlR : (Tryz.f4.body.bind (Mo Tryz.prog Tryz.f4.ntmps)) = some dc4:=by kernel_rfl
theorem AlS : Tryz.f4.results.toList.mapM (My Tryz.prog) = some [(.t 0)]:=by kernel_rfl
def Wq (a : Unit) : List D:=[]
def Wp (ds : List D) : Unit:=()
theorem Aba (a : Unit) : Wp (Wq a) = a:=by simp [Wp,Wq]
def AbE (b : Bool) : D:=.bool b
def AbD (_b : Bool) : List D:=[]
noncomputable def Yu : Dw.Spec:=Ml [] .ground Wq Wp (fun a=>SV) AbE AbD
set_option maxHeartbeats 4000000 in
theorem Aee : Mk Tryz.prog 4 Yu:=by
 refine Mv (Mp (l:=[(11,QI)]) (by simp [Zh])) Tryz.func4 (by decide) AlR AlS (np:=0) (by decide) Aba (fun _=>r) (fun _=>r) (by decide)<|?_
 intro _
 show TrE (specs [(11,QI)]) dc4 (Mz [] .ground [(.t 0)] AbE AbD) ⟨[],[],262144⟩ (SV)
 refine Mq<|?_
 unfold dc4 SV
 refine sQ<|rG<|aS r r<|nI<|xS<|sQ<|rG<|bL (cs:=[.int .i64 8,.int .i64 8]) (ps:=[(0,1,.int .i64 8),(1,1,.int .i64 8)]) r r r r<|bL (cs:=[.int .i64 8,.int .i64 8]) (ps:=[(0,1,.int .i64 8),(1,1,.int .i64 8)]) r r r r<|bS ([(Mt.mk 8 8),(Mt.mk 8 8)] : List Mt) LZ r r r (by simp) r r r<|bL (cs:=[.int .i64 16,.int .i64 0,.int .i64 0,.int .i64 0,.int .u64 0]) (ps:=[(0,1,.int .i64 16)]) r r r r<|bL (cs:=[.int .i64 16,.int .i64 1,.int .i64 0,.int .i64 0,.int .u64 0]) (ps:=[(0,1,.int .i64 16),(1,1,.int .i64 1)]) r r r r<|bL (cs:=[.int .i64 15,.int .i64 0,.int .i64 0,.int .i64 0,.int .u64 0]) (ps:=[(0,1,.int .i64 15)]) r r r r<|bL (cs:=[.int .i64 23,.int .i64 0,.int .i64 0,.int .i64 0,.int .u64 0]) (ps:=[(0,1,.int .i64 23)]) r r r r<|bS ([(LU.mk 16 0 0 0 0),(LU.mk 16 1 0 0 0),(LU.mk 15 0 0 0 0),(LU.mk 23 0 0 0 0)] : List LU) LW r r r (by simp) r r r<|bL (cs:=[.int .i64 0,.osl 6 _ 0 (([(Mt.mk 8 8),(Mt.mk 8 8)] : List Mt).length),.osl 11 _ 0 (([(LU.mk 16 0 0 0 0),(LU.mk 16 1 0 0 0),(LU.mk 15 0 0 0 0),(LU.mk 23 0 0 0 0)] : List LU).length)]) (ps:=[(1,1,.osl 6 _ 0 (([(Mt.mk 8 8),(Mt.mk 8 8)] : List Mt).length)),(2,1,.osl 11 _ 0 (([(LU.mk 16 0 0 0 0),(LU.mk 16 1 0 0 0),(LU.mk 15 0 0 0 0),(LU.mk 23 0 0 0 0)] : List LU).length))]) r r r r<|nW r<|sV (z':=.agg [.int .i64 0,.osl 6 _ 0 (([(Mt.mk 8 8),(Mt.mk 8 8)] : List Mt).length),.osl 11 _ 0 (([(LU.mk 16 0 0 0 0),(LU.mk 16 1 0 0 0),(LU.mk 15 0 0 0 0),(LU.mk 23 0 0 0 0)] : List LU).length)]) r r r r r r r r r<|nI<|xS<|sQ<|rG<|bS ([0] : List Int) LS r r r (by simp) r r r<|bS ([0] : List Int) LS r r r (by simp) r r r<|bS (([] : List Int) : List Int) LS r r r (by simp) r r r<|bS (([] : List Int) : List Int) LS r r r (by simp) r r r<|bS ([([0] : List Int),([0] : List Int),([] : List Int),([] : List Int)] : List (List Int)) (eL LS) r r r (by simp) r (by simp [Cy,eL]) r<|bL (cs:=[.osl 17 _ 0 (([([0] : List Int),([0] : List Int),([] : List Int),([] : List Int)] : List (List Int)).length)]) (ps:=[(0,1,.osl 17 _ 0 (([([0] : List Int),([0] : List Int),([] : List Int),([] : List Int)] : List (List Int)).length))]) r r r r<|nW r<|sV (z':=.agg [.osl 17 _ 0 (([([0] : List Int),([0] : List Int),([] : List Int),([] : List Int)] : List (List Int)).length)]) r r r r r r r r r<|nI<|xS<|sQ<|rG<|bS ([true,true,true,true] : List Bool) D.bool r r r (by simp) r r r<|aO (l:=([true,true,true,true] : List Bool)) (en:=D.bool) r r r r<|nI<|xS<|sQ<|rG<|lO (v:=.agg [.int .i64 0,.osl 6 _ 0 (([(Mt.mk 8 8),(Mt.mk 8 8)] : List Mt).length),.osl 11 _ 0 (([(LU.mk 16 0 0 0 0),(LU.mk 16 1 0 0 0),(LU.mk 15 0 0 0 0),(LU.mk 23 0 0 0 0)] : List LU).length)]) (z:=.agg [.int .i64 0,.osl 6 _ 0 (([(Mt.mk 8 8),(Mt.mk 8 8)] : List Mt).length),.osl 11 _ 0 (([(LU.mk 16 0 0 0 0),(LU.mk 16 1 0 0 0),(LU.mk 15 0 0 0 0),(LU.mk 23 0 0 0 0)] : List LU).length)]) r r r r r r<|lO (v:=.agg [.osl 17 _ 0 (([([0] : List Int),([0] : List Int),([] : List Int),([] : List Int)] : List (List Int)).length)]) (z:=.agg [.osl 17 _ 0 (([([0] : List Int),([0] : List Int),([] : List Int),([] : List Int)] : List (List Int)).length)]) r r r r r r<|bS ([0,1] : List Int) LS r r r (by simp) r r r<|mV r r<|bL (cs:=[.osl 22 _ 0 (([0,1] : List Int).length),.osl 3 _ 0 (([true,true,true,true] : List Bool).length)]) (ps:=[(0,1,.osl 22 _ 0 (([0,1] : List Int).length)),(1,1,.osl 3 _ 0 (([true,true,true,true] : List Bool).length))]) r r r r<|bD fun r1 hr1=>cG ((LY.mk 0 ([(Mt.mk 8 8),(Mt.mk 8 8)] : List Mt) ([(LU.mk 16 0 0 0 0),(LU.mk 16 1 0 0 0),(LU.mk 15 0 0 0 0),(LU.mk 23 0 0 0 0)] : List LU)),(Mf.mk ([([0] : List Int),([0] : List Int),([] : List Int),([] : List Int)] : List (List Int))),(ML.mk ([0,1] : List Int) ([true,true,true,true] : List Bool))) r r r RM r r (by simp) (by first | rfl | (simp only [Mw,MB]; rfl) | simp [OK,ME,Nf,Um]) hr1 r<|bN (v:=.bool (r1 == 0)) r r r r r<|mV r r<|sP 27 (b:=(r1 == 0)) r ?_ ?_
 ·refine lO (v:=.agg [.int .i64 0,.osl 6 _ 0 (([(Mt.mk 8 8),(Mt.mk 8 8)] : List Mt).length),.osl 11 _ 0 (([(LU.mk 16 0 0 0 0),(LU.mk 16 1 0 0 0),(LU.mk 15 0 0 0 0),(LU.mk 23 0 0 0 0)] : List LU).length)]) (z:=.agg [.int .i64 0,.osl 6 _ 0 (([(Mt.mk 8 8),(Mt.mk 8 8)] : List Mt).length),.osl 11 _ 0 (([(LU.mk 16 0 0 0 0),(LU.mk 16 1 0 0 0),(LU.mk 15 0 0 0 0),(LU.mk 23 0 0 0 0)] : List LU).length)]) r r r r r r<|lO (v:=.agg [.osl 17 _ 0 (([([0] : List Int),([0] : List Int),([] : List Int),([] : List Int)] : List (List Int)).length)]) (z:=.agg [.osl 17 _ 0 (([([0] : List Int),([0] : List Int),([] : List Int),([] : List Int)] : List (List Int)).length)]) r r r r r r<|bS ([0,0] : List Int) LS r r r (by simp) r r r<|mV r r<|bL (cs:=[.osl 30 _ 0 (([0,0] : List Int).length),.osl 3 _ 0 (([true,true,true,true] : List Bool).length)]) (ps:=[(0,1,.osl 30 _ 0 (([0,0] : List Int).length)),(1,1,.osl 3 _ 0 (([true,true,true,true] : List Bool).length))]) r r r r<|bD fun r2 hr2=>cG ((LY.mk 0 ([(Mt.mk 8 8),(Mt.mk 8 8)] : List Mt) ([(LU.mk 16 0 0 0 0),(LU.mk 16 1 0 0 0),(LU.mk 15 0 0 0 0),(LU.mk 23 0 0 0 0)] : List LU)),(Mf.mk ([([0] : List Int),([0] : List Int),([] : List Int),([] : List Int)] : List (List Int))),(ML.mk ([0,0] : List Int) ([true,true,true,true] : List Bool))) r r r RM r r (by simp) (by first | rfl | (simp only [Mw,MB]; rfl) | simp [OK,ME,Nf,Um]) hr2 r<|bN (v:=.bool (r2 == 12)) r r r r r<|pT r r r r<|aS r r<|nI<|xS<|rT<|Mg (b:=(r2 == 12)) r ?_ r r ?_ r
  all_goals first|(simp;done)|(simp;omega)|rfl|(simp [Me,Mc];done)
 ·refine oF r<|oF r<|oF r<|oF r<|oF r<|oF r<|oF r<|pF r r r r<|aS r r<|nI<|xS<|rT<|Mg (b:=false) r ?_ r r ?_ r
  all_goals first|(simp;done)|(simp;omega)|rfl|(simp [Me,Mc];done)

def dc5 : Mm:=(.seq (.reg [P 4 (.asg (.c .top) none)] false) (.seq (.reg [M 5 0,M 6 0,P 7 (.len false (T 6)),M 8 1,P 9 (.min [(T 7),(T 8)]),P 10 (.slc 1 (T 5) none (some (T 9))),⟨(some 11),(.bld [.nils,(.int .i64 0)] [⟨0,⟨1,(T 10)⟩⟩]),none,[]⟩,P 12 (.box (T 11) 2 56),P 4 (.asg (T 12) none)] false) .ret))
theorem AlT : (Tryz.f5.body.bind (Mo Tryz.prog Tryz.f5.ntmps)) = some dc5:=by kernel_rfl
theorem AlU : Tryz.f5.results.toList.mapM (My Tryz.prog) = some [(.t 4)]:=by kernel_rfl
def Zz (a : (List Int) × Int) : List D:=[.sl (a.1.map eU8),.int .i64 a.2]
def Zy (ds : List D) : (List Int) × Int:=((uL uI) (ds.getD 0 .top),uI (ds.getD 1 .top))
theorem Adk (a : (List Int) × Int) : Zy (Zz a) = a:=by simp [Zy,Zz,uI,Nt (u:=uI) (en:=eU8) (fun _=>rfl)]
def AdL (b : LV) : D:=MK b
def AdK (_b : LV) : List D:=[]
noncomputable def Abu : Dw.Spec:=Ml [] (.ptr 2 56) Zz Zy (fun a=>Xk a.1 a.2) AdL AdK
set_option maxHeartbeats 4000000 in
theorem AfC : Mk Tryz.prog 5 Abu:=by
 refine Mv (Nb) Tryz.func5 (by decide) AlT AlU (np:=2) (by decide) Adk (fun _=>r) (fun _=>r) (by decide)<|?_
 rintro ⟨list1,limit2⟩
 show TrE (specs []) dc5 (Mz [] (.ptr 2 56) [(.t 4)] AdL AdK) ⟨[(0,.sl (list1.map eU8)),(1,.int .i64 limit2)],[],262144⟩ (Xk list1 limit2)
 refine Mq<|?_
 unfold dc5 Xk
 refine sQ<|rG<|aS r r<|nI<|xS<|sQ<|rG<|mV r r<|mV r r<|lS r r<|mV r r<|AfL r r r<|cK fun hq=>AeH (l:=list1) (en:=eU8) r r r (fun _=>r) r hq<|bL (cs:=[.sl ((list1.take (On (list1.length : Int) limit2).toNat).map eU8),.int .i64 0]) (ps:=[(0,1,.sl ((list1.take (On (list1.length : Int) limit2).toNat).map eU8))]) r r r r<|bX r r r r r<|aS r r<|nI<|xS<|rT<|AcY (b:=(LV.mk (list1.take (On (list1.length : Int) limit2).toNat) 0)) r ?_ r ?_ r r ?_ r
 all_goals first|(simp;done)|(simp;omega)|rfl|(simp [Me,Mc];done)

def AgL : Mm:=(.seq (.reg [P 2 (.asg (.c (.bool false)) none)] false) (.seq (.reg [M 3 0,⟨(some 4),(.nilck (T 3)),none,[0]⟩,⟨(some 5),(.fldA 1 (T 4)),none,[1]⟩,⟨(some 6),(.ld 1 false (T 5)),none,[2]⟩,M 7 0,⟨(some 8),(.nilck (T 7)),none,[4]⟩,⟨(some 9),(.fldA 0 (T 8)),none,[5]⟩,⟨(some 10),(.ld 1 false (T 9)),none,[6]⟩,⟨(some 11),(.len false (T 10)),none,[7]⟩,⟨(some 12),(.bin .lss (T 6) (T 11)),none,[3,8]⟩,⟨(some 2),(.asg (T 12) none),none,[9,0,1,2,3,4,5,6,7,8,9]⟩] true) .ret))
theorem Ajf : (Tryz.f14.body.bind (Mo Tryz.prog Tryz.f14.ntmps)) = some AgL:=by kernel_rfl
theorem Ajg : Tryz.f14.results.toList.mapM (My Tryz.prog) = some [(.t 2)]:=by kernel_rfl
def Ti (a : LV) : List D:=[MK a]
def Th (ds : List D) : LV:=Oc (ds.getD 0 .top)
theorem XY (a : LV) : Th (Ti a) = a:=by simp [Th,Ti]
def YO (b : Bool × LV) : D:=.bool b.1
def YN (b : Bool × LV) : List D:=[MK b.2]
noncomputable def UM : Dw.Spec:=Ml [(0,(2,56))] .val Ti Th (fun a=>Rj a) YO YN
set_option maxHeartbeats 4000000 in
theorem Acl : Mk Tryz.prog 14 UM:=by
 refine Mv (Nb) Tryz.func14 (by decide) Ajf Ajg (np:=1) (by decide) XY (fun _=>r) (fun _=>r) (by decide)<|?_
 intro c1
 show TrE (specs []) AgL (Mz [(0,(2,56))] .val [(.t 2)] YO YN) ⟨[(0,.optr 8192 0 0 0)],[(8192,some (0,⟨false,true,2,56,[.agg [.sl (c1.list.map eU8),.int .i64 c1.at_]]⟩))],262144⟩ (Rj c1)
 refine Mq<|?_
 unfold AgL Rj
 refine sQ<|rG<|aS r r<|nI<|xS<|sQ<|rG<|mV r r<|nC r r r<|fA r r<|lO (v:=.int .i64 c1.at_) (z:=.agg [.sl (c1.list.map eU8),.int .i64 c1.at_]) r r r r r r<|mV r r<|nC r r r<|fA r r<|lO (v:=.sl (c1.list.map eU8)) (z:=.agg [.sl (c1.list.map eU8),.int .i64 c1.at_]) r r r r r r<|lS r r<|bN (v:=.bool (decide (c1.at_ < (c1.list.length : Int)))) r r r r r<|aS r r<|Mj (by kernel_rfl)<|xS<|rT<|Nl (b:=((decide (c1.at_ < (c1.list.length : Int))),c1)) r ?_ r r ?_ r
 all_goals first|(simp;done)|(simp;omega)|rfl|(simp [Me,Mc];done)

def dc7 : Mm:=(.seq (.reg [P 4 (.asg (C 0) none)] false) (.seq (.seq (.reg [M 6 0,P 7 (.call (.c (.clo 14 [])) [(T 6)]),P 8 (.un .not (T 7)),M 9 8,⟨(some 10),(.mv (T 1)),(some ⟨9,false⟩),[]⟩,⟨(some 11),(.bin .lss (T 10) (C 1)),(some ⟨9,false⟩),[]⟩,P 12 (.pick (T 9) (.c (.bool true)) (T 11))] false) (.cond (T 12) (.seq (.reg [P 4 (.asg (C 0) none)] false) .ret) .skip)) (.seq (.reg [M 13 0,⟨(some 14),(.nilck (T 13)),none,[0]⟩,⟨(some 15),(.fldA 0 (T 14)),none,[1]⟩,⟨(some 16),(.ld 1 false (T 15)),none,[2]⟩,M 17 0,⟨(some 18),(.nilck (T 17)),none,[4]⟩,⟨(some 19),(.fldA 1 (T 18)),none,[5]⟩,⟨(some 20),(.ld 1 false (T 19)),none,[6]⟩,⟨(some 21),(.ixA 1 (T 16) (T 20)),none,[3,7]⟩,⟨(some 22),(.ld 1 false (T 21)),none,[8]⟩,⟨(some 23),(.cvt .i64 (T 22)),none,[9]⟩,⟨(some 5),(.asg (T 23) none),none,[10,0,1,2,3,4,5,6,7,8,9,10]⟩] true) (.seq (.reg [M 24 0,P 25 (.nilck (T 24)),P 26 (.fldA 1 (T 25)),P 27 (.ld 1 false (T 26)),P 28 (.bin .add (T 27) (C 1)),P 29 (.nilck (T 24)),P 30 (.fldA 1 (T 29)),⟨none,(.st 1 (T 30) (T 28)),none,[]⟩] false) (.seq (.reg [M 31 5,M 32 1,P 33 (.bin .mul (T 31) (T 32)),P 34 (.bin .quo (T 33) (C 256)),P 4 (.asg (T 34) none)] false) .ret)))))
theorem AlX : (Tryz.f7.body.bind (Mo Tryz.prog Tryz.f7.ntmps)) = some dc7:=by kernel_rfl
theorem AlY : Tryz.f7.results.toList.mapM (My Tryz.prog) = some [(.t 4)]:=by kernel_rfl
def Tk (a : LV × Int) : List D:=[MK a.1,.int .i64 a.2]
def Tj (ds : List D) : LV × Int:=(Oc (ds.getD 0 .top),uI (ds.getD 1 .top))
theorem Mh (a : LV × Int) : Tj (Tk a) = a:=by simp [Tj,Tk,uI]
def YQ (b : Int × LV) : D:=.int .i64 b.1
def YP (b : Int × LV) : List D:=[MK b.2]
noncomputable def MA : Dw.Spec:=Ml [(0,(2,56))] .val Tk Tj (fun a=>Mi a.1 a.2) YQ YP
set_option maxHeartbeats 4000000 in
theorem Nr : Mk Tryz.prog 7 MA:=by
 refine Mv (Mp (l:=[(14,UM)]) (by simp [Acl])) Tryz.func7 (by decide) AlX AlY (np:=2) (by decide) Mh (fun _=>r) (fun _=>r) (by decide)<|?_
 rintro ⟨c1,n2⟩
 show TrE (specs [(14,UM)]) dc7 (Mz [(0,(2,56))] .val [(.t 4)] YQ YP) ⟨[(0,.optr 8192 0 0 0),(1,.int .i64 n2)],[(8192,some (0,⟨false,true,2,56,[.agg [.sl (c1.list.map eU8),.int .i64 c1.at_]]⟩))],262144⟩ (Mi c1 n2)
 refine Mq<|?_
 unfold dc7 Mi
 refine sQ<|rG<|aS r r<|nI<|xS<|sC (E:=fun (s : (List Int) × Int) (g : Unit)=>[(0,.optr 8192 0 0 0),(1,.int .i64 n2)]) (O:=fun s g=>[(8192,some (0,⟨false,true,2,56,[.agg [.sl (s.1.map eU8),.int .i64 s.2]]⟩))]) (j:=fun s=>Rl n2 s.1 s.2) ?_ ?_
 ·refine sQ<|rG<|mV r r<|bD fun r5 hr5=>cV c1 r r r XY r r (by simp) r hr5<|uN (w:=.bool (!r5.1)) r r r r trivial<|mV r r<|sP 9 (b:=(!r5.1)) r ?_ ?_
  ·refine oF r<|oF r<|pT r r r r<|nI<|xS<|MW r<|sQ<|rG<|aS r r<|nI<|xS<|rT<|zR<|Nl (b:=(0,r5.2)) r ?_ r r ?_ r
   all_goals first|(simp;done)|(simp;omega)|rfl|(simp [Me,Mc];done)
  ·refine mV r r<|bN (v:=.bool (decide (n2 < 1))) r r r r r<|pF r r r r<|nI<|xS<|cD (c:=(decide (n2 < 1))) r ?_ ?_
   ·refine sQ<|rG<|aS r r<|nI<|xS<|rT<|zR<|Nl (b:=(0,r5.2)) r ?_ r r ?_ r
    all_goals first|(simp;done)|(simp;omega)|rfl|(simp [Me,Mc];done)
   ·exact sK<|xC (s:=(r5.2.list,r5.2.at_)) () ((hE ⟨rfl,r,trivial⟩ ⟨rfl,trivial⟩))
 ·rintro ⟨c3,c4⟩ ⟨⟩ nn
  try dsimp only
  unfold Rl
  refine sQ<|rG<|mV r r<|nC r r r<|fA r r<|lO (v:=.sl (c3.map eU8)) (z:=.agg [.sl (c3.map eU8),.int .i64 c4]) r r r r r r<|mV r r<|nC r r r<|fA r r<|lO (v:=.int .i64 c4) (z:=.agg [.sl (c3.map eU8),.int .i64 c4]) r r r r r r<|bD fun x_x6 hx_x6=>iS (en:=eU8) r r r hx_x6 r<|lF (v:=.int .u8 x_x6) r r r r<|cT r r<|aS r r<|Mj (by kernel_rfl)<|xS<|sQ<|rG<|mV r r<|nC r r r<|fA r r<|lO (v:=.int .i64 c4) (z:=.agg [.sl (c3.map eU8),.int .i64 c4]) r r r r r r<|bN (v:=.int .i64 (IntKind.i64.wrap (c4 + 1))) r r r r r<|nC r r r<|fA r r<|Vm (i:=0) (es':=[.agg [.sl (c3.map eU8),.int .i64 (IntKind.i64.wrap (c4 + 1))]]) r r r r r r r (by first | trivial | (simp; done) | (simp; omega)) r r r r r r<|nI<|xS<|sQ<|rG<|mV r r<|mV r r<|bN (v:=.int .i64 (IntKind.i64.wrap ((IntKind.i64.wrap (x_x6)) * n2))) r r r r r<|bN (v:=.int .i64 (IntKind.i64.wrap ((IntKind.i64.wrap ((IntKind.i64.wrap (x_x6)) * n2)).tdiv 256))) r r r r ⟨rfl,(by decide)⟩<|aS r r<|nI<|xS<|rT<|Nl (b:=(IntKind.i64.wrap ((IntKind.i64.wrap ((IntKind.i64.wrap (x_x6)) * n2)).tdiv 256),(LV.mk c3 (IntKind.i64.wrap (c4 + 1))))) r ?_ r r ?_ r
  all_goals first|(simp;done)|(simp;omega)|rfl|(simp [Me,Mc];done)

def Ahk : Mm:=(.seq (.reg [P 2 (.new (.agg [(.int .i64 0),(.int .i64 0)]) 2 51)] false) (.seq (.reg [⟨(some 3),(.bldS 1 3 (.int .i64 0) 7 [⟨0,(C 8)⟩,⟨1,(C 4)⟩,⟨2,(C 8)⟩,⟨3,(C 1)⟩,⟨4,(C 2)⟩,⟨5,(C 16)⟩,⟨6,(C 8)⟩]),none,[]⟩,M 4 0,⟨(some 5),(.call (.c (.clo 7 [])) [(T 4),(C 7)]),none,[1]⟩,⟨(some 6),(.ixA 1 (T 3) (T 5)),none,[0,2]⟩,⟨(some 7),(.ld 1 false (T 6)),none,[3]⟩,⟨(some 8),(.bldS 1 3 (.int .i64 0) 8 [⟨0,(C 8)⟩,⟨1,(C 4)⟩,⟨2,(C 1)⟩,⟨3,(C 8)⟩,⟨4,(C 16)⟩,⟨5,(C 2)⟩,⟨6,(C 32)⟩,⟨7,(C 64)⟩]),none,[]⟩,M 9 0,⟨(some 10),(.call (.c (.clo 7 [])) [(T 9),(C 8)]),none,[6,2]⟩,⟨(some 11),(.ixA 1 (T 8) (T 10)),none,[5,7]⟩,⟨(some 12),(.ld 1 false (T 11)),none,[8]⟩,⟨(some 13),(.bld [(.int .i64 0),(.int .i64 0)] [⟨0,⟨1,(T 7)⟩⟩,⟨1,⟨1,(T 12)⟩⟩]),none,[4,9]⟩,⟨none,(.st 2 (T 2) (T 13)),none,[10,7,0,1,2,3,4,5,6,7,8,9,10]⟩] true) .ret))
theorem Akd : (Tryz.f39.body.bind (Mo Tryz.prog Tryz.f39.ntmps)) = some Ahk:=by kernel_rfl
theorem Ake : Tryz.f39.results.toList.mapM (My Tryz.prog) = some [(.c 2 2 true)]:=by kernel_rfl
def Tm (a : LV) : List D:=[MK a]
def Tl (ds : List D) : LV:=Oc (ds.getD 0 .top)
theorem Ya (a : LV) : Tl (Tm a) = a:=by simp [Tl,Tm]
def YS (b : Mt × LV) : D:=LZ b.1
def YR (b : Mt × LV) : List D:=[MK b.2]
noncomputable def UN : Dw.Spec:=Ml [(0,(2,56))] .val Tm Tl (fun a=>PN a) YS YR
set_option maxHeartbeats 4000000 in
theorem Acm : Mk Tryz.prog 39 UN:=by
 refine Mv (Mp (l:=[(7,MA)]) (by simp [Nr])) Tryz.func39 (by decide) Akd Ake (np:=1) (by decide) Ya (fun _=>r) (fun _=>r) (by decide)<|?_
 intro c1
 show TrE (specs [(7,MA)]) Ahk (Mz [(0,(2,56))] .val [(.c 2 2 true)] YS YR) ⟨[(0,.optr 8192 0 0 0)],[(8192,some (0,⟨false,true,2,56,[.agg [.sl (c1.list.map eU8),.int .i64 c1.at_]]⟩))],262144⟩ (PN c1)
 refine Mq<|?_
 unfold Ahk PN
 refine sQ<|rG<|nW r<|nI<|xS<|sQ<|rG<|bS ([8,4,8,1,2,16,8] : List Int) LS r r r (by simp) r r r<|mV r r<|bD fun r2 hr2=>cV (c1,7) r r r Mh r r (by simp) r hr2<|cK fun hq=>iO (l:=([8,4,8,1,2,16,8] : List Int)) (en:=LS) r r r r r hq<|bD fun x_e3 hx_e3=>lO (v:=.int .i64 x_e3) (z:=LS x_e3) r r r (Nn hx_e3) r r<|bS ([8,4,1,8,16,2,32,64] : List Int) LS r r r (by simp) r r r<|mV r r<|bD fun r4 hr4=>cV (r2.2,8) r r r Mh r r (by simp) r hr4<|cK fun hq=>iO (l:=([8,4,1,8,16,2,32,64] : List Int)) (en:=LS) r r r r r hq<|bD fun x_e5 hx_e5=>lO (v:=.int .i64 x_e5) (z:=LS x_e5) r r r (Nn hx_e5) r r<|bL (cs:=[.int .i64 x_e3,.int .i64 x_e5]) (ps:=[(0,1,.int .i64 x_e3),(1,1,.int .i64 x_e5)]) r r r r<|sV (z':=.agg [.int .i64 x_e3,.int .i64 x_e5]) r r r r r r r r r<|Mj (by kernel_rfl)<|xS<|rT<|Nl (b:=((Mt.mk x_e3 x_e5),r4.2)) r ?_ r r ?_ r
 all_goals first|(simp;done)|(simp;omega)|rfl|(simp [Me,Mc];done)

def AgV : Mm:=(.seq (.reg [⟨(some 4),(.asg (.c .nils) (some ⟨2,51⟩)),none,[]⟩] false) (.seq (.reg [⟨(some 5),(.asg (.c .nils) (some ⟨2,51⟩)),none,[]⟩] false) (.seq (.seq (.reg [M 7 0,M 8 1,P 9 (.bin .add (T 8) (C 1)),P 10 (.call (.c (.clo 7 [])) [(T 7),(T 9)]),P 6 (.asg (T 10) none)] false) (.block 0 (.loop (.seq (.seq (.reg [M 11 6,P 12 (.bin .gtr (T 11) (C 0))] false) (.cond (T 12) .skip (.exit 0))) (.seq (.block 1 (.reg [M 15 5,M 16 0,P 17 (.call (.c (.clo 39 [])) [(T 16)]),⟨(some 18),(.bldS 2 51 (.agg [(.int .i64 0),(.int .i64 0)]) 1 [⟨0,(T 17)⟩]),none,[]⟩,P 19 (.app 2 51 16 (T 15) (T 18)),⟨(some 5),(.asg (T 19) (some ⟨2,51⟩)),none,[]⟩] false)) (.reg [M 13 6,P 14 (.bin .sub (T 13) (C 1)),P 6 (.asg (T 14) none)] false)))))) (.seq (.reg [M 20 5,⟨(some 4),(.asg (T 20) (some ⟨2,51⟩)),none,[]⟩] false) .ret))))
theorem Ajz : (Tryz.f24.body.bind (Mo Tryz.prog Tryz.f24.ntmps)) = some AgV:=by kernel_rfl
theorem AjA : Tryz.f24.results.toList.mapM (My Tryz.prog) = some [(.t 4)]:=by kernel_rfl
def Su (a : LV × Int) : List D:=[MK a.1,.int .i64 a.2]
def Ss (ds : List D) : LV × Int:=(Oc (ds.getD 0 .top),uI (ds.getD 1 .top))
theorem WZ (a : LV × Int) : Ss (Su a) = a:=by simp [Ss,Su,uI]
def Yc (b : (List Mt) × LV) : D:=.sl (b.1.map LZ)
def Yb (b : (List Mt) × LV) : List D:=[MK b.2]
noncomputable def TN : Dw.Spec:=Ml [(0,(2,56))] (.row 2 51) Su Ss (fun a=>Pr a.1 a.2) Yc Yb
set_option maxHeartbeats 4000000 in
theorem Acj : Mk Tryz.prog 24 TN:=by
 refine Mv (Mp (l:=[(7,MA),(39,UN)]) (by simp [Nr,Acm])) Tryz.func24 (by decide) Ajz AjA (np:=2) (by decide) WZ (fun _=>r) (fun _=>r) (by decide)<|?_
 rintro ⟨c1,most2⟩
 show TrE (specs [(7,MA),(39,UN)]) AgV (Mz [(0,(2,56))] (.row 2 51) [(.t 4)] Yc Yb) ⟨[(0,.optr 8192 0 0 0),(1,.int .i64 most2)],[(8192,some (0,⟨false,true,2,56,[.agg [.sl (c1.list.map eU8),.int .i64 c1.at_]]⟩))],262144⟩ (Pr c1 most2)
 refine Mq<|?_
 unfold AgV Pr
 refine sQ<|rG<|aN (α:=Mt) r LZ r<|nI<|xS<|sQ<|rG<|aN (α:=Mt) r LZ r<|nI<|xS<|sQ<|sQ<|rG<|mV r r<|mV r r<|bN (v:=.int .i64 (IntKind.i64.wrap (most2 + 1))) r r r r r<|bD fun r3 hr3=>cV (c1,IntKind.i64.wrap (most2 + 1)) r r r Mh r r (by simp) r hr3<|aS r r<|nI<|xS<|bK<|lP (E:=fun (s : (List Int) × Int × (List Mt) × Int) (g : Nat)=>[(0,.optr 8192 0 0 0),(5,.osl 5 g 0 s.2.2.1.length),(6,.int .i64 s.2.2.2)]) (O:=fun s g=>[(5,some (g,⟨false,false,2,51,s.2.2.1.map LZ⟩)),(8192,some (0,⟨false,true,2,56,[.agg [.sl (s.1.map eU8),.int .i64 s.2.1]]⟩))]) (body:=fun s=>QO s.1 s.2.1 s.2.2.1 s.2.2.2) (s:=(r3.2.list,r3.2.at_,([] : List Mt),r3.1)) _ ((hE ⟨rfl,r,r,trivial⟩ ⟨rfl,r,trivial⟩))<|?_
 rintro ⟨c4,c5,l6,n7⟩ v5x1 nn
 try dsimp only
 unfold QO
 refine sQ<|sQ<|rG<|mV r r<|bN (v:=.bool (decide (n7 > 0))) r r r r r<|nI<|xS<|cD (c:=(decide (n7 > 0))) r ?_ ?_
 ·exact sK<|xS<|sQ<|bK<|rG<|mV r r<|mV r r<|bD fun r8 hr8=>cV (LV.mk c4 c5) r r r Ya r r (by simp) r hr8<|bS ([r8.1] : List Mt) LZ r r r (by simp) r r r<|cK fun hq=>aP (l6) (([r8.1] : List Mt)) LZ r r r r r r r (by simp) (Mu _ _ r) r r (by simp) (Md _ _ r) (fun _=>r) r hq<|aO (l:=l6 ++ ([r8.1] : List Mt)) (en:=LZ) r r r r<|nI<|bM<|xS<|rG<|mV r r<|bN (v:=.int .i64 (IntKind.i64.wrap (n7 - 1))) r r r r r<|aS r r<|nI<|xL (s:=(r8.2.list,r8.2.at_,l6 ++ ([r8.1] : List Mt),IntKind.i64.wrap (n7 - 1))) _ ((hE ⟨rfl,r,r,trivial⟩ ⟨rfl,r,trivial⟩))
 ·refine eT<|xE<|lE<|bH<|xS<|sQ<|rG<|mV r r<|aO (l:=l6) (en:=LZ) r r r r<|nI<|xS<|rT<|MC (b:=(l6,(LV.mk c4 c5))) r ?_ r r ?_ r ?_ (congrArg D.sl (Md _ _ r)) r
  all_goals first|(simp;done)|(simp;omega)|rfl|(simp [Me,Mc];done)

def Ahl : Mm:=(.seq (.reg [P 4 (.box (T 1) 3 33),P 6 (.asg (C 0) none)] false) (.seq (.reg [⟨(some 7),(.asg (.c .nils) (some ⟨1,3⟩)),none,[]⟩] false) (.seq (.seq (.reg [P 8 (.asg (C 0) none)] false) (.block 0 (.loop (.seq (.seq (.reg [M 9 8,P 10 (.fldA 1 (T 4)),P 11 (.ld 1 false (T 10)),P 12 (.len false (T 11)),P 13 (.bin .lss (T 9) (T 12))] false) (.cond (T 13) .skip (.exit 0))) (.seq (.block 1 (.seq (.reg [P 16 (.fldA 1 (T 4)),⟨(some 17),(.ld 1 false (T 16)),none,[0]⟩,M 18 8,⟨(some 19),(.ixA 2 (T 17) (T 18)),none,[1,2]⟩,⟨(some 20),(.fldA 0 (T 19)),none,[3]⟩,⟨(some 21),(.ld 1 false (T 20)),none,[4]⟩,P 22 (.fldA 1 (T 4)),⟨(some 23),(.ld 1 false (T 22)),none,[6]⟩,M 24 2,⟨(some 25),(.ixA 2 (T 23) (T 24)),none,[7,8]⟩,⟨(some 26),(.fldA 0 (T 25)),none,[9]⟩,⟨(some 27),(.ld 1 false (T 26)),none,[10]⟩,⟨(some 28),(.bin .eql (T 21) (T 27)),none,[5,11]⟩] true) (.cond (T 28) (.reg [M 29 7,M 30 8,⟨(some 31),(.bldS 1 3 (.int .i64 0) 1 [⟨0,(T 30)⟩]),none,[]⟩,P 32 (.app 1 3 8 (T 29) (T 31)),⟨(some 7),(.asg (T 32) (some ⟨1,3⟩)),none,[]⟩] false) .skip))) (.reg [M 14 8,P 15 (.bin .add (T 14) (C 1)),P 8 (.asg (T 15) none)] false)))))) (.seq (.reg [M 33 7,M 34 0,M 35 7,P 36 (.len false (T 35)),P 37 (.call (.c (.clo 7 [])) [(T 34),(T 36)]),P 38 (.ixA 1 (T 33) (T 37)),P 39 (.ld 1 false (T 38)),P 6 (.asg (T 39) none)] false) .ret))))
theorem Akf : (Tryz.f40.body.bind (Mo Tryz.prog Tryz.f40.ntmps)) = some Ahl:=by kernel_rfl
theorem Akg : Tryz.f40.results.toList.mapM (My Tryz.prog) = some [(.t 6)]:=by kernel_rfl
def Tt (a : LV × LY × Int) : List D:=[MK a.1,ME a.2.1,.int .i64 a.2.2]
def Ts (ds : List D) : LV × LY × Int:=(Oc (ds.getD 0 .top),Ny (ds.getD 1 .top),uI (ds.getD 2 .top))
theorem Yf (a : LV × LY × Int) : Ts (Tt a) = a:=by simp [Ts,Tt,uI]
def YY (b : Int × LV) : D:=.int .i64 b.1
def YX (b : Int × LV) : List D:=[MK b.2]
noncomputable def UP : Dw.Spec:=Ml [(0,(2,56))] .val Tt Ts (fun a=>PQ a.1 a.2.1 a.2.2) YY YX
set_option maxHeartbeats 4000000 in
theorem Aco : Mk Tryz.prog 40 UP:=by
 refine Mv (Mp (l:=[(7,MA)]) (by simp [Nr])) Tryz.func40 (by decide) Akf Akg (np:=3) (by decide) Yf (fun _=>r) (fun _=>r) (by decide)<|?_
 rintro ⟨c1,f2,s3⟩
 show TrE (specs [(7,MA)]) Ahl (Mz [(0,(2,56))] .val [(.t 6)] YY YX) ⟨[(0,.optr 8192 0 0 0),(1,.agg [.int .i64 f2.Params,.sl (f2.Slots.map LZ),.sl (f2.Code.map LW)]),(2,.int .i64 s3)],[(8192,some (0,⟨false,true,2,56,[.agg [.sl (c1.list.map eU8),.int .i64 c1.at_]]⟩))],262144⟩ (PQ c1 f2 s3)
 refine Mq<|?_
 unfold Ahl PQ
 refine sQ<|rG<|bX r r r r r<|aS r r<|nI<|xS<|sQ<|rG<|aN (α:=Int) r LS r<|nI<|xS<|sQ<|sQ<|rG<|aS r r<|nI<|xS<|bK<|lP (E:=fun (s : (List Int) × Int) (g : Nat × Nat)=>[(0,.optr 8192 0 0 0),(2,.int .i64 s3),(4,.optr 4 g.1 0 0),(7,.osl 7 g.2 0 s.1.length),(8,.int .i64 s.2)]) (O:=fun s g=>[(4,some (g.1,⟨false,true,3,33,[.agg [.int .i64 f2.Params,.sl (f2.Slots.map LZ),.sl (f2.Code.map LW)]]⟩)),(7,some (g.2,⟨false,false,1,3,s.1.map LS⟩)),(8192,some (0,⟨false,true,2,56,[.agg [.sl (c1.list.map eU8),.int .i64 c1.at_]]⟩))]) (body:=fun s=>Rn f2 s3 c1 s.1 s.2) (s:=(([] : List Int),0)) (_,_) ((hE ⟨rfl,r,r,r,r,trivial⟩ ⟨rfl,r,r,trivial⟩))<|?_
 rintro ⟨l4,k5⟩ ⟨v4x1,v7x1⟩ nn
 try dsimp only
 unfold Rn
 refine sQ<|sQ<|rG<|mV r r<|fA r r<|lO (v:=.sl (f2.Slots.map LZ)) (z:=.agg [.int .i64 f2.Params,.sl (f2.Slots.map LZ),.sl (f2.Code.map LW)]) r r r r r r<|lS r r<|bN (v:=.bool (decide (k5 < (f2.Slots.length : Int)))) r r r r r<|nI<|xS<|cD (c:=(decide (k5 < (f2.Slots.length : Int)))) r ?_ ?_
 ·refine sK<|xS<|sQ<|bK<|sQ<|rG<|fA r r<|lO (v:=.sl (f2.Slots.map LZ)) (z:=.agg [.int .i64 f2.Params,.sl (f2.Slots.map LZ),.sl (f2.Code.map LW)]) r r r r r r<|mV r r<|bD fun x_x6 hx_x6=>iS (en:=LZ) r r r hx_x6 r<|fF r r<|lF (v:=.int .i64 x_x6.Size) r r r r<|fA r r<|lO (v:=.sl (f2.Slots.map LZ)) (z:=.agg [.int .i64 f2.Params,.sl (f2.Slots.map LZ),.sl (f2.Code.map LW)]) r r r r r r<|mV r r<|bD fun x_x7 hx_x7=>iS (en:=LZ) r r r hx_x7 r<|fF r r<|lF (v:=.int .i64 x_x7.Size) r r r r<|bN (v:=.bool (x_x6.Size == x_x7.Size)) r r r r r<|Mj (by kernel_rfl)<|xS<|cD (c:=(x_x6.Size == x_x7.Size)) r ?_ ?_
  ·exact rG<|mV r r<|mV r r<|bS ([k5] : List Int) LS r r r (by simp) r r r<|cK fun hq=>aP (l4) (([k5] : List Int)) LS r r r r r r r (by simp) (Mu _ _ r) r r (by simp) (Md _ _ r) (fun _=>r) r hq<|aO (l:=l4 ++ ([k5] : List Int)) (en:=LS) r r r r<|nI<|bM<|xS<|rG<|mV r r<|bN (v:=.int .i64 (IntKind.i64.wrap (k5 + 1))) r r r r r<|aS r r<|nI<|xL (s:=(l4 ++ ([k5] : List Int),IntKind.i64.wrap (k5 + 1))) (_,_) ((hE ⟨rfl,r,r,r,r,trivial⟩ ⟨rfl,r,r,trivial⟩))
  ·exact sK<|bM<|xS<|rG<|mV r r<|bN (v:=.int .i64 (IntKind.i64.wrap (k5 + 1))) r r r r r<|aS r r<|nI<|xL (s:=(l4,IntKind.i64.wrap (k5 + 1))) (_,_) ((hE ⟨rfl,r,r,r,r,trivial⟩ ⟨rfl,r,r,trivial⟩))
 ·refine eT<|xE<|lE<|bH<|xS<|sQ<|rG<|mV r r<|mV r r<|mV r r<|lW r r<|bD fun r8 hr8=>cV (c1,(l4.length : Int)) r r r Mh r r (by simp) r hr8<|cK fun hq=>iO (l:=l4) (en:=LS) r r r r r hq<|bD fun l_e9 hl_e9=>lO (v:=.int .i64 l_e9) (z:=LS l_e9) r r r (Nn hl_e9) r r<|aS r r<|nI<|xS<|rT<|Nl (b:=(l_e9,r8.2)) r ?_ r r ?_ r
  all_goals first|(simp;done)|(simp;omega)|rfl|(simp [Me,Mc];done)

def AgX : Mm:=(.seq (.reg [P 2 (.asg (.c (.int .u64 0)) none)] false) (.seq (.seq (.reg [M 3 0,P 4 (.call (.c (.clo 7 [])) [(T 3),(C 6)])] false) (.block 0 (.seq (.reg [P 6 (.bin .eql (T 4) (C 0)),P 5 (.asg (T 6) none)] false) (.cond (T 5) (.seq (.reg [M 7 0,P 8 (.call (.c (.clo 7 [])) [(T 7),(C 3)]),P 9 (.cvt .u64 (T 8)),P 10 (.bin .sub (.c (.int .u64 18446744073709551615)) (T 9)),P 2 (.asg (T 10) none)] false) .ret) (.seq (.reg [P 12 (.bin .eql (T 4) (C 1)),P 11 (.asg (T 12) none)] false) (.cond (T 11) (.seq (.reg [M 13 0,P 14 (.call (.c (.clo 7 [])) [(T 13),(C 64)]),P 15 (.bin .shl (.c (.int .u64 1)) (T 14)),P 2 (.asg (T 15) none)] false) .ret) (.seq (.reg [P 17 (.bin .eql (T 4) (C 2)),P 16 (.asg (T 17) none)] false) (.cond (T 16) (.seq (.reg [P 2 (.asg (.c (.int .u64 0)) none)] false) .ret) .skip)))))))) (.seq (.reg [M 18 0,P 19 (.call (.c (.clo 7 [])) [(T 18),(C 256)]),P 20 (.cvt .u64 (T 19)),P 2 (.asg (T 20) none)] false) .ret)))
theorem AjD : (Tryz.f26.body.bind (Mo Tryz.prog Tryz.f26.ntmps)) = some AgX:=by kernel_rfl
theorem AjE : Tryz.f26.results.toList.mapM (My Tryz.prog) = some [(.t 2)]:=by kernel_rfl
def Tp (a : LV) : List D:=[MK a]
def Tn (ds : List D) : LV:=Oc (ds.getD 0 .top)
theorem TO (a : LV) : Tn (Tp a) = a:=by simp [Tn,Tp]
def YU (b : Int × LV) : D:=.int .u64 b.1
def YT (b : Int × LV) : List D:=[MK b.2]
noncomputable def Qh : Dw.Spec:=Ml [(0,(2,56))] .val Tp Tn (fun a=>OV a) YU YT
set_option maxHeartbeats 4000000 in
theorem Yd : Mk Tryz.prog 26 Qh:=by
 refine Mv (Mp (l:=[(7,MA)]) (by simp [Nr])) Tryz.func26 (by decide) AjD AjE (np:=1) (by decide) TO (fun _=>r) (fun _=>r) (by decide)<|?_
 intro c1
 show TrE (specs [(7,MA)]) AgX (Mz [(0,(2,56))] .val [(.t 2)] YU YT) ⟨[(0,.optr 8192 0 0 0)],[(8192,some (0,⟨false,true,2,56,[.agg [.sl (c1.list.map eU8),.int .i64 c1.at_]]⟩))],262144⟩ (OV c1)
 refine Mq<|?_
 unfold AgX OV
 refine sQ<|rG<|aS r r<|nI<|xS<|sQ<|sQ<|rG<|mV r r<|bD fun r2 hr2=>cV (c1,6) r r r Mh r r (by simp) r hr2<|nI<|xS<|bK<|sQ<|rG<|bN (v:=.bool (r2.1 == 0)) r r r r r<|aS r r<|nI<|xS<|cD (c:=(r2.1 == 0)) r ?_ ?_
 ·refine sQ<|rG<|mV r r<|bD fun r3 hr3=>cV (r2.2,3) r r r Mh r r (by simp) r hr3<|cT r r<|bN (v:=.int .u64 (IntKind.u64.wrap (18446744073709551615 - (IntKind.u64.wrap (r3.1))))) r r r r r<|aS r r<|nI<|xS<|rT<|bR<|xR<|Nl (b:=(IntKind.u64.wrap (18446744073709551615 - (IntKind.u64.wrap (r3.1))),r3.2)) r ?_ r r ?_ r
  all_goals first|(simp;done)|(simp;omega)|rfl|(simp [Me,Mc];done)
 ·refine sQ<|rG<|bN (v:=.bool (r2.1 == 1)) r r r r r<|aS r r<|nI<|xS<|cD (c:=(r2.1 == 1)) r ?_ ?_
  ·refine sQ<|rG<|mV r r<|bD fun r4 hr4=>cV (r2.2,64) r r r Mh r r (by simp) r hr4<|cK fun hq=>bN (v:=.int .u64 (IntKind.u64.wrap (1 * 2 ^ (Nat.min r4.1.toNat IntKind.u64.bits)))) r r r r hq<|aS r r<|nI<|xS<|rT<|bR<|xR<|Nl (b:=(IntKind.u64.wrap (1 * 2 ^ (Nat.min r4.1.toNat IntKind.u64.bits)),r4.2)) r ?_ r r ?_ r
   all_goals first|(simp;done)|(simp;omega)|rfl|(simp [Me,Mc];done)
  ·refine sQ<|rG<|bN (v:=.bool (r2.1 == 2)) r r r r r<|aS r r<|nI<|xS<|cD (c:=(r2.1 == 2)) r ?_ ?_
   ·refine sQ<|rG<|aS r r<|nI<|xS<|rT<|bR<|xR<|Nl (b:=(0,r2.2)) r ?_ r r ?_ r
    all_goals first|(simp;done)|(simp;omega)|rfl|(simp [Me,Mc];done)
   ·refine sK<|bM<|xS<|sQ<|rG<|mV r r<|bD fun r5 hr5=>cV (r2.2,256) r r r Mh r r (by simp) r hr5<|cT r r<|aS r r<|nI<|xS<|rT<|Nl (b:=(IntKind.u64.wrap (r5.1),r5.2)) r ?_ r r ?_ r
    all_goals first|(simp;done)|(simp;omega)|rfl|(simp [Me,Mc];done)

def AgW : Mm:=(.seq (.reg [P 5 (.box (T 1) 3 33),⟨(some 8),(.asg (.c .nils) (some ⟨5,54⟩)),none,[]⟩] false) (.seq (.reg [M 16 0,P 17 (.call (.c (.clo 7 [])) [(T 16),(C 4)]),P 9 (.asg (T 17) none)] false) (.seq (.reg [P 18 (.fldA 1 (T 5)),P 19 (.ld 1 false (T 18)),P 20 (.len false (T 19)),P 10 (.asg (T 20) none)] false) (.seq (.reg [M 21 0,P 22 (.call (.c (.clo 7 [])) [(T 21),(C 20)]),P 11 (.asg (T 22) none)] false) (.seq (.block 0 (.seq (.reg [M 24 11,P 25 (.bin .lss (T 24) (C 3)),M 26 25,⟨(some 27),(.mv (T 10)),(some ⟨26,true⟩),[]⟩,⟨(some 28),(.bin .gtr (T 27) (C 0)),(some ⟨26,true⟩),[]⟩,P 29 (.pick (T 26) (T 28) (.c (.bool false))),P 23 (.asg (T 29) none)] false) (.cond (T 23) (.seq (.reg [M 30 0,M 31 10,P 32 (.call (.c (.clo 7 [])) [(T 30),(T 31)]),M 33 9,⟨(some 34),(.bld [(.int .i64 0),(.int .i64 0),(.int .i64 0),(.int .i64 0),(.int .u64 0)] [⟨0,⟨1,(C 16)⟩⟩,⟨1,⟨1,(T 32)⟩⟩,⟨2,⟨1,(T 33)⟩⟩]),none,[]⟩,⟨(some 35),(.bldS 5 54 (.agg [(.int .i64 0),(.int .i64 0),(.int .i64 0),(.int .i64 0),(.int .u64 0)]) 1 [⟨0,(T 34)⟩]),none,[]⟩,⟨(some 8),(.asg (T 35) (some ⟨5,54⟩)),none,[]⟩] false) .ret) (.seq (.reg [M 37 11,P 38 (.bin .lss (T 37) (C 6)),M 39 38,⟨(some 40),(.mv (T 10)),(some ⟨39,true⟩),[]⟩,⟨(some 41),(.bin .gtr (T 40) (C 0)),(some ⟨39,true⟩),[]⟩,P 42 (.pick (T 39) (T 41) (.c (.bool false))),P 36 (.asg (T 42) none)] false) (.cond (T 36) (.seq (.reg [M 43 9,M 44 0,M 45 10,P 46 (.call (.c (.clo 7 [])) [(T 44),(T 45)]),⟨(some 47),(.bld [(.int .i64 0),(.int .i64 0),(.int .i64 0),(.int .i64 0),(.int .u64 0)] [⟨0,⟨1,(C 15)⟩⟩,⟨1,⟨1,(T 43)⟩⟩,⟨2,⟨1,(T 46)⟩⟩]),none,[]⟩,⟨(some 48),(.bldS 5 54 (.agg [(.int .i64 0),(.int .i64 0),(.int .i64 0),(.int .i64 0),(.int .u64 0)]) 1 [⟨0,(T 47)⟩]),none,[]⟩,⟨(some 8),(.asg (T 48) (some ⟨5,54⟩)),none,[]⟩] false) .ret) (.seq (.reg [M 50 11,P 51 (.bin .lss (T 50) (C 9)),M 52 51,⟨(some 53),(.mv (T 10)),(some ⟨52,true⟩),[]⟩,⟨(some 54),(.bin .gtr (T 53) (C 0)),(some ⟨52,true⟩),[]⟩,P 55 (.pick (T 52) (T 54) (.c (.bool false))),P 49 (.asg (T 55) none)] false) (.cond (T 49) (.seq (.reg [M 56 0,M 57 10,P 58 (.call (.c (.clo 7 [])) [(T 56),(T 57)]),P 12 (.asg (T 58) none)] false) (.seq (.reg [M 59 0,P 60 (.ld 3 true (T 5)),M 61 12,P 62 (.call (.c (.clo 40 [])) [(T 59),(T 60),(T 61)]),M 63 12,⟨(some 64),(.bld [(.int .i64 0),(.int .i64 0),(.int .i64 0),(.int .i64 0),(.int .u64 0)] [⟨0,⟨1,(C 17)⟩⟩,⟨1,⟨1,(T 62)⟩⟩,⟨2,⟨1,(T 63)⟩⟩]),none,[]⟩,⟨(some 65),(.bldS 5 54 (.agg [(.int .i64 0),(.int .i64 0),(.int .i64 0),(.int .i64 0),(.int .u64 0)]) 1 [⟨0,(T 64)⟩]),none,[]⟩,⟨(some 8),(.asg (T 65) (some ⟨5,54⟩)),none,[]⟩] false) .ret)) (.seq (.reg [M 67 11,P 68 (.bin .lss (T 67) (C 11)),P 66 (.asg (T 68) none)] false) (.cond (T 66) (.seq (.reg [M 69 9,M 70 0,P 71 (.call (.c (.clo 26 [])) [(T 70)]),⟨(some 72),(.bld [(.int .i64 0),(.int .i64 0),(.int .i64 0),(.int .i64 0),(.int .u64 0)] [⟨0,⟨1,(C 0)⟩⟩,⟨1,⟨1,(T 69)⟩⟩,⟨4,⟨1,(T 71)⟩⟩]),none,[]⟩,⟨(some 73),(.bldS 5 54 (.agg [(.int .i64 0),(.int .i64 0),(.int .i64 0),(.int .i64 0),(.int .u64 0)]) 1 [⟨0,(T 72)⟩]),none,[]⟩,⟨(some 8),(.asg (T 73) (some ⟨5,54⟩)),none,[]⟩] false) .ret) (.seq (.reg [M 75 11,P 76 (.bin .lss (T 75) (C 13)),P 74 (.asg (T 76) none)] false) (.cond (T 74) (.seq (.reg [M 77 0,P 78 (.call (.c (.clo 7 [])) [(T 77),(C 10)]),P 79 (.bin .add (C 2) (T 78)),M 80 9,M 81 0,P 82 (.call (.c (.clo 7 [])) [(T 81),(C 4)]),M 83 0,P 84 (.call (.c (.clo 7 [])) [(T 83),(C 8)]),⟨(some 85),(.bld [(.int .i64 0),(.int .i64 0),(.int .i64 0),(.int .i64 0),(.int .u64 0)] [⟨0,⟨1,(T 79)⟩⟩,⟨1,⟨1,(T 80)⟩⟩,⟨2,⟨1,(T 82)⟩⟩,⟨3,⟨1,(T 84)⟩⟩]),none,[]⟩,⟨(some 86),(.bldS 5 54 (.agg [(.int .i64 0),(.int .i64 0),(.int .i64 0),(.int .i64 0),(.int .u64 0)]) 1 [⟨0,(T 85)⟩]),none,[]⟩,⟨(some 8),(.asg (T 86) (some ⟨5,54⟩)),none,[]⟩] false) .ret) (.seq (.reg [M 88 11,P 89 (.bin .lss (T 88) (C 15)),P 87 (.asg (T 89) none)] false) (.cond (T 87) (.seq (.reg [M 90 9,⟨(some 91),(.bld [(.int .i64 0),(.int .i64 0),(.int .i64 0),(.int .i64 0),(.int .u64 0)] [⟨0,⟨1,(C 14)⟩⟩,⟨1,⟨1,(T 90)⟩⟩]),none,[]⟩,⟨(some 92),(.bldS 5 54 (.agg [(.int .i64 0),(.int .i64 0),(.int .i64 0),(.int .i64 0),(.int .u64 0)]) 1 [⟨0,(T 91)⟩]),none,[]⟩,⟨(some 8),(.asg (T 92) (some ⟨5,54⟩)),none,[]⟩] false) .ret) (.seq (.reg [M 94 11,P 95 (.bin .eql (T 94) (C 15)),P 93 (.asg (T 95) none)] false) (.cond (T 93) (.seq (.reg [⟨(some 96),(.bldS 1 3 (.int .i64 0) 3 [⟨0,(C 13)⟩,⟨1,(C 12)⟩,⟨2,(C 1)⟩]),none,[]⟩,M 97 0,P 98 (.call (.c (.clo 7 [])) [(T 97),(C 3)]),P 99 (.ixA 1 (T 96) (T 98)),P 100 (.ld 1 false (T 99)),M 101 9,⟨(some 102),(.bld [(.int .i64 0),(.int .i64 0),(.int .i64 0),(.int .i64 0),(.int .u64 0)] [⟨0,⟨1,(T 100)⟩⟩,⟨1,⟨1,(T 101)⟩⟩]),none,[]⟩,⟨(some 103),(.bldS 5 54 (.agg [(.int .i64 0),(.int .i64 0),(.int .i64 0),(.int .i64 0),(.int .u64 0)]) 1 [⟨0,(T 102)⟩]),none,[]⟩,⟨(some 8),(.asg (T 103) (some ⟨5,54⟩)),none,[]⟩] false) .ret) (.seq (.reg [M 105 11,P 106 (.bin .eql (T 105) (C 16)),M 107 106,⟨(some 108),(.fldA 0 (T 5)),(some ⟨107,true⟩),[]⟩,⟨(some 109),(.ld 1 false (T 108)),(some ⟨107,true⟩),[]⟩,⟨(some 110),(.bin .gtr (T 109) (C 0)),(some ⟨107,true⟩),[]⟩,P 111 (.pick (T 107) (T 110) (.c (.bool false))),P 104 (.asg (T 111) none)] false) (.cond (T 104) (.seq (.reg [M 112 9,M 113 0,P 114 (.fldA 0 (T 5)),P 115 (.ld 1 false (T 114)),P 116 (.call (.c (.clo 7 [])) [(T 113),(T 115)]),⟨(some 117),(.bld [(.int .i64 0),(.int .i64 0),(.int .i64 0),(.int .i64 0),(.int .u64 0)] [⟨0,⟨1,(C 19)⟩⟩,⟨1,⟨1,(T 112)⟩⟩,⟨2,⟨1,(T 116)⟩⟩]),none,[]⟩,⟨(some 118),(.bldS 5 54 (.agg [(.int .i64 0),(.int .i64 0),(.int .i64 0),(.int .i64 0),(.int .u64 0)]) 1 [⟨0,(T 117)⟩]),none,[]⟩,⟨(some 8),(.asg (T 118) (some ⟨5,54⟩)),none,[]⟩] false) .ret) (.seq (.reg [M 120 11,P 121 (.bin .geq (T 120) (C 17)),M 122 121,⟨(some 123),(.mv (T 2)),(some ⟨122,true⟩),[]⟩,⟨(some 124),(.bin .add (T 123) (C 1)),(some ⟨122,true⟩),[]⟩,⟨(some 125),(.mv (T 3)),(some ⟨122,true⟩),[]⟩,⟨(some 126),(.len false (T 125)),(some ⟨122,true⟩),[]⟩,⟨(some 127),(.bin .lss (T 124) (T 126)),(some ⟨122,true⟩),[]⟩,P 128 (.pick (T 122) (T 127) (.c (.bool false))),P 119 (.asg (T 128) none)] false) (.cond (T 119) (.seq (.reg [M 129 2,P 130 (.bin .add (T 129) (C 1)),M 131 0,M 132 3,P 133 (.len false (T 132)),M 134 2,P 135 (.bin .sub (T 133) (T 134)),P 136 (.bin .sub (T 135) (C 1)),P 137 (.call (.c (.clo 7 [])) [(T 131),(T 136)]),P 138 (.bin .add (T 130) (T 137)),P 13 (.asg (T 138) none)] false) (.seq (.reg [⟨(some 14),(.asg (.c .nils) (some ⟨5,54⟩)),none,[]⟩] false) (.seq (.seq (.reg [P 15 (.asg (C 0) none)] false) (.block 1 (.loop (.seq (.seq (.reg [M 139 15,M 140 3,M 141 13,P 142 (.ixA 1 (T 140) (T 141)),P 143 (.ld 1 false (T 142)),P 144 (.bin .lss (T 139) (T 143))] false) (.cond (T 144) .skip (.exit 1))) (.seq (.block 2 (.seq (.reg [M 147 0,P 148 (.call (.c (.clo 7 [])) [(T 147),(C 8)]),P 149 (.bin .lss (T 148) (C 7))] false) (.cond (T 149) (.reg [M 150 14,M 151 15,M 152 0,P 153 (.call (.c (.clo 7 [])) [(T 152),(C 4)]),⟨(some 154),(.bld [(.int .i64 0),(.int .i64 0),(.int .i64 0),(.int .i64 0),(.int .u64 0)] [⟨0,⟨1,(C 18)⟩⟩,⟨1,⟨1,(T 151)⟩⟩,⟨2,⟨1,(T 153)⟩⟩]),none,[]⟩,⟨(some 155),(.bldS 5 54 (.agg [(.int .i64 0),(.int .i64 0),(.int .i64 0),(.int .i64 0),(.int .u64 0)]) 1 [⟨0,(T 154)⟩]),none,[]⟩,P 156 (.app 5 54 40 (T 150) (T 155)),⟨(some 14),(.asg (T 156) (some ⟨5,54⟩)),none,[]⟩] false) .skip))) (.reg [M 145 15,P 146 (.bin .add (T 145) (C 1)),P 15 (.asg (T 146) none)] false)))))) (.seq (.reg [M 157 14,M 158 13,⟨(some 159),(.bld [(.int .i64 0),(.int .i64 0),(.int .i64 0),(.int .i64 0),(.int .u64 0)] [⟨0,⟨1,(C 22)⟩⟩,⟨1,⟨1,(T 158)⟩⟩]),none,[]⟩,⟨(some 160),(.bldS 5 54 (.agg [(.int .i64 0),(.int .i64 0),(.int .i64 0),(.int .i64 0),(.int .u64 0)]) 1 [⟨0,(T 159)⟩]),none,[]⟩,P 161 (.app 5 54 40 (T 157) (T 160)),⟨(some 8),(.asg (T 161) (some ⟨5,54⟩)),none,[]⟩] false) .ret)))) .skip))))))))))))))))))) (.seq (.reg [M 162 9,⟨(some 163),(.bld [(.int .i64 0),(.int .i64 0),(.int .i64 0),(.int .i64 0),(.int .u64 0)] [⟨0,⟨1,(C 14)⟩⟩,⟨1,⟨1,(T 162)⟩⟩]),none,[]⟩,⟨(some 164),(.bldS 5 54 (.agg [(.int .i64 0),(.int .i64 0),(.int .i64 0),(.int .i64 0),(.int .u64 0)]) 1 [⟨0,(T 163)⟩]),none,[]⟩,⟨(some 8),(.asg (T 164) (some ⟨5,54⟩)),none,[]⟩] false) .ret))))))
theorem AjB : (Tryz.f25.body.bind (Mo Tryz.prog Tryz.f25.ntmps)) = some AgW:=by kernel_rfl
theorem AjC : Tryz.f25.results.toList.mapM (My Tryz.prog) = some [(.t 8)]:=by kernel_rfl
def QP (a : LV × LY × Int × (List Int)) : List D:=[MK a.1,ME a.2.1,.int .i64 a.2.2.1,.sl (a.2.2.2.map LS)]
def Tq (ds : List D) : LV × LY × Int × (List Int):=(Oc (ds.getD 0 .top),Ny (ds.getD 1 .top),uI (ds.getD 2 .top),(uL uI) (ds.getD 3 .top))
theorem Ye (a : LV × LY × Int × (List Int)) : Tq (QP a) = a:=by simp [Tq,QP,uI,Nt (u:=uI) (en:=LS) (fun _=>rfl)]
def YW (b : (List LU) × LV) : D:=.sl (b.1.map LW)
def YV (b : (List LU) × LV) : List D:=[MK b.2]
noncomputable def UO : Dw.Spec:=Ml [(0,(2,56))] (.row 5 54) QP Tq (fun a=>PO a.1 a.2.1 a.2.2.1 a.2.2.2) YW YV
set_option maxHeartbeats 4000000 in
theorem Acn : Mk Tryz.prog 25 UO:=by
 refine Mv (Mp (l:=[(7,MA),(40,UP),(26,Qh)]) (by simp [Nr,Aco,Yd])) Tryz.func25 (by decide) AjB AjC (np:=4) (by decide) Ye (fun _=>r) (fun _=>r) (by decide)<|?_
 rintro ⟨c1,f2,i3,params4⟩
 show TrE (specs [(7,MA),(40,UP),(26,Qh)]) AgW (Mz [(0,(2,56))] (.row 5 54) [(.t 8)] YW YV) ⟨[(0,.optr 8192 0 0 0),(1,.agg [.int .i64 f2.Params,.sl (f2.Slots.map LZ),.sl (f2.Code.map LW)]),(2,.int .i64 i3),(3,.sl (params4.map LS))],[(8192,some (0,⟨false,true,2,56,[.agg [.sl (c1.list.map eU8),.int .i64 c1.at_]]⟩))],262144⟩ (PO c1 f2 i3 params4)
 refine Mq<|?_
 unfold AgW PO
 refine sQ<|rG<|bX r r r r r<|aN (α:=LU) r LW r<|nI<|xS<|sQ<|rG<|mV r r<|bD fun r5 hr5=>cV (c1,4) r r r Mh r r (by simp) r hr5<|aS r r<|nI<|xS<|sQ<|rG<|fA r r<|lO (v:=.sl (f2.Slots.map LZ)) (z:=.agg [.int .i64 f2.Params,.sl (f2.Slots.map LZ),.sl (f2.Code.map LW)]) r r r r r r<|lS r r<|aS r r<|nI<|xS<|sQ<|rG<|mV r r<|bD fun r6 hr6=>cV (r5.2,20) r r r Mh r r (by simp) r hr6<|aS r r<|nI<|xS<|bC (E:=fun (s : Unit) (g : Unit)=>[(9,.int .i64 r5.1)]) (O:=fun s g=>[(8192,some (0,⟨false,true,2,56,[.agg [.sl (r6.2.list.map eU8),.int .i64 r6.2.at_]]⟩))]) (j:=fun s=>TP r5 r6) ?_ ?_
 ·refine sC (E:=fun (s : Bool) (g : Nat)=>[(0,.optr 8192 0 0 0),(2,.int .i64 i3),(3,.sl (params4.map LS)),(5,.optr 5 g 0 0),(9,.int .i64 r5.1),(10,.int .i64 (f2.Slots.length : Int)),(11,.int .i64 r6.1),(23,.bool s)]) (O:=fun s g=>[(5,some (g,⟨false,true,3,33,[.agg [.int .i64 f2.Params,.sl (f2.Slots.map LZ),.sl (f2.Code.map LW)]]⟩)),(8192,some (0,⟨false,true,2,56,[.agg [.sl (r6.2.list.map eU8),.int .i64 r6.2.at_]]⟩))]) (j:=fun s=>OA r6 f2 r5 params4 i3 s) ?_ ?_
  ·refine rG<|mV r r<|bN (v:=.bool (decide (r6.1 < 3))) r r r r r<|mV r r<|sP 26 (b:=(decide (r6.1 < 3))) r ?_ ?_
   ·exact mV r r<|bN (v:=.bool (decide ((f2.Slots.length : Int) > 0))) r r r r r<|pT r r r r<|aS r r<|nI<|xC (s:=(decide ((f2.Slots.length : Int) > 0))) _ ((hE ⟨rfl,r,r,r,r,r,r,r,trivial⟩ ⟨rfl,r,trivial⟩))
   ·exact oF r<|oF r<|pF r r r r<|aS r r<|nI<|xC (s:=false) _ ((hE ⟨rfl,r,r,r,r,r,r,r,trivial⟩ ⟨rfl,r,trivial⟩))
  ·rintro x7 v5x1 nn
   try dsimp only
   unfold OA
   refine cD (c:=x7) r ?_ ?_
   ·refine sQ<|rG<|mV r r<|mV r r<|bD fun r8 hr8=>cV (r6.2,(f2.Slots.length : Int)) r r r Mh r r (by simp) r hr8<|mV r r<|bL (cs:=[.int .i64 16,.int .i64 r8.1,.int .i64 r5.1,.int .i64 0,.int .u64 0]) (ps:=[(0,1,.int .i64 16),(1,1,.int .i64 r8.1),(2,1,.int .i64 r5.1)]) r r r r<|bS ([(LU.mk 16 r8.1 r5.1 0 0)] : List LU) LW r r r (by simp) r r r<|aO (l:=([(LU.mk 16 r8.1 r5.1 0 0)] : List LU)) (en:=LW) r r r r<|nI<|xS<|rT<|yR<|MC (b:=(([(LU.mk 16 r8.1 r5.1 0 0)] : List LU),r8.2)) r ?_ r r ?_ r ?_ (congrArg D.sl (Md _ _ r)) r
    all_goals first|(simp;done)|(simp;omega)|rfl|(simp [Me,Mc];done)
   ·refine sC (E:=fun (s : Bool) (g : Nat)=>[(0,.optr 8192 0 0 0),(2,.int .i64 i3),(3,.sl (params4.map LS)),(5,.optr 5 g 0 0),(9,.int .i64 r5.1),(10,.int .i64 (f2.Slots.length : Int)),(11,.int .i64 r6.1),(36,.bool s)]) (O:=fun s g=>[(5,some (g,⟨false,true,3,33,[.agg [.int .i64 f2.Params,.sl (f2.Slots.map LZ),.sl (f2.Code.map LW)]]⟩)),(8192,some (0,⟨false,true,2,56,[.agg [.sl (r6.2.list.map eU8),.int .i64 r6.2.at_]]⟩))]) (j:=fun s=>OB r6 f2 r5 params4 i3 s) ?_ ?_
    ·refine rG<|mV r r<|bN (v:=.bool (decide (r6.1 < 6))) r r r r r<|mV r r<|sP 39 (b:=(decide (r6.1 < 6))) r ?_ ?_
     ·exact mV r r<|bN (v:=.bool (decide ((f2.Slots.length : Int) > 0))) r r r r r<|pT r r r r<|aS r r<|nI<|xC (s:=(decide ((f2.Slots.length : Int) > 0))) _ ((hE ⟨rfl,r,r,r,r,r,r,r,trivial⟩ ⟨rfl,r,trivial⟩))
     ·exact oF r<|oF r<|pF r r r r<|aS r r<|nI<|xC (s:=false) _ ((hE ⟨rfl,r,r,r,r,r,r,r,trivial⟩ ⟨rfl,r,trivial⟩))
    ·rintro x9 v5x2 nn
     try dsimp only
     unfold OB
     refine cD (c:=x9) r ?_ ?_
     ·refine sQ<|rG<|mV r r<|mV r r<|mV r r<|bD fun r10 hr10=>cV (r6.2,(f2.Slots.length : Int)) r r r Mh r r (by simp) r hr10<|bL (cs:=[.int .i64 15,.int .i64 r5.1,.int .i64 r10.1,.int .i64 0,.int .u64 0]) (ps:=[(0,1,.int .i64 15),(1,1,.int .i64 r5.1),(2,1,.int .i64 r10.1)]) r r r r<|bS ([(LU.mk 15 r5.1 r10.1 0 0)] : List LU) LW r r r (by simp) r r r<|aO (l:=([(LU.mk 15 r5.1 r10.1 0 0)] : List LU)) (en:=LW) r r r r<|nI<|xS<|rT<|yR<|MC (b:=(([(LU.mk 15 r5.1 r10.1 0 0)] : List LU),r10.2)) r ?_ r r ?_ r ?_ (congrArg D.sl (Md _ _ r)) r
      all_goals first|(simp;done)|(simp;omega)|rfl|(simp [Me,Mc];done)
     ·refine sC (E:=fun (s : Bool) (g : Nat)=>[(0,.optr 8192 0 0 0),(2,.int .i64 i3),(3,.sl (params4.map LS)),(5,.optr 5 g 0 0),(9,.int .i64 r5.1),(10,.int .i64 (f2.Slots.length : Int)),(11,.int .i64 r6.1),(49,.bool s)]) (O:=fun s g=>[(5,some (g,⟨false,true,3,33,[.agg [.int .i64 f2.Params,.sl (f2.Slots.map LZ),.sl (f2.Code.map LW)]]⟩)),(8192,some (0,⟨false,true,2,56,[.agg [.sl (r6.2.list.map eU8),.int .i64 r6.2.at_]]⟩))]) (j:=fun s=>OC r6 f2 r5 params4 i3 s) ?_ ?_
      ·refine rG<|mV r r<|bN (v:=.bool (decide (r6.1 < 9))) r r r r r<|mV r r<|sP 52 (b:=(decide (r6.1 < 9))) r ?_ ?_
       ·exact mV r r<|bN (v:=.bool (decide ((f2.Slots.length : Int) > 0))) r r r r r<|pT r r r r<|aS r r<|nI<|xC (s:=(decide ((f2.Slots.length : Int) > 0))) _ ((hE ⟨rfl,r,r,r,r,r,r,r,trivial⟩ ⟨rfl,r,trivial⟩))
       ·exact oF r<|oF r<|pF r r r r<|aS r r<|nI<|xC (s:=false) _ ((hE ⟨rfl,r,r,r,r,r,r,r,trivial⟩ ⟨rfl,r,trivial⟩))
      ·rintro x11 v5x3 nn
       try dsimp only
       unfold OC
       refine cD (c:=x11) r ?_ ?_
       ·refine sQ<|rG<|mV r r<|mV r r<|bD fun r12 hr12=>cV (r6.2,(f2.Slots.length : Int)) r r r Mh r r (by simp) r hr12<|aS r r<|nI<|xS<|sQ<|rG<|mV r r<|lO (v:=.agg [.int .i64 f2.Params,.sl (f2.Slots.map LZ),.sl (f2.Code.map LW)]) (z:=.agg [.int .i64 f2.Params,.sl (f2.Slots.map LZ),.sl (f2.Code.map LW)]) r r r r r r<|mV r r<|bD fun r13 hr13=>cV (r12.2,f2,r12.1) r r r Yf r r (by simp) r hr13<|mV r r<|bL (cs:=[.int .i64 17,.int .i64 r13.1,.int .i64 r12.1,.int .i64 0,.int .u64 0]) (ps:=[(0,1,.int .i64 17),(1,1,.int .i64 r13.1),(2,1,.int .i64 r12.1)]) r r r r<|bS ([(LU.mk 17 r13.1 r12.1 0 0)] : List LU) LW r r r (by simp) r r r<|aO (l:=([(LU.mk 17 r13.1 r12.1 0 0)] : List LU)) (en:=LW) r r r r<|nI<|xS<|rT<|yR<|MC (b:=(([(LU.mk 17 r13.1 r12.1 0 0)] : List LU),r13.2)) r ?_ r r ?_ r ?_ (congrArg D.sl (Md _ _ r)) r
        all_goals first|(simp;done)|(simp;omega)|rfl|(simp [Me,Mc];done)
       ·refine sQ<|rG<|mV r r<|bN (v:=.bool (decide (r6.1 < 11))) r r r r r<|aS r r<|nI<|xS<|cD (c:=(decide (r6.1 < 11))) r ?_ ?_
        ·refine sQ<|rG<|mV r r<|mV r r<|bD fun r14 hr14=>cV r6.2 r r r TO r r (by simp) r hr14<|bL (cs:=[.int .i64 0,.int .i64 r5.1,.int .i64 0,.int .i64 0,.int .u64 r14.1]) (ps:=[(0,1,.int .i64 0),(1,1,.int .i64 r5.1),(4,1,.int .u64 r14.1)]) r r r r<|bS ([(LU.mk 0 r5.1 0 0 r14.1)] : List LU) LW r r r (by simp) r r r<|aO (l:=([(LU.mk 0 r5.1 0 0 r14.1)] : List LU)) (en:=LW) r r r r<|nI<|xS<|rT<|yR<|MC (b:=(([(LU.mk 0 r5.1 0 0 r14.1)] : List LU),r14.2)) r ?_ r r ?_ r ?_ (congrArg D.sl (Md _ _ r)) r
         all_goals first|(simp;done)|(simp;omega)|rfl|(simp [Me,Mc];done)
        ·refine sQ<|rG<|mV r r<|bN (v:=.bool (decide (r6.1 < 13))) r r r r r<|aS r r<|nI<|xS<|cD (c:=(decide (r6.1 < 13))) r ?_ ?_
         ·refine sQ<|rG<|mV r r<|bD fun r15 hr15=>cV (r6.2,10) r r r Mh r r (by simp) r hr15<|bN (v:=.int .i64 (IntKind.i64.wrap (2 + r15.1))) r r r r r<|mV r r<|mV r r<|bD fun r16 hr16=>cV (r15.2,4) r r r Mh r r (by simp) r hr16<|mV r r<|bD fun r17 hr17=>cV (r16.2,8) r r r Mh r r (by simp) r hr17<|bL (cs:=[.int .i64 (IntKind.i64.wrap (2 + r15.1)),.int .i64 r5.1,.int .i64 r16.1,.int .i64 r17.1,.int .u64 0]) (ps:=[(0,1,.int .i64 (IntKind.i64.wrap (2 + r15.1))),(1,1,.int .i64 r5.1),(2,1,.int .i64 r16.1),(3,1,.int .i64 r17.1)]) r r r r<|bS ([(LU.mk (IntKind.i64.wrap (2 + r15.1)) r5.1 r16.1 r17.1 0)] : List LU) LW r r r (by simp) r r r<|aO (l:=([(LU.mk (IntKind.i64.wrap (2 + r15.1)) r5.1 r16.1 r17.1 0)] : List LU)) (en:=LW) r r r r<|nI<|xS<|rT<|yR<|MC (b:=(([(LU.mk (IntKind.i64.wrap (2 + r15.1)) r5.1 r16.1 r17.1 0)] : List LU),r17.2)) r ?_ r r ?_ r ?_ (congrArg D.sl (Md _ _ r)) r
          all_goals first|(simp;done)|(simp;omega)|rfl|(simp [Me,Mc];done)
         ·refine sQ<|rG<|mV r r<|bN (v:=.bool (decide (r6.1 < 15))) r r r r r<|aS r r<|nI<|xS<|cD (c:=(decide (r6.1 < 15))) r ?_ ?_
          ·refine sQ<|rG<|mV r r<|bL (cs:=[.int .i64 14,.int .i64 r5.1,.int .i64 0,.int .i64 0,.int .u64 0]) (ps:=[(0,1,.int .i64 14),(1,1,.int .i64 r5.1)]) r r r r<|bS ([(LU.mk 14 r5.1 0 0 0)] : List LU) LW r r r (by simp) r r r<|aO (l:=([(LU.mk 14 r5.1 0 0 0)] : List LU)) (en:=LW) r r r r<|nI<|xS<|rT<|yR<|MC (b:=(([(LU.mk 14 r5.1 0 0 0)] : List LU),r6.2)) r ?_ r r ?_ r ?_ (congrArg D.sl (Md _ _ r)) r
           all_goals first|(simp;done)|(simp;omega)|rfl|(simp [Me,Mc];done)
          ·refine sQ<|rG<|mV r r<|bN (v:=.bool (r6.1 == 15)) r r r r r<|aS r r<|nI<|xS<|cD (c:=(r6.1 == 15)) r ?_ ?_
           ·refine sQ<|rG<|bS ([13,12,1] : List Int) LS r r r (by simp) r r r<|mV r r<|bD fun r18 hr18=>cV (r6.2,3) r r r Mh r r (by simp) r hr18<|cK fun hq=>iO (l:=([13,12,1] : List Int)) (en:=LS) r r r r r hq<|bD fun x_e19 hx_e19=>lO (v:=.int .i64 x_e19) (z:=LS x_e19) r r r (Nn hx_e19) r r<|mV r r<|bL (cs:=[.int .i64 x_e19,.int .i64 r5.1,.int .i64 0,.int .i64 0,.int .u64 0]) (ps:=[(0,1,.int .i64 x_e19),(1,1,.int .i64 r5.1)]) r r r r<|bS ([(LU.mk x_e19 r5.1 0 0 0)] : List LU) LW r r r (by simp) r r r<|aO (l:=([(LU.mk x_e19 r5.1 0 0 0)] : List LU)) (en:=LW) r r r r<|nI<|xS<|rT<|yR<|MC (b:=(([(LU.mk x_e19 r5.1 0 0 0)] : List LU),r18.2)) r ?_ r r ?_ r ?_ (congrArg D.sl (Md _ _ r)) r
            all_goals first|(simp;done)|(simp;omega)|rfl|(simp [Me,Mc];done)
           ·refine sC (E:=fun (s : Bool) (g : Nat)=>[(0,.optr 8192 0 0 0),(2,.int .i64 i3),(3,.sl (params4.map LS)),(5,.optr 5 g 0 0),(9,.int .i64 r5.1),(11,.int .i64 r6.1),(104,.bool s)]) (O:=fun s g=>[(5,some (g,⟨false,true,3,33,[.agg [.int .i64 f2.Params,.sl (f2.Slots.map LZ),.sl (f2.Code.map LW)]]⟩)),(8192,some (0,⟨false,true,2,56,[.agg [.sl (r6.2.list.map eU8),.int .i64 r6.2.at_]]⟩))]) (j:=fun s=>OD r6 f2 r5 params4 i3 s) ?_ ?_
            ·refine rG<|mV r r<|bN (v:=.bool (r6.1 == 16)) r r r r r<|mV r r<|sP 107 (b:=(r6.1 == 16)) r ?_ ?_
             ·exact fA r r<|lO (v:=.int .i64 f2.Params) (z:=.agg [.int .i64 f2.Params,.sl (f2.Slots.map LZ),.sl (f2.Code.map LW)]) r r r r r r<|bN (v:=.bool (decide (f2.Params > 0))) r r r r r<|pT r r r r<|aS r r<|nI<|xC (s:=(decide (f2.Params > 0))) _ ((hE ⟨rfl,r,r,r,r,r,r,trivial⟩ ⟨rfl,r,trivial⟩))
             ·exact oF r<|oF r<|oF r<|pF r r r r<|aS r r<|nI<|xC (s:=false) _ ((hE ⟨rfl,r,r,r,r,r,r,trivial⟩ ⟨rfl,r,trivial⟩))
            ·rintro x20 v5x4 nn
             try dsimp only
             unfold OD
             refine cD (c:=x20) r ?_ ?_
             ·refine sQ<|rG<|mV r r<|mV r r<|fA r r<|lO (v:=.int .i64 f2.Params) (z:=.agg [.int .i64 f2.Params,.sl (f2.Slots.map LZ),.sl (f2.Code.map LW)]) r r r r r r<|bD fun r21 hr21=>cV (r6.2,f2.Params) r r r Mh r r (by simp) r hr21<|bL (cs:=[.int .i64 19,.int .i64 r5.1,.int .i64 r21.1,.int .i64 0,.int .u64 0]) (ps:=[(0,1,.int .i64 19),(1,1,.int .i64 r5.1),(2,1,.int .i64 r21.1)]) r r r r<|bS ([(LU.mk 19 r5.1 r21.1 0 0)] : List LU) LW r r r (by simp) r r r<|aO (l:=([(LU.mk 19 r5.1 r21.1 0 0)] : List LU)) (en:=LW) r r r r<|nI<|xS<|rT<|yR<|MC (b:=(([(LU.mk 19 r5.1 r21.1 0 0)] : List LU),r21.2)) r ?_ r r ?_ r ?_ (congrArg D.sl (Md _ _ r)) r
              all_goals first|(simp;done)|(simp;omega)|rfl|(simp [Me,Mc];done)
             ·refine sC (E:=fun (s : Bool) (g : Unit)=>[(0,.optr 8192 0 0 0),(2,.int .i64 i3),(3,.sl (params4.map LS)),(9,.int .i64 r5.1),(119,.bool s)]) (O:=fun s g=>[(8192,some (0,⟨false,true,2,56,[.agg [.sl (r6.2.list.map eU8),.int .i64 r6.2.at_]]⟩))]) (j:=fun s=>OE r6 params4 i3 r5 s) ?_ ?_
              ·refine rG<|mV r r<|bN (v:=.bool (decide (r6.1 ≥ 17))) r r r r r<|mV r r<|sP 122 (b:=(decide (r6.1 ≥ 17))) r ?_ ?_
               ·exact mV r r<|bN (v:=.int .i64 (IntKind.i64.wrap (i3 + 1))) r r r r r<|mV r r<|lS r r<|bN (v:=.bool (decide ((IntKind.i64.wrap (i3 + 1)) < (params4.length : Int)))) r r r r r<|pT r r r r<|aS r r<|nI<|xC (s:=(decide ((IntKind.i64.wrap (i3 + 1)) < (params4.length : Int)))) () ((hE ⟨rfl,r,r,r,r,trivial⟩ ⟨rfl,trivial⟩))
               ·exact oF r<|oF r<|oF r<|oF r<|oF r<|pF r r r r<|aS r r<|nI<|xC (s:=false) () ((hE ⟨rfl,r,r,r,r,trivial⟩ ⟨rfl,trivial⟩))
              ·rintro x22 ⟨⟩ nn
               try dsimp only
               unfold OE
               refine cD (c:=x22) r ?_ ?_
               ·refine sQ<|rG<|mV r r<|bN (v:=.int .i64 (IntKind.i64.wrap (i3 + 1))) r r r r r<|mV r r<|mV r r<|lS r r<|mV r r<|bN (v:=.int .i64 (IntKind.i64.wrap ((params4.length : Int) - i3))) r r r r r<|bN (v:=.int .i64 (IntKind.i64.wrap ((IntKind.i64.wrap ((params4.length : Int) - i3)) - 1))) r r r r r<|bD fun r23 hr23=>cV (r6.2,IntKind.i64.wrap ((IntKind.i64.wrap ((params4.length : Int) - i3)) - 1)) r r r Mh r r (by simp) r hr23<|bN (v:=.int .i64 (IntKind.i64.wrap ((IntKind.i64.wrap (i3 + 1)) + r23.1))) r r r r r<|aS r r<|nI<|xS<|sQ<|rG<|aN (α:=LU) r LW r<|nI<|xS<|sQ<|sQ<|rG<|aS r r<|nI<|xS<|bK<|lP (E:=fun (s : (List Int) × Int × (List LU) × Int) (g : Nat)=>[(0,.optr 8192 0 0 0),(3,.sl (params4.map LS)),(13,.int .i64 (IntKind.i64.wrap ((IntKind.i64.wrap (i3 + 1)) + r23.1))),(14,.osl 14 g 0 s.2.2.1.length),(15,.int .i64 s.2.2.2)]) (O:=fun s g=>[(14,some (g,⟨false,false,5,54,s.2.2.1.map LW⟩)),(8192,some (0,⟨false,true,2,56,[.agg [.sl (s.1.map eU8),.int .i64 s.2.1]]⟩))]) (body:=fun s=>Rm params4 i3 r23 s.1 s.2.1 s.2.2.1 s.2.2.2) (s:=(r23.2.list,r23.2.at_,([] : List LU),0)) _ ((hE ⟨rfl,r,r,r,r,trivial⟩ ⟨rfl,r,trivial⟩))<|?_
                rintro ⟨c24,c25,out26,a27⟩ v14x6 nn
                try dsimp only
                unfold Rm
                refine sQ<|sQ<|rG<|mV r r<|mV r r<|mV r r<|bD fun x_x28 hx_x28=>iS (en:=LS) r r r hx_x28 r<|lF (v:=.int .i64 x_x28) r r r r<|bN (v:=.bool (decide (a27 < x_x28))) r r r r r<|nI<|xS<|cD (c:=(decide (a27 < x_x28))) r ?_ ?_
                ·refine sK<|xS<|sQ<|bK<|sQ<|rG<|mV r r<|bD fun r29 hr29=>cV ((LV.mk c24 c25),8) r r r Mh r r (by simp) r hr29<|bN (v:=.bool (decide (r29.1 < 7))) r r r r r<|nI<|xS<|cD (c:=(decide (r29.1 < 7))) r ?_ ?_
                 ·exact rG<|mV r r<|mV r r<|mV r r<|bD fun r30 hr30=>cV (r29.2,4) r r r Mh r r (by simp) r hr30<|bL (cs:=[.int .i64 18,.int .i64 a27,.int .i64 r30.1,.int .i64 0,.int .u64 0]) (ps:=[(0,1,.int .i64 18),(1,1,.int .i64 a27),(2,1,.int .i64 r30.1)]) r r r r<|bS ([(LU.mk 18 a27 r30.1 0 0)] : List LU) LW r r r (by simp) r r r<|cK fun hq=>aP (out26) (([(LU.mk 18 a27 r30.1 0 0)] : List LU)) LW r r r r r r r (by simp) (Mu _ _ r) r r (by simp) (Md _ _ r) (fun _=>r) r hq<|aO (l:=out26 ++ ([(LU.mk 18 a27 r30.1 0 0)] : List LU)) (en:=LW) r r r r<|nI<|bM<|xS<|rG<|mV r r<|bN (v:=.int .i64 (IntKind.i64.wrap (a27 + 1))) r r r r r<|aS r r<|nI<|xL (s:=(r30.2.list,r30.2.at_,out26 ++ ([(LU.mk 18 a27 r30.1 0 0)] : List LU),IntKind.i64.wrap (a27 + 1))) _ ((hE ⟨rfl,r,r,r,r,trivial⟩ ⟨rfl,r,trivial⟩))
                 ·exact sK<|bM<|xS<|rG<|mV r r<|bN (v:=.int .i64 (IntKind.i64.wrap (a27 + 1))) r r r r r<|aS r r<|nI<|xL (s:=(r29.2.list,r29.2.at_,out26,IntKind.i64.wrap (a27 + 1))) _ ((hE ⟨rfl,r,r,r,r,trivial⟩ ⟨rfl,r,trivial⟩))
                ·refine eT<|xE<|lE<|bH<|xS<|sQ<|rG<|mV r r<|mV r r<|bL (cs:=[.int .i64 22,.int .i64 (IntKind.i64.wrap ((IntKind.i64.wrap (i3 + 1)) + r23.1)),.int .i64 0,.int .i64 0,.int .u64 0]) (ps:=[(0,1,.int .i64 22),(1,1,.int .i64 (IntKind.i64.wrap ((IntKind.i64.wrap (i3 + 1)) + r23.1)))]) r r r r<|bS ([(LU.mk 22 (IntKind.i64.wrap ((IntKind.i64.wrap (i3 + 1)) + r23.1)) 0 0 0)] : List LU) LW r r r (by simp) r r r<|cK fun hq=>aP (out26) (([(LU.mk 22 (IntKind.i64.wrap ((IntKind.i64.wrap (i3 + 1)) + r23.1)) 0 0 0)] : List LU)) LW r r r r r r r (by simp) (Mu _ _ r) r r (by simp) (Md _ _ r) (fun _=>r) r hq<|aO (l:=out26 ++ ([(LU.mk 22 (IntKind.i64.wrap ((IntKind.i64.wrap (i3 + 1)) + r23.1)) 0 0 0)] : List LU)) (en:=LW) r r r r<|nI<|xS<|rT<|yR<|MC (b:=(out26 ++ ([(LU.mk 22 (IntKind.i64.wrap ((IntKind.i64.wrap (i3 + 1)) + r23.1)) 0 0 0)] : List LU),(LV.mk c24 c25))) r ?_ r r ?_ r ?_ (congrArg D.sl (Md _ _ r)) r
                 all_goals first|(simp;done)|(simp;omega)|rfl|(simp [Me,Mc];done)
               ·exact sK<|NM (s:=()) () ((hE ⟨rfl,trivial⟩ ⟨rfl,trivial⟩))
 ·rintro ⟨⟩ ⟨⟩ nn
  try dsimp only
  unfold TP
  refine sQ<|rG<|mV r r<|bL (cs:=[.int .i64 14,.int .i64 r5.1,.int .i64 0,.int .i64 0,.int .u64 0]) (ps:=[(0,1,.int .i64 14),(1,1,.int .i64 r5.1)]) r r r r<|bS ([(LU.mk 14 r5.1 0 0 0)] : List LU) LW r r r (by simp) r r r<|aO (l:=([(LU.mk 14 r5.1 0 0 0)] : List LU)) (en:=LW) r r r r<|nI<|xS<|rT<|MC (b:=(([(LU.mk 14 r5.1 0 0 0)] : List LU),r6.2)) r ?_ r r ?_ r ?_ (congrArg D.sl (Md _ _ r)) r
  all_goals first|(simp;done)|(simp;omega)|rfl|(simp [Me,Mc];done)

end Go.Proofs.YtfpgidpffhmadaaGreatDoor
