/-
  Programs on typed data, and the proofs that the code does what they say; written by a program (dx.py).
-/
import Derived.Test.YtfpgidpffhmadaaDoorProg
import Derived.Test.YtfpgidpffhmadaaDoorDc
import Derived.KernelRfl
import Derived.Test.YtfpgidpffhmadaaDoorDxP
import Derived.Test.YtfpgidpffhmadaaDoorDxF2
namespace Go.Proofs.YtfpgidpffhmadaaDoor
open Go Go.Dw Go.Proofs
set_option maxRecDepth 100000
open Go.Dw renaming Aak → mV,Yj → bN,Sn → lO,WN → bD,Ym → cK,Yo → nI,Yr → xS,Aam → rG,Aao → sQ,SI → aO,Yi → aS,Yp → oF,Yk → bL,Zb → bS,RN → cV,PM → cG,Aaj → aP,So → sV,TX → iS,UB → iO,TY → lS,WT → lW,WO → fA,Yg → fF,AbN → eX,AbF → nC,UZ → lF,Vo → sP,QU → pT,Qp → pF,Aal → uN,Adb → cT,Yn → nW,Yl → bX,SH → aN,Ys → cD,WR → bK,Aan → rT,Yv → sK,Yt → eT,Yq → xC,WQ → xL,SK → xR,AbG → yR,WU → zR,Vj → hE,QV → lE,RP → bH,Qq → bM,SJ → bR,RQ → xE,Yu → lP,TZ → sC,WS → bC,rf → r
def Afq : Ml:=(.seq (.reg [P 3 (.box (T 0) 3 33),P 4 (.box (T 1) 1 37),P 5 (.box (T 2) 2 45),P 6 (.asg (C 0) none)] false) (.seq (.seq (.reg [P 10 (.ld 3 true (T 3)),P 11 (.ld 1 true (T 4)),P 12 (.call (.c (.clo 23 [])) [(T 10),(T 11)]),P 13 (.bin .neq (T 12) (C 0))] false) (.cond (T 13) (.seq (.reg [P 6 (.asg (C 11) none)] false) .ret) .skip)) (.seq (.seq (.reg [P 14 (.ld 3 true (T 3)),P 15 (.ld 2 true (T 5)),P 16 (.call (.c (.clo 24 [])) [(T 14),(T 15)]),P 17 (.bin .neq (T 16) (C 0))] false) (.cond (T 17) (.seq (.reg [P 6 (.asg (C 12) none)] false) .ret) .skip)) (.seq (.seq (.reg [P 19 (.ld 3 true (T 3)),P 20 (.ld 1 true (T 4)),P 21 (.ld 2 true (T 5)),P 22 (.call (.c (.clo 25 [])) [(T 19),(T 20),(T 21)]),M 18 22,P 23 (.ext (T 18) 0),P 24 (.ext (T 18) 1),P 25 (.ext (T 18) 2),P 7 (.asg (T 23) none),P 8 (.asg (T 24) none),P 9 (.asg (T 25) none)] false) (.seq (.reg [M 26 9] false) (.cond (T 26) (.seq (.reg [P 6 (.asg (C 12) none)] false) .ret) .skip))) (.seq (.reg [P 6 (.asg (C 0) none)] false) .ret)))))
theorem AhA : (Tryd.f11.body.bind (Mn Tryd.prog Tryd.f11.ntmps)) = some Afq:=by kernel_rfl
theorem AhB : Tryd.f11.results.toList.mapM (Mw Tryd.prog) = some [(.t 6)]:=by kernel_rfl
def NX (a : LX × Me × MD) : List D:=[MF a.1,Nl a.2.1,Sw a.2.2]
def TL (ds : List D) : LX × Me × MD:=(NJ (ds.getD 0 .top),Pb (ds.getD 1 .top),Yw (ds.getD 2 .top))
theorem Qa (a : LX × Me × MD) : TL (NX a) = a:=by simp [TL,NX]
def Zf (b : Int) : D:=.int .i64 b
def Ze (_b : Int) : List D:=[]
noncomputable def Qx : Dw.Spec:=Mk [] .ground NX TL (fun a=>Oc a.1 a.2.1 a.2.2) Zf Ze
set_option maxHeartbeats 4000000 in
theorem Yd : Mi Tryd.prog 11 Qx:=by
 refine Mu (Mo (l:=[(23,PY),(24,Rg),(25,Te)]) (by simp [Xg,YY,AaB])) Tryd.func11 (by decide) AhA AhB (np:=3) (by decide) Qa (fun _=>r) (fun _=>r) (by decide)<|?_
 rintro ⟨f1,l2,r3⟩
 show TrE (specs [(23,PY),(24,Rg),(25,Te)]) Afq (Mx [] .ground [(.t 6)] Zf Ze) ⟨[(0,.agg [.int .i64 f1.Params,.sl (f1.Slots.map LY),.sl (f1.Code.map LV)]),(1,.agg [.sl (l2.Out.map (eL LR))]),(2,.agg [.sl (r3.To.map LR),.sl (r3.Keep.map D.bool)])],[],262144⟩ (Oc f1 l2 r3)
 refine Mp<|?_
 unfold Afq Oc
 refine sQ<|rG<|bX r r r r r<|bX r r r r r<|bX r r r r r<|aS r r<|nI<|xS<|sQ<|sQ<|rG<|lO (v:=.agg [.int .i64 f1.Params,.sl (f1.Slots.map LY),.sl (f1.Code.map LV)]) (z:=.agg [.int .i64 f1.Params,.sl (f1.Slots.map LY),.sl (f1.Code.map LV)]) r r r r r r<|lO (v:=.agg [.sl (l2.Out.map (eL LR))]) (z:=.agg [.sl (l2.Out.map (eL LR))]) r r r r r r<|bD fun r4 hr4=>cG (f1,l2) r r r Ty r r (by simp) r hr4 r<|bN (v:=.bool (r4 != 0)) r r r r r<|nI<|xS<|cD (c:=(r4 != 0)) r ?_ ?_
 ·refine sQ<|rG<|aS r r<|nI<|xS<|rT<|xR<|Mf (b:=11) r ?_ r r ?_ r
  all_goals first|(simp;done)|(simp;omega)|rfl|(simp [Ma,LZ];done)
 ·refine sK<|xS<|sQ<|sQ<|rG<|lO (v:=.agg [.int .i64 f1.Params,.sl (f1.Slots.map LY),.sl (f1.Code.map LV)]) (z:=.agg [.int .i64 f1.Params,.sl (f1.Slots.map LY),.sl (f1.Code.map LV)]) r r r r r r<|lO (v:=.agg [.sl (r3.To.map LR),.sl (r3.Keep.map D.bool)]) (z:=.agg [.sl (r3.To.map LR),.sl (r3.Keep.map D.bool)]) r r r r r r<|bD fun r5 hr5=>cG (f1,r3) r r r UX r r (by simp) r hr5 r<|bN (v:=.bool (r5 != 0)) r r r r r<|nI<|xS<|cD (c:=(r5 != 0)) r ?_ ?_
  ·refine sQ<|rG<|aS r r<|nI<|xS<|rT<|xR<|Mf (b:=12) r ?_ r r ?_ r
   all_goals first|(simp;done)|(simp;omega)|rfl|(simp [Ma,LZ];done)
  ·refine sK<|xS<|sQ<|sQ<|rG<|lO (v:=.agg [.int .i64 f1.Params,.sl (f1.Slots.map LY),.sl (f1.Code.map LV)]) (z:=.agg [.int .i64 f1.Params,.sl (f1.Slots.map LY),.sl (f1.Code.map LV)]) r r r r r r<|lO (v:=.agg [.sl (l2.Out.map (eL LR))]) (z:=.agg [.sl (l2.Out.map (eL LR))]) r r r r r r<|lO (v:=.agg [.sl (r3.To.map LR),.sl (r3.Keep.map D.bool)]) (z:=.agg [.sl (r3.To.map LR),.sl (r3.Keep.map D.bool)]) r r r r r r<|bD fun r6 hr6=>cG (f1,l2,r3) r r r Wa r r (by simp) r hr6 r<|mV r r<|eX (v:=.int .i64 r6.1) r r r<|eX (v:=.int .i64 r6.2.1) r r r<|eX (v:=.bool r6.2.2) r r r<|aS r r<|aS r r<|aS r r<|nI<|xS<|sQ<|rG<|mV r r<|nI<|xS<|cD (c:=r6.2.2) r ?_ ?_
   ·refine sQ<|rG<|aS r r<|nI<|xS<|rT<|xR<|Mf (b:=12) r ?_ r r ?_ r
    all_goals first|(simp;done)|(simp;omega)|rfl|(simp [Ma,LZ];done)
   ·refine sK<|xS<|sQ<|rG<|aS r r<|nI<|xS<|rT<|Mf (b:=0) r ?_ r r ?_ r
    all_goals first|(simp;done)|(simp;omega)|rfl|(simp [Ma,LZ];done)

def dc5 : Ml:=(.seq (.reg [P 0 (.asg (.c (.bool false)) none)] false) (.seq (.reg [⟨(some 4),(.bld [(.int .i64 0),(.int .i64 0)] [⟨0,⟨1,(C 8)⟩⟩,⟨1,⟨1,(C 8)⟩⟩]),none,[]⟩,⟨(some 5),(.bld [(.int .i64 0),(.int .i64 0)] [⟨0,⟨1,(C 8)⟩⟩,⟨1,⟨1,(C 8)⟩⟩]),none,[]⟩,⟨(some 6),(.bldS 2 48 (.agg [(.int .i64 0),(.int .i64 0)]) 2 [⟨0,(T 4)⟩,⟨1,(T 5)⟩]),none,[]⟩,⟨(some 7),(.bld [(.int .i64 0),(.int .i64 0),(.int .i64 0),(.int .i64 0),(.int .u64 0)] [⟨0,⟨1,(C 16)⟩⟩]),none,[]⟩,⟨(some 8),(.bld [(.int .i64 0),(.int .i64 0),(.int .i64 0),(.int .i64 0),(.int .u64 0)] [⟨0,⟨1,(C 16)⟩⟩,⟨1,⟨1,(C 1)⟩⟩]),none,[]⟩,⟨(some 9),(.bld [(.int .i64 0),(.int .i64 0),(.int .i64 0),(.int .i64 0),(.int .u64 0)] [⟨0,⟨1,(C 15)⟩⟩]),none,[]⟩,⟨(some 10),(.bld [(.int .i64 0),(.int .i64 0),(.int .i64 0),(.int .i64 0),(.int .u64 0)] [⟨0,⟨1,(C 23)⟩⟩]),none,[]⟩,⟨(some 11),(.bldS 5 57 (.agg [(.int .i64 0),(.int .i64 0),(.int .i64 0),(.int .i64 0),(.int .u64 0)]) 4 [⟨0,(T 7)⟩,⟨1,(T 8)⟩,⟨2,(T 9)⟩,⟨3,(T 10)⟩]),none,[]⟩,⟨(some 12),(.bld [(.int .i64 0),.nils,.nils] [⟨1,⟨1,(T 6)⟩⟩,⟨2,⟨1,(T 11)⟩⟩]),none,[]⟩,P 1 (.new (.agg [(.int .i64 0),.nils,.nils]) 3 33),⟨none,(.st 3 (T 1) (T 12)),none,[]⟩] false) (.seq (.reg [⟨(some 13),(.bldS 1 3 (.int .i64 0) 1 [⟨0,(C 0)⟩]),none,[]⟩,⟨(some 14),(.bldS 1 3 (.int .i64 0) 1 [⟨0,(C 0)⟩]),none,[]⟩,P 15 (.bldS 1 3 (.int .i64 0) 0 []),P 16 (.bldS 1 3 (.int .i64 0) 0 []),⟨(some 17),(.bldS 1 42 (.sl []) 4 [⟨0,(T 13)⟩,⟨1,(T 14)⟩,⟨2,(T 15)⟩,⟨3,(T 16)⟩]),none,[]⟩,⟨(some 18),(.bld [.nils] [⟨0,⟨1,(T 17)⟩⟩]),none,[]⟩,P 2 (.new (.agg [.nils]) 1 37),⟨none,(.st 1 (T 2) (T 18)),none,[]⟩] false) (.seq (.reg [⟨(some 19),(.bldS 1 4 (.bool false) 4 [⟨0,(.c (.bool true))⟩,⟨1,(.c (.bool true))⟩,⟨2,(.c (.bool true))⟩,⟨3,(.c (.bool true))⟩]),none,[]⟩,⟨(some 3),(.asg (T 19) (some ⟨1,4⟩)),none,[]⟩] false) (.seq (.reg [P 20 (.ld 3 true (T 1)),P 21 (.ld 1 true (T 2)),⟨(some 22),(.bldS 1 3 (.int .i64 0) 2 [⟨0,(C 0)⟩,⟨1,(C 1)⟩]),none,[]⟩,M 23 3,⟨(some 24),(.bld [.nils,.nils] [⟨0,⟨1,(T 22)⟩⟩,⟨1,⟨1,(T 23)⟩⟩]),none,[]⟩,P 25 (.call (.c (.clo 11 [])) [(T 20),(T 21),(T 24)]),P 26 (.bin .eql (T 25) (C 0)),M 27 26,⟨(some 28),(.ld 3 true (T 1)),(some ⟨27,true⟩),[]⟩,⟨(some 29),(.ld 1 true (T 2)),(some ⟨27,true⟩),[]⟩,⟨(some 30),(.bldS 1 3 (.int .i64 0) 2 [⟨0,(C 0)⟩,⟨1,(C 0)⟩]),(some ⟨27,true⟩),[]⟩,⟨(some 31),(.mv (T 3)),(some ⟨27,true⟩),[]⟩,⟨(some 32),(.bld [.nils,.nils] [⟨0,⟨1,(T 30)⟩⟩,⟨1,⟨1,(T 31)⟩⟩]),(some ⟨27,true⟩),[]⟩,⟨(some 33),(.call (.c (.clo 11 [])) [(T 28),(T 29),(T 32)]),(some ⟨27,true⟩),[]⟩,⟨(some 34),(.bin .eql (T 33) (C 12)),(some ⟨27,true⟩),[]⟩,P 35 (.pick (T 27) (T 34) (.c (.bool false))),P 0 (.asg (T 35) none)] false) .ret)))))
theorem Akf : (Tryd.f5.body.bind (Mn Tryd.prog Tryd.f5.ntmps)) = some dc5:=by kernel_rfl
theorem Akg : Tryd.f5.results.toList.mapM (Mw Tryd.prog) = some [(.t 0)]:=by kernel_rfl
def VE (a : Unit) : List D:=[]
def VD (ds : List D) : Unit:=()
theorem ZY (a : Unit) : VD (VE a) = a:=by simp [VD,VE]
def AaF (b : Bool) : D:=.bool b
def AaE (_b : Bool) : List D:=[]
noncomputable def Xs : Dw.Spec:=Mk [] .ground VE VD (fun a=>Sx) AaF AaE
set_option maxHeartbeats 4000000 in
theorem AcR : Mi Tryd.prog 5 Xs:=by
 refine Mu (Mo (l:=[(11,Qx)]) (by simp [Yd])) Tryd.func5 (by decide) Akf Akg (np:=0) (by decide) ZY (fun _=>r) (fun _=>r) (by decide)<|?_
 intro _
 show TrE (specs [(11,Qx)]) dc5 (Mx [] .ground [(.t 0)] AaF AaE) ⟨[],[],262144⟩ (Sx)
 refine Mp<|?_
 unfold dc5 Sx
 refine sQ<|rG<|aS r r<|nI<|xS<|sQ<|rG<|bL (cs:=[.int .i64 8,.int .i64 8]) (ps:=[(0,1,.int .i64 8),(1,1,.int .i64 8)]) r r r r<|bL (cs:=[.int .i64 8,.int .i64 8]) (ps:=[(0,1,.int .i64 8),(1,1,.int .i64 8)]) r r r r<|bS ([(Mq.mk 8 8),(Mq.mk 8 8)] : List Mq) LY r r r (by simp) r r r<|bL (cs:=[.int .i64 16,.int .i64 0,.int .i64 0,.int .i64 0,.int .u64 0]) (ps:=[(0,1,.int .i64 16)]) r r r r<|bL (cs:=[.int .i64 16,.int .i64 1,.int .i64 0,.int .i64 0,.int .u64 0]) (ps:=[(0,1,.int .i64 16),(1,1,.int .i64 1)]) r r r r<|bL (cs:=[.int .i64 15,.int .i64 0,.int .i64 0,.int .i64 0,.int .u64 0]) (ps:=[(0,1,.int .i64 15)]) r r r r<|bL (cs:=[.int .i64 23,.int .i64 0,.int .i64 0,.int .i64 0,.int .u64 0]) (ps:=[(0,1,.int .i64 23)]) r r r r<|bS ([(LS.mk 16 0 0 0 0),(LS.mk 16 1 0 0 0),(LS.mk 15 0 0 0 0),(LS.mk 23 0 0 0 0)] : List LS) LV r r r (by simp) r r r<|bL (cs:=[.int .i64 0,.osl 6 _ 0 (([(Mq.mk 8 8),(Mq.mk 8 8)] : List Mq).length),.osl 11 _ 0 (([(LS.mk 16 0 0 0 0),(LS.mk 16 1 0 0 0),(LS.mk 15 0 0 0 0),(LS.mk 23 0 0 0 0)] : List LS).length)]) (ps:=[(1,1,.osl 6 _ 0 (([(Mq.mk 8 8),(Mq.mk 8 8)] : List Mq).length)),(2,1,.osl 11 _ 0 (([(LS.mk 16 0 0 0 0),(LS.mk 16 1 0 0 0),(LS.mk 15 0 0 0 0),(LS.mk 23 0 0 0 0)] : List LS).length))]) r r r r<|nW r<|sV (z':=.agg [.int .i64 0,.osl 6 _ 0 (([(Mq.mk 8 8),(Mq.mk 8 8)] : List Mq).length),.osl 11 _ 0 (([(LS.mk 16 0 0 0 0),(LS.mk 16 1 0 0 0),(LS.mk 15 0 0 0 0),(LS.mk 23 0 0 0 0)] : List LS).length)]) r r r r r r r r r<|nI<|xS<|sQ<|rG<|bS ([0] : List Int) LR r r r (by simp) r r r<|bS ([0] : List Int) LR r r r (by simp) r r r<|bS (([] : List Int) : List Int) LR r r r (by simp) r r r<|bS (([] : List Int) : List Int) LR r r r (by simp) r r r<|bS ([([0] : List Int),([0] : List Int),([] : List Int),([] : List Int)] : List (List Int)) (eL LR) r r r (by simp) r (by simp [Cy,eL]) r<|bL (cs:=[.osl 17 _ 0 (([([0] : List Int),([0] : List Int),([] : List Int),([] : List Int)] : List (List Int)).length)]) (ps:=[(0,1,.osl 17 _ 0 (([([0] : List Int),([0] : List Int),([] : List Int),([] : List Int)] : List (List Int)).length))]) r r r r<|nW r<|sV (z':=.agg [.osl 17 _ 0 (([([0] : List Int),([0] : List Int),([] : List Int),([] : List Int)] : List (List Int)).length)]) r r r r r r r r r<|nI<|xS<|sQ<|rG<|bS ([true,true,true,true] : List Bool) D.bool r r r (by simp) r r r<|aO (l:=([true,true,true,true] : List Bool)) (en:=D.bool) r r r r<|nI<|xS<|sQ<|rG<|lO (v:=.agg [.int .i64 0,.osl 6 _ 0 (([(Mq.mk 8 8),(Mq.mk 8 8)] : List Mq).length),.osl 11 _ 0 (([(LS.mk 16 0 0 0 0),(LS.mk 16 1 0 0 0),(LS.mk 15 0 0 0 0),(LS.mk 23 0 0 0 0)] : List LS).length)]) (z:=.agg [.int .i64 0,.osl 6 _ 0 (([(Mq.mk 8 8),(Mq.mk 8 8)] : List Mq).length),.osl 11 _ 0 (([(LS.mk 16 0 0 0 0),(LS.mk 16 1 0 0 0),(LS.mk 15 0 0 0 0),(LS.mk 23 0 0 0 0)] : List LS).length)]) r r r r r r<|lO (v:=.agg [.osl 17 _ 0 (([([0] : List Int),([0] : List Int),([] : List Int),([] : List Int)] : List (List Int)).length)]) (z:=.agg [.osl 17 _ 0 (([([0] : List Int),([0] : List Int),([] : List Int),([] : List Int)] : List (List Int)).length)]) r r r r r r<|bS ([0,1] : List Int) LR r r r (by simp) r r r<|mV r r<|bL (cs:=[.osl 22 _ 0 (([0,1] : List Int).length),.osl 3 _ 0 (([true,true,true,true] : List Bool).length)]) (ps:=[(0,1,.osl 22 _ 0 (([0,1] : List Int).length)),(1,1,.osl 3 _ 0 (([true,true,true,true] : List Bool).length))]) r r r r<|bD fun r1 hr1=>cG ((LX.mk 0 ([(Mq.mk 8 8),(Mq.mk 8 8)] : List Mq) ([(LS.mk 16 0 0 0 0),(LS.mk 16 1 0 0 0),(LS.mk 15 0 0 0 0),(LS.mk 23 0 0 0 0)] : List LS)),(Me.mk ([([0] : List Int),([0] : List Int),([] : List Int),([] : List Int)] : List (List Int))),(MD.mk ([0,1] : List Int) ([true,true,true,true] : List Bool))) r r r Qa r r (by simp) (by first | rfl | (simp only [Mt,Mz]; rfl) | simp [NX,MF,Nl,Sw]) hr1 r<|bN (v:=.bool (r1 == 0)) r r r r r<|mV r r<|sP 27 (b:=(r1 == 0)) r ?_ ?_
 ·refine lO (v:=.agg [.int .i64 0,.osl 6 _ 0 (([(Mq.mk 8 8),(Mq.mk 8 8)] : List Mq).length),.osl 11 _ 0 (([(LS.mk 16 0 0 0 0),(LS.mk 16 1 0 0 0),(LS.mk 15 0 0 0 0),(LS.mk 23 0 0 0 0)] : List LS).length)]) (z:=.agg [.int .i64 0,.osl 6 _ 0 (([(Mq.mk 8 8),(Mq.mk 8 8)] : List Mq).length),.osl 11 _ 0 (([(LS.mk 16 0 0 0 0),(LS.mk 16 1 0 0 0),(LS.mk 15 0 0 0 0),(LS.mk 23 0 0 0 0)] : List LS).length)]) r r r r r r<|lO (v:=.agg [.osl 17 _ 0 (([([0] : List Int),([0] : List Int),([] : List Int),([] : List Int)] : List (List Int)).length)]) (z:=.agg [.osl 17 _ 0 (([([0] : List Int),([0] : List Int),([] : List Int),([] : List Int)] : List (List Int)).length)]) r r r r r r<|bS ([0,0] : List Int) LR r r r (by simp) r r r<|mV r r<|bL (cs:=[.osl 30 _ 0 (([0,0] : List Int).length),.osl 3 _ 0 (([true,true,true,true] : List Bool).length)]) (ps:=[(0,1,.osl 30 _ 0 (([0,0] : List Int).length)),(1,1,.osl 3 _ 0 (([true,true,true,true] : List Bool).length))]) r r r r<|bD fun r2 hr2=>cG ((LX.mk 0 ([(Mq.mk 8 8),(Mq.mk 8 8)] : List Mq) ([(LS.mk 16 0 0 0 0),(LS.mk 16 1 0 0 0),(LS.mk 15 0 0 0 0),(LS.mk 23 0 0 0 0)] : List LS)),(Me.mk ([([0] : List Int),([0] : List Int),([] : List Int),([] : List Int)] : List (List Int))),(MD.mk ([0,0] : List Int) ([true,true,true,true] : List Bool))) r r r Qa r r (by simp) (by first | rfl | (simp only [Mt,Mz]; rfl) | simp [NX,MF,Nl,Sw]) hr2 r<|bN (v:=.bool (r2 == 12)) r r r r r<|pT r r r r<|aS r r<|nI<|xS<|rT<|Mf (b:=(r2 == 12)) r ?_ r r ?_ r
  all_goals first|(simp;done)|(simp;omega)|rfl|(simp [Ma,LZ];done)
 ·refine oF r<|oF r<|oF r<|oF r<|oF r<|oF r<|oF r<|pF r r r r<|aS r r<|nI<|xS<|rT<|Mf (b:=false) r ?_ r r ?_ r
  all_goals first|(simp;done)|(simp;omega)|rfl|(simp [Ma,LZ];done)

def dc6 : Ml:=(.seq (.reg [P 4 (.asg (.c .top) none)] false) (.seq (.reg [M 5 0,M 6 0,P 7 (.len false (T 6)),M 8 1,P 9 (.min [(T 7),(T 8)]),P 10 (.slc 1 (T 5) none (some (T 9))),⟨(some 11),(.bld [.nils,(.int .i64 0)] [⟨0,⟨1,(T 10)⟩⟩]),none,[]⟩,P 12 (.box (T 11) 2 59),P 4 (.asg (T 12) none)] false) .ret))
theorem Akh : (Tryd.f6.body.bind (Mn Tryd.prog Tryd.f6.ntmps)) = some dc6:=by kernel_rfl
theorem Aki : Tryd.f6.results.toList.mapM (Mw Tryd.prog) = some [(.t 4)]:=by kernel_rfl
def YG (a : (List Int) × Int) : List D:=[.sl (a.1.map eU8),.int .i64 a.2]
def YF (ds : List D) : (List Int) × Int:=((uL uI) (ds.getD 0 .top),uI (ds.getD 1 .top))
theorem AbY (a : (List Int) × Int) : YF (YG a) = a:=by simp [YF,YG,uI,NF (u:=uI) (en:=eU8) (fun _=>rfl)]
def AcA (b : LU) : D:=MI b
def Acz (_b : LU) : List D:=[]
noncomputable def Aau : Dw.Spec:=Mk [] (.ptr 2 59) YG YF (fun a=>Ws a.1 a.2) AcA Acz
set_option maxHeartbeats 4000000 in
theorem Aeq : Mi Tryd.prog 6 Aau:=by
 refine Mu (Nn) Tryd.func6 (by decide) Akh Aki (np:=2) (by decide) AbY (fun _=>r) (fun _=>r) (by decide)<|?_
 rintro ⟨list1,limit2⟩
 show TrE (specs []) dc6 (Mx [] (.ptr 2 59) [(.t 4)] AcA Acz) ⟨[(0,.sl (list1.map eU8)),(1,.int .i64 limit2)],[],262144⟩ (Ws list1 limit2)
 refine Mp<|?_
 unfold dc6 Ws
 refine sQ<|rG<|aS r r<|nI<|xS<|sQ<|rG<|mV r r<|mV r r<|lS r r<|mV r r<|Ahm r r r<|cK fun hq=>Adt (l:=list1) (en:=eU8) r r r (fun _=>r) r hq<|bL (cs:=[.sl ((list1.take (VF (list1.length : Int) limit2).toNat).map eU8),.int .i64 0]) (ps:=[(0,1,.sl ((list1.take (VF (list1.length : Int) limit2).toNat).map eU8))]) r r r r<|bX r r r r r<|aS r r<|nI<|xS<|rT<|AbM (b:=(LU.mk (list1.take (VF (list1.length : Int) limit2).toNat) 0)) r ?_ r ?_ r r ?_ r
 all_goals first|(simp;done)|(simp;omega)|rfl|(simp [Ma,LZ];done)

def Aft : Ml:=(.seq (.reg [P 2 (.asg (.c (.bool false)) none)] false) (.seq (.reg [M 3 0,⟨(some 4),(.nilck (T 3)),none,[0]⟩,⟨(some 5),(.fldA 1 (T 4)),none,[1]⟩,⟨(some 6),(.ld 1 false (T 5)),none,[2]⟩,M 7 0,⟨(some 8),(.nilck (T 7)),none,[4]⟩,⟨(some 9),(.fldA 0 (T 8)),none,[5]⟩,⟨(some 10),(.ld 1 false (T 9)),none,[6]⟩,⟨(some 11),(.len false (T 10)),none,[7]⟩,⟨(some 12),(.bin .lss (T 6) (T 11)),none,[3,8]⟩,⟨(some 2),(.asg (T 12) none),none,[9,0,1,2,3,4,5,6,7,8,9]⟩] true) .ret))
theorem AhG : (Tryd.f20.body.bind (Mn Tryd.prog Tryd.f20.ntmps)) = some Aft:=by kernel_rfl
theorem AhH : Tryd.f20.results.toList.mapM (Mw Tryd.prog) = some [(.t 2)]:=by kernel_rfl
def SM (a : LU) : List D:=[MI a]
def SL (ds : List D) : LU:=NZ (ds.getD 0 .top)
theorem WV (a : LU) : SL (SM a) = a:=by simp [SL,SM]
def XK (b : Bool × LU) : D:=.bool b.1
def XJ (b : Bool × LU) : List D:=[MI b.2]
noncomputable def Ug : Dw.Spec:=Mk [(0,(2,59))] .val SM SL (fun a=>QY a) XK XJ
set_option maxHeartbeats 4000000 in
theorem Abf : Mi Tryd.prog 20 Ug:=by
 refine Mu (Nn) Tryd.func20 (by decide) AhG AhH (np:=1) (by decide) WV (fun _=>r) (fun _=>r) (by decide)<|?_
 intro c1
 show TrE (specs []) Aft (Mx [(0,(2,59))] .val [(.t 2)] XK XJ) ⟨[(0,.optr 8192 0 0 0)],[(8192,some (0,⟨false,true,2,59,[.agg [.sl (c1.list.map eU8),.int .i64 c1.at_]]⟩))],262144⟩ (QY c1)
 refine Mp<|?_
 unfold Aft QY
 refine sQ<|rG<|aS r r<|nI<|xS<|sQ<|rG<|mV r r<|nC r r r<|fA r r<|lO (v:=.int .i64 c1.at_) (z:=.agg [.sl (c1.list.map eU8),.int .i64 c1.at_]) r r r r r r<|mV r r<|nC r r r<|fA r r<|lO (v:=.sl (c1.list.map eU8)) (z:=.agg [.sl (c1.list.map eU8),.int .i64 c1.at_]) r r r r r r<|lS r r<|bN (v:=.bool (decide (c1.at_ < (c1.list.length : Int)))) r r r r r<|aS r r<|Mj (by kernel_rfl)<|xS<|rT<|Ng (b:=((decide (c1.at_ < (c1.list.length : Int))),c1)) r ?_ r r ?_ r
 all_goals first|(simp;done)|(simp;omega)|rfl|(simp [Ma,LZ];done)

def dc8 : Ml:=(.seq (.reg [P 4 (.asg (C 0) none)] false) (.seq (.seq (.reg [M 6 0,P 7 (.call (.c (.clo 20 [])) [(T 6)]),P 8 (.un .not (T 7)),M 9 8,⟨(some 10),(.mv (T 1)),(some ⟨9,false⟩),[]⟩,⟨(some 11),(.bin .lss (T 10) (C 1)),(some ⟨9,false⟩),[]⟩,P 12 (.pick (T 9) (.c (.bool true)) (T 11))] false) (.cond (T 12) (.seq (.reg [P 4 (.asg (C 0) none)] false) .ret) .skip)) (.seq (.reg [M 13 0,⟨(some 14),(.nilck (T 13)),none,[0]⟩,⟨(some 15),(.fldA 0 (T 14)),none,[1]⟩,⟨(some 16),(.ld 1 false (T 15)),none,[2]⟩,M 17 0,⟨(some 18),(.nilck (T 17)),none,[4]⟩,⟨(some 19),(.fldA 1 (T 18)),none,[5]⟩,⟨(some 20),(.ld 1 false (T 19)),none,[6]⟩,⟨(some 21),(.ixA 1 (T 16) (T 20)),none,[3,7]⟩,⟨(some 22),(.ld 1 false (T 21)),none,[8]⟩,⟨(some 23),(.cvt .i64 (T 22)),none,[9]⟩,⟨(some 5),(.asg (T 23) none),none,[10,0,1,2,3,4,5,6,7,8,9,10]⟩] true) (.seq (.reg [M 24 0,P 25 (.nilck (T 24)),P 26 (.fldA 1 (T 25)),P 27 (.ld 1 false (T 26)),P 28 (.bin .add (T 27) (C 1)),P 29 (.nilck (T 24)),P 30 (.fldA 1 (T 29)),⟨none,(.st 1 (T 30) (T 28)),none,[]⟩] false) (.seq (.reg [M 31 5,M 32 1,P 33 (.bin .mul (T 31) (T 32)),P 34 (.bin .quo (T 33) (C 256)),P 4 (.asg (T 34) none)] false) .ret)))))
theorem Akl : (Tryd.f8.body.bind (Mn Tryd.prog Tryd.f8.ntmps)) = some dc8:=by kernel_rfl
theorem Akm : Tryd.f8.results.toList.mapM (Mw Tryd.prog) = some [(.t 4)]:=by kernel_rfl
def SO (a : LU × Int) : List D:=[MI a.1,.int .i64 a.2]
def SN (ds : List D) : LU × Int:=(NZ (ds.getD 0 .top),uI (ds.getD 1 .top))
theorem Mg (a : LU × Int) : SN (SO a) = a:=by simp [SN,SO,uI]
def XM (b : Int × LU) : D:=.int .i64 b.1
def XL (b : Int × LU) : List D:=[MI b.2]
noncomputable def Mv : Dw.Spec:=Mk [(0,(2,59))] .val SO SN (fun a=>Mh a.1 a.2) XM XL
set_option maxHeartbeats 4000000 in
theorem Nk : Mi Tryd.prog 8 Mv:=by
 refine Mu (Mo (l:=[(20,Ug)]) (by simp [Abf])) Tryd.func8 (by decide) Akl Akm (np:=2) (by decide) Mg (fun _=>r) (fun _=>r) (by decide)<|?_
 rintro ⟨c1,n2⟩
 show TrE (specs [(20,Ug)]) dc8 (Mx [(0,(2,59))] .val [(.t 4)] XM XL) ⟨[(0,.optr 8192 0 0 0),(1,.int .i64 n2)],[(8192,some (0,⟨false,true,2,59,[.agg [.sl (c1.list.map eU8),.int .i64 c1.at_]]⟩))],262144⟩ (Mh c1 n2)
 refine Mp<|?_
 unfold dc8 Mh
 refine sQ<|rG<|aS r r<|nI<|xS<|sC (E:=fun (s : (List Int) × Int) (g : Unit)=>[(0,.optr 8192 0 0 0),(1,.int .i64 n2)]) (O:=fun s g=>[(8192,some (0,⟨false,true,2,59,[.agg [.sl (s.1.map eU8),.int .i64 s.2]]⟩))]) (j:=fun s=>Ra n2 s.1 s.2) ?_ ?_
 ·refine sQ<|rG<|mV r r<|bD fun r5 hr5=>cV c1 r r r WV r r (by simp) r hr5<|uN (w:=.bool (!r5.1)) r r r r trivial<|mV r r<|sP 9 (b:=(!r5.1)) r ?_ ?_
  ·refine oF r<|oF r<|pT r r r r<|nI<|xS<|MY r<|sQ<|rG<|aS r r<|nI<|xS<|rT<|zR<|Ng (b:=(0,r5.2)) r ?_ r r ?_ r
   all_goals first|(simp;done)|(simp;omega)|rfl|(simp [Ma,LZ];done)
  ·refine mV r r<|bN (v:=.bool (decide (n2 < 1))) r r r r r<|pF r r r r<|nI<|xS<|cD (c:=(decide (n2 < 1))) r ?_ ?_
   ·refine sQ<|rG<|aS r r<|nI<|xS<|rT<|zR<|Ng (b:=(0,r5.2)) r ?_ r r ?_ r
    all_goals first|(simp;done)|(simp;omega)|rfl|(simp [Ma,LZ];done)
   ·exact sK<|xC (s:=(r5.2.list,r5.2.at_)) () ((hE ⟨rfl,r,trivial⟩ ⟨rfl,trivial⟩))
 ·rintro ⟨c3,c4⟩ ⟨⟩ nn
  try dsimp only
  unfold Ra
  refine sQ<|rG<|mV r r<|nC r r r<|fA r r<|lO (v:=.sl (c3.map eU8)) (z:=.agg [.sl (c3.map eU8),.int .i64 c4]) r r r r r r<|mV r r<|nC r r r<|fA r r<|lO (v:=.int .i64 c4) (z:=.agg [.sl (c3.map eU8),.int .i64 c4]) r r r r r r<|bD fun x_x6 hx_x6=>iS (en:=eU8) r r r hx_x6 r<|lF (v:=.int .u8 x_x6) r r r r<|cT r r<|aS r r<|Mj (by kernel_rfl)<|xS<|sQ<|rG<|mV r r<|nC r r r<|fA r r<|lO (v:=.int .i64 c4) (z:=.agg [.sl (c3.map eU8),.int .i64 c4]) r r r r r r<|bN (v:=.int .i64 (IntKind.i64.wrap (c4 + 1))) r r r r r<|nC r r r<|fA r r<|UC (i:=0) (es':=[.agg [.sl (c3.map eU8),.int .i64 (IntKind.i64.wrap (c4 + 1))]]) r r r r r r r (by first | trivial | (simp; done) | (simp; omega)) r r r r r r<|nI<|xS<|sQ<|rG<|mV r r<|mV r r<|bN (v:=.int .i64 (IntKind.i64.wrap ((IntKind.i64.wrap (x_x6)) * n2))) r r r r r<|bN (v:=.int .i64 (IntKind.i64.wrap ((IntKind.i64.wrap ((IntKind.i64.wrap (x_x6)) * n2)).tdiv 256))) r r r r ⟨rfl,(by decide)⟩<|aS r r<|nI<|xS<|rT<|Ng (b:=(IntKind.i64.wrap ((IntKind.i64.wrap ((IntKind.i64.wrap (x_x6)) * n2)).tdiv 256),(LU.mk c3 (IntKind.i64.wrap (c4 + 1))))) r ?_ r r ?_ r
  all_goals first|(simp;done)|(simp;omega)|rfl|(simp [Ma,LZ];done)

def AfW : Ml:=(.seq (.reg [P 2 (.new (.agg [(.int .i64 0),(.int .i64 0)]) 2 48)] false) (.seq (.reg [⟨(some 3),(.bldS 1 3 (.int .i64 0) 7 [⟨0,(C 8)⟩,⟨1,(C 4)⟩,⟨2,(C 8)⟩,⟨3,(C 1)⟩,⟨4,(C 2)⟩,⟨5,(C 16)⟩,⟨6,(C 8)⟩]),none,[]⟩,M 4 0,⟨(some 5),(.call (.c (.clo 8 [])) [(T 4),(C 7)]),none,[1]⟩,⟨(some 6),(.ixA 1 (T 3) (T 5)),none,[0,2]⟩,⟨(some 7),(.ld 1 false (T 6)),none,[3]⟩,⟨(some 8),(.bldS 1 3 (.int .i64 0) 8 [⟨0,(C 8)⟩,⟨1,(C 4)⟩,⟨2,(C 1)⟩,⟨3,(C 8)⟩,⟨4,(C 16)⟩,⟨5,(C 2)⟩,⟨6,(C 32)⟩,⟨7,(C 64)⟩]),none,[]⟩,M 9 0,⟨(some 10),(.call (.c (.clo 8 [])) [(T 9),(C 8)]),none,[6,2]⟩,⟨(some 11),(.ixA 1 (T 8) (T 10)),none,[5,7]⟩,⟨(some 12),(.ld 1 false (T 11)),none,[8]⟩,⟨(some 13),(.bld [(.int .i64 0),(.int .i64 0)] [⟨0,⟨1,(T 7)⟩⟩,⟨1,⟨1,(T 12)⟩⟩]),none,[4,9]⟩,⟨none,(.st 2 (T 2) (T 13)),none,[10,7,0,1,2,3,4,5,6,7,8,9,10]⟩] true) .ret))
theorem AiM : (Tryd.f63.body.bind (Mn Tryd.prog Tryd.f63.ntmps)) = some AfW:=by kernel_rfl
theorem AiN : Tryd.f63.results.toList.mapM (Mw Tryd.prog) = some [(.c 2 2 true)]:=by kernel_rfl
def SQ (a : LU) : List D:=[MI a]
def SP (ds : List D) : LU:=NZ (ds.getD 0 .top)
theorem WY (a : LU) : SP (SQ a) = a:=by simp [SP,SQ]
def XO (b : Mq × LU) : D:=LY b.1
def XN (b : Mq × LU) : List D:=[MI b.2]
noncomputable def Uh : Dw.Spec:=Mk [(0,(2,59))] .val SQ SP (fun a=>PC a) XO XN
set_option maxHeartbeats 4000000 in
theorem Abg : Mi Tryd.prog 63 Uh:=by
 refine Mu (Mo (l:=[(8,Mv)]) (by simp [Nk])) Tryd.func63 (by decide) AiM AiN (np:=1) (by decide) WY (fun _=>r) (fun _=>r) (by decide)<|?_
 intro c1
 show TrE (specs [(8,Mv)]) AfW (Mx [(0,(2,59))] .val [(.c 2 2 true)] XO XN) ⟨[(0,.optr 8192 0 0 0)],[(8192,some (0,⟨false,true,2,59,[.agg [.sl (c1.list.map eU8),.int .i64 c1.at_]]⟩))],262144⟩ (PC c1)
 refine Mp<|?_
 unfold AfW PC
 refine sQ<|rG<|nW r<|nI<|xS<|sQ<|rG<|bS ([8,4,8,1,2,16,8] : List Int) LR r r r (by simp) r r r<|mV r r<|bD fun r2 hr2=>cV (c1,7) r r r Mg r r (by simp) r hr2<|cK fun hq=>iO (l:=([8,4,8,1,2,16,8] : List Int)) (en:=LR) r r r r r hq<|bD fun x_e3 hx_e3=>lO (v:=.int .i64 x_e3) (z:=LR x_e3) r r r (OU hx_e3) r r<|bS ([8,4,1,8,16,2,32,64] : List Int) LR r r r (by simp) r r r<|mV r r<|bD fun r4 hr4=>cV (r2.2,8) r r r Mg r r (by simp) r hr4<|cK fun hq=>iO (l:=([8,4,1,8,16,2,32,64] : List Int)) (en:=LR) r r r r r hq<|bD fun x_e5 hx_e5=>lO (v:=.int .i64 x_e5) (z:=LR x_e5) r r r (OU hx_e5) r r<|bL (cs:=[.int .i64 x_e3,.int .i64 x_e5]) (ps:=[(0,1,.int .i64 x_e3),(1,1,.int .i64 x_e5)]) r r r r<|sV (z':=.agg [.int .i64 x_e3,.int .i64 x_e5]) r r r r r r r r r<|Mj (by kernel_rfl)<|xS<|rT<|Ng (b:=((Mq.mk x_e3 x_e5),r4.2)) r ?_ r r ?_ r
 all_goals first|(simp;done)|(simp;omega)|rfl|(simp [Ma,LZ];done)

def AfD : Ml:=(.seq (.reg [⟨(some 4),(.asg (.c .nils) (some ⟨2,48⟩)),none,[]⟩] false) (.seq (.reg [⟨(some 5),(.asg (.c .nils) (some ⟨2,48⟩)),none,[]⟩] false) (.seq (.seq (.reg [M 7 0,M 8 1,P 9 (.bin .add (T 8) (C 1)),P 10 (.call (.c (.clo 8 [])) [(T 7),(T 9)]),P 6 (.asg (T 10) none)] false) (.block 0 (.loop (.seq (.seq (.reg [M 11 6,P 12 (.bin .gtr (T 11) (C 0))] false) (.cond (T 12) .skip (.exit 0))) (.seq (.block 1 (.reg [M 15 5,M 16 0,P 17 (.call (.c (.clo 63 [])) [(T 16)]),⟨(some 18),(.bldS 2 48 (.agg [(.int .i64 0),(.int .i64 0)]) 1 [⟨0,(T 17)⟩]),none,[]⟩,P 19 (.app 2 48 16 (T 15) (T 18)),⟨(some 5),(.asg (T 19) (some ⟨2,48⟩)),none,[]⟩] false)) (.reg [M 13 6,P 14 (.bin .sub (T 13) (C 1)),P 6 (.asg (T 14) none)] false)))))) (.seq (.reg [M 20 5,⟨(some 4),(.asg (T 20) (some ⟨2,48⟩)),none,[]⟩] false) .ret))))
theorem Aia : (Tryd.f37.body.bind (Mn Tryd.prog Tryd.f37.ntmps)) = some AfD:=by kernel_rfl
theorem Aib : Tryd.f37.results.toList.mapM (Mw Tryd.prog) = some [(.t 4)]:=by kernel_rfl
def Sd (a : LU × Int) : List D:=[MI a.1,.int .i64 a.2]
def Sc (ds : List D) : LU × Int:=(NZ (ds.getD 0 .top),uI (ds.getD 1 .top))
theorem We (a : LU × Int) : Sc (Sd a) = a:=by simp [Sc,Sd,uI]
def Xa (b : (List Mq) × LU) : D:=.sl (b.1.map LY)
def WZ (b : (List Mq) × LU) : List D:=[MI b.2]
noncomputable def Tq : Dw.Spec:=Mk [(0,(2,59))] (.row 2 48) Sd Sc (fun a=>Ph a.1 a.2) Xa WZ
set_option maxHeartbeats 4000000 in
theorem Abd : Mi Tryd.prog 37 Tq:=by
 refine Mu (Mo (l:=[(8,Mv),(63,Uh)]) (by simp [Nk,Abg])) Tryd.func37 (by decide) Aia Aib (np:=2) (by decide) We (fun _=>r) (fun _=>r) (by decide)<|?_
 rintro ⟨c1,most2⟩
 show TrE (specs [(8,Mv),(63,Uh)]) AfD (Mx [(0,(2,59))] (.row 2 48) [(.t 4)] Xa WZ) ⟨[(0,.optr 8192 0 0 0),(1,.int .i64 most2)],[(8192,some (0,⟨false,true,2,59,[.agg [.sl (c1.list.map eU8),.int .i64 c1.at_]]⟩))],262144⟩ (Ph c1 most2)
 refine Mp<|?_
 unfold AfD Ph
 refine sQ<|rG<|aN (α:=Mq) r LY r<|nI<|xS<|sQ<|rG<|aN (α:=Mq) r LY r<|nI<|xS<|sQ<|sQ<|rG<|mV r r<|mV r r<|bN (v:=.int .i64 (IntKind.i64.wrap (most2 + 1))) r r r r r<|bD fun r3 hr3=>cV (c1,IntKind.i64.wrap (most2 + 1)) r r r Mg r r (by simp) r hr3<|aS r r<|nI<|xS<|bK<|lP (E:=fun (s : (List Int) × Int × (List Mq) × Int) (g : Nat)=>[(0,.optr 8192 0 0 0),(5,.osl 5 g 0 s.2.2.1.length),(6,.int .i64 s.2.2.2)]) (O:=fun s g=>[(5,some (g,⟨false,false,2,48,s.2.2.1.map LY⟩)),(8192,some (0,⟨false,true,2,59,[.agg [.sl (s.1.map eU8),.int .i64 s.2.1]]⟩))]) (body:=fun s=>QD s.1 s.2.1 s.2.2.1 s.2.2.2) (s:=(r3.2.list,r3.2.at_,([] : List Mq),r3.1)) _ ((hE ⟨rfl,r,r,trivial⟩ ⟨rfl,r,trivial⟩))<|?_
 rintro ⟨c4,c5,l6,n7⟩ v5x1 nn
 try dsimp only
 unfold QD
 refine sQ<|sQ<|rG<|mV r r<|bN (v:=.bool (decide (n7 > 0))) r r r r r<|nI<|xS<|cD (c:=(decide (n7 > 0))) r ?_ ?_
 ·exact sK<|xS<|sQ<|bK<|rG<|mV r r<|mV r r<|bD fun r8 hr8=>cV (LU.mk c4 c5) r r r WY r r (by simp) r hr8<|bS ([r8.1] : List Mq) LY r r r (by simp) r r r<|cK fun hq=>aP (l6) (([r8.1] : List Mq)) LY r r r r r r r (by simp) (Mr _ _ r) r r (by simp) (Md _ _ r) (fun _=>r) r hq<|aO (l:=l6 ++ ([r8.1] : List Mq)) (en:=LY) r r r r<|nI<|bM<|xS<|rG<|mV r r<|bN (v:=.int .i64 (IntKind.i64.wrap (n7 - 1))) r r r r r<|aS r r<|nI<|xL (s:=(r8.2.list,r8.2.at_,l6 ++ ([r8.1] : List Mq),IntKind.i64.wrap (n7 - 1))) _ ((hE ⟨rfl,r,r,trivial⟩ ⟨rfl,r,trivial⟩))
 ·refine eT<|xE<|lE<|bH<|xS<|sQ<|rG<|mV r r<|aO (l:=l6) (en:=LY) r r r r<|nI<|xS<|rT<|MA (b:=(l6,(LU.mk c4 c5))) r ?_ r r ?_ r ?_ (congrArg D.sl (Md _ _ r)) r
  all_goals first|(simp;done)|(simp;omega)|rfl|(simp [Ma,LZ];done)

def AfX : Ml:=(.seq (.reg [P 4 (.box (T 1) 3 33),P 6 (.asg (C 0) none)] false) (.seq (.reg [⟨(some 7),(.asg (.c .nils) (some ⟨1,3⟩)),none,[]⟩] false) (.seq (.seq (.reg [P 8 (.asg (C 0) none)] false) (.block 0 (.loop (.seq (.seq (.reg [M 9 8,P 10 (.fldA 1 (T 4)),P 11 (.ld 1 false (T 10)),P 12 (.len false (T 11)),P 13 (.bin .lss (T 9) (T 12))] false) (.cond (T 13) .skip (.exit 0))) (.seq (.block 1 (.seq (.reg [P 16 (.fldA 1 (T 4)),⟨(some 17),(.ld 1 false (T 16)),none,[0]⟩,M 18 8,⟨(some 19),(.ixA 2 (T 17) (T 18)),none,[1,2]⟩,⟨(some 20),(.fldA 0 (T 19)),none,[3]⟩,⟨(some 21),(.ld 1 false (T 20)),none,[4]⟩,P 22 (.fldA 1 (T 4)),⟨(some 23),(.ld 1 false (T 22)),none,[6]⟩,M 24 2,⟨(some 25),(.ixA 2 (T 23) (T 24)),none,[7,8]⟩,⟨(some 26),(.fldA 0 (T 25)),none,[9]⟩,⟨(some 27),(.ld 1 false (T 26)),none,[10]⟩,⟨(some 28),(.bin .eql (T 21) (T 27)),none,[5,11]⟩] true) (.cond (T 28) (.reg [M 29 7,M 30 8,⟨(some 31),(.bldS 1 3 (.int .i64 0) 1 [⟨0,(T 30)⟩]),none,[]⟩,P 32 (.app 1 3 8 (T 29) (T 31)),⟨(some 7),(.asg (T 32) (some ⟨1,3⟩)),none,[]⟩] false) .skip))) (.reg [M 14 8,P 15 (.bin .add (T 14) (C 1)),P 8 (.asg (T 15) none)] false)))))) (.seq (.reg [M 33 7,M 34 0,M 35 7,P 36 (.len false (T 35)),P 37 (.call (.c (.clo 8 [])) [(T 34),(T 36)]),P 38 (.ixA 1 (T 33) (T 37)),P 39 (.ld 1 false (T 38)),P 6 (.asg (T 39) none)] false) .ret))))
theorem AiO : (Tryd.f64.body.bind (Mn Tryd.prog Tryd.f64.ntmps)) = some AfX:=by kernel_rfl
theorem AiP : Tryd.f64.results.toList.mapM (Mw Tryd.prog) = some [(.t 6)]:=by kernel_rfl
def SW (a : LU × LX × Int) : List D:=[MI a.1,MF a.2.1,.int .i64 a.2.2]
def SV (ds : List D) : LU × LX × Int:=(NZ (ds.getD 0 .top),NJ (ds.getD 1 .top),uI (ds.getD 2 .top))
theorem Xd (a : LU × LX × Int) : SV (SW a) = a:=by simp [SV,SW,uI]
def XU (b : Int × LU) : D:=.int .i64 b.1
def XT (b : Int × LU) : List D:=[MI b.2]
noncomputable def Uj : Dw.Spec:=Mk [(0,(2,59))] .val SW SV (fun a=>PE a.1 a.2.1 a.2.2) XU XT
set_option maxHeartbeats 4000000 in
theorem Abi : Mi Tryd.prog 64 Uj:=by
 refine Mu (Mo (l:=[(8,Mv)]) (by simp [Nk])) Tryd.func64 (by decide) AiO AiP (np:=3) (by decide) Xd (fun _=>r) (fun _=>r) (by decide)<|?_
 rintro ⟨c1,f2,s3⟩
 show TrE (specs [(8,Mv)]) AfX (Mx [(0,(2,59))] .val [(.t 6)] XU XT) ⟨[(0,.optr 8192 0 0 0),(1,.agg [.int .i64 f2.Params,.sl (f2.Slots.map LY),.sl (f2.Code.map LV)]),(2,.int .i64 s3)],[(8192,some (0,⟨false,true,2,59,[.agg [.sl (c1.list.map eU8),.int .i64 c1.at_]]⟩))],262144⟩ (PE c1 f2 s3)
 refine Mp<|?_
 unfold AfX PE
 refine sQ<|rG<|bX r r r r r<|aS r r<|nI<|xS<|sQ<|rG<|aN (α:=Int) r LR r<|nI<|xS<|sQ<|sQ<|rG<|aS r r<|nI<|xS<|bK<|lP (E:=fun (s : (List Int) × Int) (g : Nat × Nat)=>[(0,.optr 8192 0 0 0),(2,.int .i64 s3),(4,.optr 4 g.1 0 0),(7,.osl 7 g.2 0 s.1.length),(8,.int .i64 s.2)]) (O:=fun s g=>[(4,some (g.1,⟨false,true,3,33,[.agg [.int .i64 f2.Params,.sl (f2.Slots.map LY),.sl (f2.Code.map LV)]]⟩)),(7,some (g.2,⟨false,false,1,3,s.1.map LR⟩)),(8192,some (0,⟨false,true,2,59,[.agg [.sl (c1.list.map eU8),.int .i64 c1.at_]]⟩))]) (body:=fun s=>Rc f2 s3 c1 s.1 s.2) (s:=(([] : List Int),0)) (_,_) ((hE ⟨rfl,r,r,r,r,trivial⟩ ⟨rfl,r,r,trivial⟩))<|?_
 rintro ⟨l4,k5⟩ ⟨v4x1,v7x1⟩ nn
 try dsimp only
 unfold Rc
 refine sQ<|sQ<|rG<|mV r r<|fA r r<|lO (v:=.sl (f2.Slots.map LY)) (z:=.agg [.int .i64 f2.Params,.sl (f2.Slots.map LY),.sl (f2.Code.map LV)]) r r r r r r<|lS r r<|bN (v:=.bool (decide (k5 < (f2.Slots.length : Int)))) r r r r r<|nI<|xS<|cD (c:=(decide (k5 < (f2.Slots.length : Int)))) r ?_ ?_
 ·refine sK<|xS<|sQ<|bK<|sQ<|rG<|fA r r<|lO (v:=.sl (f2.Slots.map LY)) (z:=.agg [.int .i64 f2.Params,.sl (f2.Slots.map LY),.sl (f2.Code.map LV)]) r r r r r r<|mV r r<|bD fun x_x6 hx_x6=>iS (en:=LY) r r r hx_x6 r<|fF r r<|lF (v:=.int .i64 x_x6.Size) r r r r<|fA r r<|lO (v:=.sl (f2.Slots.map LY)) (z:=.agg [.int .i64 f2.Params,.sl (f2.Slots.map LY),.sl (f2.Code.map LV)]) r r r r r r<|mV r r<|bD fun x_x7 hx_x7=>iS (en:=LY) r r r hx_x7 r<|fF r r<|lF (v:=.int .i64 x_x7.Size) r r r r<|bN (v:=.bool (x_x6.Size == x_x7.Size)) r r r r r<|Mj (by kernel_rfl)<|xS<|cD (c:=(x_x6.Size == x_x7.Size)) r ?_ ?_
  ·exact rG<|mV r r<|mV r r<|bS ([k5] : List Int) LR r r r (by simp) r r r<|cK fun hq=>aP (l4) (([k5] : List Int)) LR r r r r r r r (by simp) (Mr _ _ r) r r (by simp) (Md _ _ r) (fun _=>r) r hq<|aO (l:=l4 ++ ([k5] : List Int)) (en:=LR) r r r r<|nI<|bM<|xS<|rG<|mV r r<|bN (v:=.int .i64 (IntKind.i64.wrap (k5 + 1))) r r r r r<|aS r r<|nI<|xL (s:=(l4 ++ ([k5] : List Int),IntKind.i64.wrap (k5 + 1))) (_,_) ((hE ⟨rfl,r,r,r,r,trivial⟩ ⟨rfl,r,r,trivial⟩))
  ·exact sK<|bM<|xS<|rG<|mV r r<|bN (v:=.int .i64 (IntKind.i64.wrap (k5 + 1))) r r r r r<|aS r r<|nI<|xL (s:=(l4,IntKind.i64.wrap (k5 + 1))) (_,_) ((hE ⟨rfl,r,r,r,r,trivial⟩ ⟨rfl,r,r,trivial⟩))
 ·refine eT<|xE<|lE<|bH<|xS<|sQ<|rG<|mV r r<|mV r r<|mV r r<|lW r r<|bD fun r8 hr8=>cV (c1,(l4.length : Int)) r r r Mg r r (by simp) r hr8<|cK fun hq=>iO (l:=l4) (en:=LR) r r r r r hq<|bD fun l_e9 hl_e9=>lO (v:=.int .i64 l_e9) (z:=LR l_e9) r r r (OU hl_e9) r r<|aS r r<|nI<|xS<|rT<|Ng (b:=(l_e9,r8.2)) r ?_ r r ?_ r
  all_goals first|(simp;done)|(simp;omega)|rfl|(simp [Ma,LZ];done)

def AfF : Ml:=(.seq (.reg [P 2 (.asg (.c (.int .u64 0)) none)] false) (.seq (.seq (.reg [M 3 0,P 4 (.call (.c (.clo 8 [])) [(T 3),(C 6)])] false) (.block 0 (.seq (.reg [P 6 (.bin .eql (T 4) (C 0)),P 5 (.asg (T 6) none)] false) (.cond (T 5) (.seq (.reg [M 7 0,P 8 (.call (.c (.clo 8 [])) [(T 7),(C 3)]),P 9 (.cvt .u64 (T 8)),P 10 (.bin .sub (.c (.int .u64 18446744073709551615)) (T 9)),P 2 (.asg (T 10) none)] false) .ret) (.seq (.reg [P 12 (.bin .eql (T 4) (C 1)),P 11 (.asg (T 12) none)] false) (.cond (T 11) (.seq (.reg [M 13 0,P 14 (.call (.c (.clo 8 [])) [(T 13),(C 64)]),P 15 (.bin .shl (.c (.int .u64 1)) (T 14)),P 2 (.asg (T 15) none)] false) .ret) (.seq (.reg [P 17 (.bin .eql (T 4) (C 2)),P 16 (.asg (T 17) none)] false) (.cond (T 16) (.seq (.reg [P 2 (.asg (.c (.int .u64 0)) none)] false) .ret) .skip)))))))) (.seq (.reg [M 18 0,P 19 (.call (.c (.clo 8 [])) [(T 18),(C 256)]),P 20 (.cvt .u64 (T 19)),P 2 (.asg (T 20) none)] false) .ret)))
theorem Aie : (Tryd.f39.body.bind (Mn Tryd.prog Tryd.f39.ntmps)) = some AfF:=by kernel_rfl
theorem Aif : Tryd.f39.results.toList.mapM (Mw Tryd.prog) = some [(.t 2)]:=by kernel_rfl
def SS (a : LU) : List D:=[MI a]
def SR (ds : List D) : LU:=NZ (ds.getD 0 .top)
theorem Ts (a : LU) : SR (SS a) = a:=by simp [SR,SS]
def XQ (b : Int × LU) : D:=.int .u64 b.1
def XP (b : Int × LU) : List D:=[MI b.2]
noncomputable def PU : Dw.Spec:=Mk [(0,(2,59))] .val SS SR (fun a=>ON a) XQ XP
set_option maxHeartbeats 4000000 in
theorem Xb : Mi Tryd.prog 39 PU:=by
 refine Mu (Mo (l:=[(8,Mv)]) (by simp [Nk])) Tryd.func39 (by decide) Aie Aif (np:=1) (by decide) Ts (fun _=>r) (fun _=>r) (by decide)<|?_
 intro c1
 show TrE (specs [(8,Mv)]) AfF (Mx [(0,(2,59))] .val [(.t 2)] XQ XP) ⟨[(0,.optr 8192 0 0 0)],[(8192,some (0,⟨false,true,2,59,[.agg [.sl (c1.list.map eU8),.int .i64 c1.at_]]⟩))],262144⟩ (ON c1)
 refine Mp<|?_
 unfold AfF ON
 refine sQ<|rG<|aS r r<|nI<|xS<|sQ<|sQ<|rG<|mV r r<|bD fun r2 hr2=>cV (c1,6) r r r Mg r r (by simp) r hr2<|nI<|xS<|bK<|sQ<|rG<|bN (v:=.bool (r2.1 == 0)) r r r r r<|aS r r<|nI<|xS<|cD (c:=(r2.1 == 0)) r ?_ ?_
 ·refine sQ<|rG<|mV r r<|bD fun r3 hr3=>cV (r2.2,3) r r r Mg r r (by simp) r hr3<|cT r r<|bN (v:=.int .u64 (IntKind.u64.wrap (18446744073709551615 - (IntKind.u64.wrap (r3.1))))) r r r r r<|aS r r<|nI<|xS<|rT<|bR<|xR<|Ng (b:=(IntKind.u64.wrap (18446744073709551615 - (IntKind.u64.wrap (r3.1))),r3.2)) r ?_ r r ?_ r
  all_goals first|(simp;done)|(simp;omega)|rfl|(simp [Ma,LZ];done)
 ·refine sQ<|rG<|bN (v:=.bool (r2.1 == 1)) r r r r r<|aS r r<|nI<|xS<|cD (c:=(r2.1 == 1)) r ?_ ?_
  ·refine sQ<|rG<|mV r r<|bD fun r4 hr4=>cV (r2.2,64) r r r Mg r r (by simp) r hr4<|cK fun hq=>bN (v:=.int .u64 (IntKind.u64.wrap (1 * 2 ^ (Nat.min r4.1.toNat IntKind.u64.bits)))) r r r r hq<|aS r r<|nI<|xS<|rT<|bR<|xR<|Ng (b:=(IntKind.u64.wrap (1 * 2 ^ (Nat.min r4.1.toNat IntKind.u64.bits)),r4.2)) r ?_ r r ?_ r
   all_goals first|(simp;done)|(simp;omega)|rfl|(simp [Ma,LZ];done)
  ·refine sQ<|rG<|bN (v:=.bool (r2.1 == 2)) r r r r r<|aS r r<|nI<|xS<|cD (c:=(r2.1 == 2)) r ?_ ?_
   ·refine sQ<|rG<|aS r r<|nI<|xS<|rT<|bR<|xR<|Ng (b:=(0,r2.2)) r ?_ r r ?_ r
    all_goals first|(simp;done)|(simp;omega)|rfl|(simp [Ma,LZ];done)
   ·refine sK<|bM<|xS<|sQ<|rG<|mV r r<|bD fun r5 hr5=>cV (r2.2,256) r r r Mg r r (by simp) r hr5<|cT r r<|aS r r<|nI<|xS<|rT<|Ng (b:=(IntKind.u64.wrap (r5.1),r5.2)) r ?_ r r ?_ r
    all_goals first|(simp;done)|(simp;omega)|rfl|(simp [Ma,LZ];done)

def AfE : Ml:=(.seq (.reg [P 5 (.box (T 1) 3 33),⟨(some 8),(.asg (.c .nils) (some ⟨5,57⟩)),none,[]⟩] false) (.seq (.reg [M 16 0,P 17 (.call (.c (.clo 8 [])) [(T 16),(C 4)]),P 9 (.asg (T 17) none)] false) (.seq (.reg [P 18 (.fldA 1 (T 5)),P 19 (.ld 1 false (T 18)),P 20 (.len false (T 19)),P 10 (.asg (T 20) none)] false) (.seq (.reg [M 21 0,P 22 (.call (.c (.clo 8 [])) [(T 21),(C 20)]),P 11 (.asg (T 22) none)] false) (.seq (.block 0 (.seq (.reg [M 24 11,P 25 (.bin .lss (T 24) (C 3)),M 26 25,⟨(some 27),(.mv (T 10)),(some ⟨26,true⟩),[]⟩,⟨(some 28),(.bin .gtr (T 27) (C 0)),(some ⟨26,true⟩),[]⟩,P 29 (.pick (T 26) (T 28) (.c (.bool false))),P 23 (.asg (T 29) none)] false) (.cond (T 23) (.seq (.reg [M 30 0,M 31 10,P 32 (.call (.c (.clo 8 [])) [(T 30),(T 31)]),M 33 9,⟨(some 34),(.bld [(.int .i64 0),(.int .i64 0),(.int .i64 0),(.int .i64 0),(.int .u64 0)] [⟨0,⟨1,(C 16)⟩⟩,⟨1,⟨1,(T 32)⟩⟩,⟨2,⟨1,(T 33)⟩⟩]),none,[]⟩,⟨(some 35),(.bldS 5 57 (.agg [(.int .i64 0),(.int .i64 0),(.int .i64 0),(.int .i64 0),(.int .u64 0)]) 1 [⟨0,(T 34)⟩]),none,[]⟩,⟨(some 8),(.asg (T 35) (some ⟨5,57⟩)),none,[]⟩] false) .ret) (.seq (.reg [M 37 11,P 38 (.bin .lss (T 37) (C 6)),M 39 38,⟨(some 40),(.mv (T 10)),(some ⟨39,true⟩),[]⟩,⟨(some 41),(.bin .gtr (T 40) (C 0)),(some ⟨39,true⟩),[]⟩,P 42 (.pick (T 39) (T 41) (.c (.bool false))),P 36 (.asg (T 42) none)] false) (.cond (T 36) (.seq (.reg [M 43 9,M 44 0,M 45 10,P 46 (.call (.c (.clo 8 [])) [(T 44),(T 45)]),⟨(some 47),(.bld [(.int .i64 0),(.int .i64 0),(.int .i64 0),(.int .i64 0),(.int .u64 0)] [⟨0,⟨1,(C 15)⟩⟩,⟨1,⟨1,(T 43)⟩⟩,⟨2,⟨1,(T 46)⟩⟩]),none,[]⟩,⟨(some 48),(.bldS 5 57 (.agg [(.int .i64 0),(.int .i64 0),(.int .i64 0),(.int .i64 0),(.int .u64 0)]) 1 [⟨0,(T 47)⟩]),none,[]⟩,⟨(some 8),(.asg (T 48) (some ⟨5,57⟩)),none,[]⟩] false) .ret) (.seq (.reg [M 50 11,P 51 (.bin .lss (T 50) (C 9)),M 52 51,⟨(some 53),(.mv (T 10)),(some ⟨52,true⟩),[]⟩,⟨(some 54),(.bin .gtr (T 53) (C 0)),(some ⟨52,true⟩),[]⟩,P 55 (.pick (T 52) (T 54) (.c (.bool false))),P 49 (.asg (T 55) none)] false) (.cond (T 49) (.seq (.reg [M 56 0,M 57 10,P 58 (.call (.c (.clo 8 [])) [(T 56),(T 57)]),P 12 (.asg (T 58) none)] false) (.seq (.reg [M 59 0,P 60 (.ld 3 true (T 5)),M 61 12,P 62 (.call (.c (.clo 64 [])) [(T 59),(T 60),(T 61)]),M 63 12,⟨(some 64),(.bld [(.int .i64 0),(.int .i64 0),(.int .i64 0),(.int .i64 0),(.int .u64 0)] [⟨0,⟨1,(C 17)⟩⟩,⟨1,⟨1,(T 62)⟩⟩,⟨2,⟨1,(T 63)⟩⟩]),none,[]⟩,⟨(some 65),(.bldS 5 57 (.agg [(.int .i64 0),(.int .i64 0),(.int .i64 0),(.int .i64 0),(.int .u64 0)]) 1 [⟨0,(T 64)⟩]),none,[]⟩,⟨(some 8),(.asg (T 65) (some ⟨5,57⟩)),none,[]⟩] false) .ret)) (.seq (.reg [M 67 11,P 68 (.bin .lss (T 67) (C 11)),P 66 (.asg (T 68) none)] false) (.cond (T 66) (.seq (.reg [M 69 9,M 70 0,P 71 (.call (.c (.clo 39 [])) [(T 70)]),⟨(some 72),(.bld [(.int .i64 0),(.int .i64 0),(.int .i64 0),(.int .i64 0),(.int .u64 0)] [⟨0,⟨1,(C 0)⟩⟩,⟨1,⟨1,(T 69)⟩⟩,⟨4,⟨1,(T 71)⟩⟩]),none,[]⟩,⟨(some 73),(.bldS 5 57 (.agg [(.int .i64 0),(.int .i64 0),(.int .i64 0),(.int .i64 0),(.int .u64 0)]) 1 [⟨0,(T 72)⟩]),none,[]⟩,⟨(some 8),(.asg (T 73) (some ⟨5,57⟩)),none,[]⟩] false) .ret) (.seq (.reg [M 75 11,P 76 (.bin .lss (T 75) (C 13)),P 74 (.asg (T 76) none)] false) (.cond (T 74) (.seq (.reg [M 77 0,P 78 (.call (.c (.clo 8 [])) [(T 77),(C 10)]),P 79 (.bin .add (C 2) (T 78)),M 80 9,M 81 0,P 82 (.call (.c (.clo 8 [])) [(T 81),(C 4)]),M 83 0,P 84 (.call (.c (.clo 8 [])) [(T 83),(C 8)]),⟨(some 85),(.bld [(.int .i64 0),(.int .i64 0),(.int .i64 0),(.int .i64 0),(.int .u64 0)] [⟨0,⟨1,(T 79)⟩⟩,⟨1,⟨1,(T 80)⟩⟩,⟨2,⟨1,(T 82)⟩⟩,⟨3,⟨1,(T 84)⟩⟩]),none,[]⟩,⟨(some 86),(.bldS 5 57 (.agg [(.int .i64 0),(.int .i64 0),(.int .i64 0),(.int .i64 0),(.int .u64 0)]) 1 [⟨0,(T 85)⟩]),none,[]⟩,⟨(some 8),(.asg (T 86) (some ⟨5,57⟩)),none,[]⟩] false) .ret) (.seq (.reg [M 88 11,P 89 (.bin .lss (T 88) (C 15)),P 87 (.asg (T 89) none)] false) (.cond (T 87) (.seq (.reg [M 90 9,⟨(some 91),(.bld [(.int .i64 0),(.int .i64 0),(.int .i64 0),(.int .i64 0),(.int .u64 0)] [⟨0,⟨1,(C 14)⟩⟩,⟨1,⟨1,(T 90)⟩⟩]),none,[]⟩,⟨(some 92),(.bldS 5 57 (.agg [(.int .i64 0),(.int .i64 0),(.int .i64 0),(.int .i64 0),(.int .u64 0)]) 1 [⟨0,(T 91)⟩]),none,[]⟩,⟨(some 8),(.asg (T 92) (some ⟨5,57⟩)),none,[]⟩] false) .ret) (.seq (.reg [M 94 11,P 95 (.bin .eql (T 94) (C 15)),P 93 (.asg (T 95) none)] false) (.cond (T 93) (.seq (.reg [⟨(some 96),(.bldS 1 3 (.int .i64 0) 3 [⟨0,(C 13)⟩,⟨1,(C 12)⟩,⟨2,(C 1)⟩]),none,[]⟩,M 97 0,P 98 (.call (.c (.clo 8 [])) [(T 97),(C 3)]),P 99 (.ixA 1 (T 96) (T 98)),P 100 (.ld 1 false (T 99)),M 101 9,⟨(some 102),(.bld [(.int .i64 0),(.int .i64 0),(.int .i64 0),(.int .i64 0),(.int .u64 0)] [⟨0,⟨1,(T 100)⟩⟩,⟨1,⟨1,(T 101)⟩⟩]),none,[]⟩,⟨(some 103),(.bldS 5 57 (.agg [(.int .i64 0),(.int .i64 0),(.int .i64 0),(.int .i64 0),(.int .u64 0)]) 1 [⟨0,(T 102)⟩]),none,[]⟩,⟨(some 8),(.asg (T 103) (some ⟨5,57⟩)),none,[]⟩] false) .ret) (.seq (.reg [M 105 11,P 106 (.bin .eql (T 105) (C 16)),M 107 106,⟨(some 108),(.fldA 0 (T 5)),(some ⟨107,true⟩),[]⟩,⟨(some 109),(.ld 1 false (T 108)),(some ⟨107,true⟩),[]⟩,⟨(some 110),(.bin .gtr (T 109) (C 0)),(some ⟨107,true⟩),[]⟩,P 111 (.pick (T 107) (T 110) (.c (.bool false))),P 104 (.asg (T 111) none)] false) (.cond (T 104) (.seq (.reg [M 112 9,M 113 0,P 114 (.fldA 0 (T 5)),P 115 (.ld 1 false (T 114)),P 116 (.call (.c (.clo 8 [])) [(T 113),(T 115)]),⟨(some 117),(.bld [(.int .i64 0),(.int .i64 0),(.int .i64 0),(.int .i64 0),(.int .u64 0)] [⟨0,⟨1,(C 19)⟩⟩,⟨1,⟨1,(T 112)⟩⟩,⟨2,⟨1,(T 116)⟩⟩]),none,[]⟩,⟨(some 118),(.bldS 5 57 (.agg [(.int .i64 0),(.int .i64 0),(.int .i64 0),(.int .i64 0),(.int .u64 0)]) 1 [⟨0,(T 117)⟩]),none,[]⟩,⟨(some 8),(.asg (T 118) (some ⟨5,57⟩)),none,[]⟩] false) .ret) (.seq (.reg [M 120 11,P 121 (.bin .geq (T 120) (C 17)),M 122 121,⟨(some 123),(.mv (T 2)),(some ⟨122,true⟩),[]⟩,⟨(some 124),(.bin .add (T 123) (C 1)),(some ⟨122,true⟩),[]⟩,⟨(some 125),(.mv (T 3)),(some ⟨122,true⟩),[]⟩,⟨(some 126),(.len false (T 125)),(some ⟨122,true⟩),[]⟩,⟨(some 127),(.bin .lss (T 124) (T 126)),(some ⟨122,true⟩),[]⟩,P 128 (.pick (T 122) (T 127) (.c (.bool false))),P 119 (.asg (T 128) none)] false) (.cond (T 119) (.seq (.reg [M 129 2,P 130 (.bin .add (T 129) (C 1)),M 131 0,M 132 3,P 133 (.len false (T 132)),M 134 2,P 135 (.bin .sub (T 133) (T 134)),P 136 (.bin .sub (T 135) (C 1)),P 137 (.call (.c (.clo 8 [])) [(T 131),(T 136)]),P 138 (.bin .add (T 130) (T 137)),P 13 (.asg (T 138) none)] false) (.seq (.reg [⟨(some 14),(.asg (.c .nils) (some ⟨5,57⟩)),none,[]⟩] false) (.seq (.seq (.reg [P 15 (.asg (C 0) none)] false) (.block 1 (.loop (.seq (.seq (.reg [M 139 15,M 140 3,M 141 13,P 142 (.ixA 1 (T 140) (T 141)),P 143 (.ld 1 false (T 142)),P 144 (.bin .lss (T 139) (T 143))] false) (.cond (T 144) .skip (.exit 1))) (.seq (.block 2 (.seq (.reg [M 147 0,P 148 (.call (.c (.clo 8 [])) [(T 147),(C 8)]),P 149 (.bin .lss (T 148) (C 7))] false) (.cond (T 149) (.reg [M 150 14,M 151 15,M 152 0,P 153 (.call (.c (.clo 8 [])) [(T 152),(C 4)]),⟨(some 154),(.bld [(.int .i64 0),(.int .i64 0),(.int .i64 0),(.int .i64 0),(.int .u64 0)] [⟨0,⟨1,(C 18)⟩⟩,⟨1,⟨1,(T 151)⟩⟩,⟨2,⟨1,(T 153)⟩⟩]),none,[]⟩,⟨(some 155),(.bldS 5 57 (.agg [(.int .i64 0),(.int .i64 0),(.int .i64 0),(.int .i64 0),(.int .u64 0)]) 1 [⟨0,(T 154)⟩]),none,[]⟩,P 156 (.app 5 57 40 (T 150) (T 155)),⟨(some 14),(.asg (T 156) (some ⟨5,57⟩)),none,[]⟩] false) .skip))) (.reg [M 145 15,P 146 (.bin .add (T 145) (C 1)),P 15 (.asg (T 146) none)] false)))))) (.seq (.reg [M 157 14,M 158 13,⟨(some 159),(.bld [(.int .i64 0),(.int .i64 0),(.int .i64 0),(.int .i64 0),(.int .u64 0)] [⟨0,⟨1,(C 22)⟩⟩,⟨1,⟨1,(T 158)⟩⟩]),none,[]⟩,⟨(some 160),(.bldS 5 57 (.agg [(.int .i64 0),(.int .i64 0),(.int .i64 0),(.int .i64 0),(.int .u64 0)]) 1 [⟨0,(T 159)⟩]),none,[]⟩,P 161 (.app 5 57 40 (T 157) (T 160)),⟨(some 8),(.asg (T 161) (some ⟨5,57⟩)),none,[]⟩] false) .ret)))) .skip))))))))))))))))))) (.seq (.reg [M 162 9,⟨(some 163),(.bld [(.int .i64 0),(.int .i64 0),(.int .i64 0),(.int .i64 0),(.int .u64 0)] [⟨0,⟨1,(C 14)⟩⟩,⟨1,⟨1,(T 162)⟩⟩]),none,[]⟩,⟨(some 164),(.bldS 5 57 (.agg [(.int .i64 0),(.int .i64 0),(.int .i64 0),(.int .i64 0),(.int .u64 0)]) 1 [⟨0,(T 163)⟩]),none,[]⟩,⟨(some 8),(.asg (T 164) (some ⟨5,57⟩)),none,[]⟩] false) .ret))))))
theorem Aic : (Tryd.f38.body.bind (Mn Tryd.prog Tryd.f38.ntmps)) = some AfE:=by kernel_rfl
theorem Aid : Tryd.f38.results.toList.mapM (Mw Tryd.prog) = some [(.t 8)]:=by kernel_rfl
def QE (a : LU × LX × Int × (List Int)) : List D:=[MI a.1,MF a.2.1,.int .i64 a.2.2.1,.sl (a.2.2.2.map LR)]
def SU (ds : List D) : LU × LX × Int × (List Int):=(NZ (ds.getD 0 .top),NJ (ds.getD 1 .top),uI (ds.getD 2 .top),(uL uI) (ds.getD 3 .top))
theorem Xc (a : LU × LX × Int × (List Int)) : SU (QE a) = a:=by simp [SU,QE,uI,NF (u:=uI) (en:=LR) (fun _=>rfl)]
def XS (b : (List LS) × LU) : D:=.sl (b.1.map LV)
def XR (b : (List LS) × LU) : List D:=[MI b.2]
noncomputable def Ui : Dw.Spec:=Mk [(0,(2,59))] (.row 5 57) QE SU (fun a=>PD a.1 a.2.1 a.2.2.1 a.2.2.2) XS XR
set_option maxHeartbeats 4000000 in
theorem Abh : Mi Tryd.prog 38 Ui:=by
 refine Mu (Mo (l:=[(8,Mv),(64,Uj),(39,PU)]) (by simp [Nk,Abi,Xb])) Tryd.func38 (by decide) Aic Aid (np:=4) (by decide) Xc (fun _=>r) (fun _=>r) (by decide)<|?_
 rintro ⟨c1,f2,i3,params4⟩
 show TrE (specs [(8,Mv),(64,Uj),(39,PU)]) AfE (Mx [(0,(2,59))] (.row 5 57) [(.t 8)] XS XR) ⟨[(0,.optr 8192 0 0 0),(1,.agg [.int .i64 f2.Params,.sl (f2.Slots.map LY),.sl (f2.Code.map LV)]),(2,.int .i64 i3),(3,.sl (params4.map LR))],[(8192,some (0,⟨false,true,2,59,[.agg [.sl (c1.list.map eU8),.int .i64 c1.at_]]⟩))],262144⟩ (PD c1 f2 i3 params4)
 refine Mp<|?_
 unfold AfE PD
 refine sQ<|rG<|bX r r r r r<|aN (α:=LS) r LV r<|nI<|xS<|sQ<|rG<|mV r r<|bD fun r5 hr5=>cV (c1,4) r r r Mg r r (by simp) r hr5<|aS r r<|nI<|xS<|sQ<|rG<|fA r r<|lO (v:=.sl (f2.Slots.map LY)) (z:=.agg [.int .i64 f2.Params,.sl (f2.Slots.map LY),.sl (f2.Code.map LV)]) r r r r r r<|lS r r<|aS r r<|nI<|xS<|sQ<|rG<|mV r r<|bD fun r6 hr6=>cV (r5.2,20) r r r Mg r r (by simp) r hr6<|aS r r<|nI<|xS<|bC (E:=fun (s : Unit) (g : Unit)=>[(9,.int .i64 r5.1)]) (O:=fun s g=>[(8192,some (0,⟨false,true,2,59,[.agg [.sl (r6.2.list.map eU8),.int .i64 r6.2.at_]]⟩))]) (j:=fun s=>Tt r5 r6) ?_ ?_
 ·refine sC (E:=fun (s : Bool) (g : Nat)=>[(0,.optr 8192 0 0 0),(2,.int .i64 i3),(3,.sl (params4.map LR)),(5,.optr 5 g 0 0),(9,.int .i64 r5.1),(10,.int .i64 (f2.Slots.length : Int)),(11,.int .i64 r6.1),(23,.bool s)]) (O:=fun s g=>[(5,some (g,⟨false,true,3,33,[.agg [.int .i64 f2.Params,.sl (f2.Slots.map LY),.sl (f2.Code.map LV)]]⟩)),(8192,some (0,⟨false,true,2,59,[.agg [.sl (r6.2.list.map eU8),.int .i64 r6.2.at_]]⟩))]) (j:=fun s=>Ow r6 f2 r5 params4 i3 s) ?_ ?_
  ·refine rG<|mV r r<|bN (v:=.bool (decide (r6.1 < 3))) r r r r r<|mV r r<|sP 26 (b:=(decide (r6.1 < 3))) r ?_ ?_
   ·exact mV r r<|bN (v:=.bool (decide ((f2.Slots.length : Int) > 0))) r r r r r<|pT r r r r<|aS r r<|nI<|xC (s:=(decide ((f2.Slots.length : Int) > 0))) _ ((hE ⟨rfl,r,r,r,r,r,r,r,trivial⟩ ⟨rfl,r,trivial⟩))
   ·exact oF r<|oF r<|pF r r r r<|aS r r<|nI<|xC (s:=false) _ ((hE ⟨rfl,r,r,r,r,r,r,r,trivial⟩ ⟨rfl,r,trivial⟩))
  ·rintro x7 v5x1 nn
   try dsimp only
   unfold Ow
   refine cD (c:=x7) r ?_ ?_
   ·refine sQ<|rG<|mV r r<|mV r r<|bD fun r8 hr8=>cV (r6.2,(f2.Slots.length : Int)) r r r Mg r r (by simp) r hr8<|mV r r<|bL (cs:=[.int .i64 16,.int .i64 r8.1,.int .i64 r5.1,.int .i64 0,.int .u64 0]) (ps:=[(0,1,.int .i64 16),(1,1,.int .i64 r8.1),(2,1,.int .i64 r5.1)]) r r r r<|bS ([(LS.mk 16 r8.1 r5.1 0 0)] : List LS) LV r r r (by simp) r r r<|aO (l:=([(LS.mk 16 r8.1 r5.1 0 0)] : List LS)) (en:=LV) r r r r<|nI<|xS<|rT<|yR<|MA (b:=(([(LS.mk 16 r8.1 r5.1 0 0)] : List LS),r8.2)) r ?_ r r ?_ r ?_ (congrArg D.sl (Md _ _ r)) r
    all_goals first|(simp;done)|(simp;omega)|rfl|(simp [Ma,LZ];done)
   ·refine sC (E:=fun (s : Bool) (g : Nat)=>[(0,.optr 8192 0 0 0),(2,.int .i64 i3),(3,.sl (params4.map LR)),(5,.optr 5 g 0 0),(9,.int .i64 r5.1),(10,.int .i64 (f2.Slots.length : Int)),(11,.int .i64 r6.1),(36,.bool s)]) (O:=fun s g=>[(5,some (g,⟨false,true,3,33,[.agg [.int .i64 f2.Params,.sl (f2.Slots.map LY),.sl (f2.Code.map LV)]]⟩)),(8192,some (0,⟨false,true,2,59,[.agg [.sl (r6.2.list.map eU8),.int .i64 r6.2.at_]]⟩))]) (j:=fun s=>Ox r6 f2 r5 params4 i3 s) ?_ ?_
    ·refine rG<|mV r r<|bN (v:=.bool (decide (r6.1 < 6))) r r r r r<|mV r r<|sP 39 (b:=(decide (r6.1 < 6))) r ?_ ?_
     ·exact mV r r<|bN (v:=.bool (decide ((f2.Slots.length : Int) > 0))) r r r r r<|pT r r r r<|aS r r<|nI<|xC (s:=(decide ((f2.Slots.length : Int) > 0))) _ ((hE ⟨rfl,r,r,r,r,r,r,r,trivial⟩ ⟨rfl,r,trivial⟩))
     ·exact oF r<|oF r<|pF r r r r<|aS r r<|nI<|xC (s:=false) _ ((hE ⟨rfl,r,r,r,r,r,r,r,trivial⟩ ⟨rfl,r,trivial⟩))
    ·rintro x9 v5x2 nn
     try dsimp only
     unfold Ox
     refine cD (c:=x9) r ?_ ?_
     ·refine sQ<|rG<|mV r r<|mV r r<|mV r r<|bD fun r10 hr10=>cV (r6.2,(f2.Slots.length : Int)) r r r Mg r r (by simp) r hr10<|bL (cs:=[.int .i64 15,.int .i64 r5.1,.int .i64 r10.1,.int .i64 0,.int .u64 0]) (ps:=[(0,1,.int .i64 15),(1,1,.int .i64 r5.1),(2,1,.int .i64 r10.1)]) r r r r<|bS ([(LS.mk 15 r5.1 r10.1 0 0)] : List LS) LV r r r (by simp) r r r<|aO (l:=([(LS.mk 15 r5.1 r10.1 0 0)] : List LS)) (en:=LV) r r r r<|nI<|xS<|rT<|yR<|MA (b:=(([(LS.mk 15 r5.1 r10.1 0 0)] : List LS),r10.2)) r ?_ r r ?_ r ?_ (congrArg D.sl (Md _ _ r)) r
      all_goals first|(simp;done)|(simp;omega)|rfl|(simp [Ma,LZ];done)
     ·refine sC (E:=fun (s : Bool) (g : Nat)=>[(0,.optr 8192 0 0 0),(2,.int .i64 i3),(3,.sl (params4.map LR)),(5,.optr 5 g 0 0),(9,.int .i64 r5.1),(10,.int .i64 (f2.Slots.length : Int)),(11,.int .i64 r6.1),(49,.bool s)]) (O:=fun s g=>[(5,some (g,⟨false,true,3,33,[.agg [.int .i64 f2.Params,.sl (f2.Slots.map LY),.sl (f2.Code.map LV)]]⟩)),(8192,some (0,⟨false,true,2,59,[.agg [.sl (r6.2.list.map eU8),.int .i64 r6.2.at_]]⟩))]) (j:=fun s=>Oy r6 f2 r5 params4 i3 s) ?_ ?_
      ·refine rG<|mV r r<|bN (v:=.bool (decide (r6.1 < 9))) r r r r r<|mV r r<|sP 52 (b:=(decide (r6.1 < 9))) r ?_ ?_
       ·exact mV r r<|bN (v:=.bool (decide ((f2.Slots.length : Int) > 0))) r r r r r<|pT r r r r<|aS r r<|nI<|xC (s:=(decide ((f2.Slots.length : Int) > 0))) _ ((hE ⟨rfl,r,r,r,r,r,r,r,trivial⟩ ⟨rfl,r,trivial⟩))
       ·exact oF r<|oF r<|pF r r r r<|aS r r<|nI<|xC (s:=false) _ ((hE ⟨rfl,r,r,r,r,r,r,r,trivial⟩ ⟨rfl,r,trivial⟩))
      ·rintro x11 v5x3 nn
       try dsimp only
       unfold Oy
       refine cD (c:=x11) r ?_ ?_
       ·refine sQ<|rG<|mV r r<|mV r r<|bD fun r12 hr12=>cV (r6.2,(f2.Slots.length : Int)) r r r Mg r r (by simp) r hr12<|aS r r<|nI<|xS<|sQ<|rG<|mV r r<|lO (v:=.agg [.int .i64 f2.Params,.sl (f2.Slots.map LY),.sl (f2.Code.map LV)]) (z:=.agg [.int .i64 f2.Params,.sl (f2.Slots.map LY),.sl (f2.Code.map LV)]) r r r r r r<|mV r r<|bD fun r13 hr13=>cV (r12.2,f2,r12.1) r r r Xd r r (by simp) r hr13<|mV r r<|bL (cs:=[.int .i64 17,.int .i64 r13.1,.int .i64 r12.1,.int .i64 0,.int .u64 0]) (ps:=[(0,1,.int .i64 17),(1,1,.int .i64 r13.1),(2,1,.int .i64 r12.1)]) r r r r<|bS ([(LS.mk 17 r13.1 r12.1 0 0)] : List LS) LV r r r (by simp) r r r<|aO (l:=([(LS.mk 17 r13.1 r12.1 0 0)] : List LS)) (en:=LV) r r r r<|nI<|xS<|rT<|yR<|MA (b:=(([(LS.mk 17 r13.1 r12.1 0 0)] : List LS),r13.2)) r ?_ r r ?_ r ?_ (congrArg D.sl (Md _ _ r)) r
        all_goals first|(simp;done)|(simp;omega)|rfl|(simp [Ma,LZ];done)
       ·refine sQ<|rG<|mV r r<|bN (v:=.bool (decide (r6.1 < 11))) r r r r r<|aS r r<|nI<|xS<|cD (c:=(decide (r6.1 < 11))) r ?_ ?_
        ·refine sQ<|rG<|mV r r<|mV r r<|bD fun r14 hr14=>cV r6.2 r r r Ts r r (by simp) r hr14<|bL (cs:=[.int .i64 0,.int .i64 r5.1,.int .i64 0,.int .i64 0,.int .u64 r14.1]) (ps:=[(0,1,.int .i64 0),(1,1,.int .i64 r5.1),(4,1,.int .u64 r14.1)]) r r r r<|bS ([(LS.mk 0 r5.1 0 0 r14.1)] : List LS) LV r r r (by simp) r r r<|aO (l:=([(LS.mk 0 r5.1 0 0 r14.1)] : List LS)) (en:=LV) r r r r<|nI<|xS<|rT<|yR<|MA (b:=(([(LS.mk 0 r5.1 0 0 r14.1)] : List LS),r14.2)) r ?_ r r ?_ r ?_ (congrArg D.sl (Md _ _ r)) r
         all_goals first|(simp;done)|(simp;omega)|rfl|(simp [Ma,LZ];done)
        ·refine sQ<|rG<|mV r r<|bN (v:=.bool (decide (r6.1 < 13))) r r r r r<|aS r r<|nI<|xS<|cD (c:=(decide (r6.1 < 13))) r ?_ ?_
         ·refine sQ<|rG<|mV r r<|bD fun r15 hr15=>cV (r6.2,10) r r r Mg r r (by simp) r hr15<|bN (v:=.int .i64 (IntKind.i64.wrap (2 + r15.1))) r r r r r<|mV r r<|mV r r<|bD fun r16 hr16=>cV (r15.2,4) r r r Mg r r (by simp) r hr16<|mV r r<|bD fun r17 hr17=>cV (r16.2,8) r r r Mg r r (by simp) r hr17<|bL (cs:=[.int .i64 (IntKind.i64.wrap (2 + r15.1)),.int .i64 r5.1,.int .i64 r16.1,.int .i64 r17.1,.int .u64 0]) (ps:=[(0,1,.int .i64 (IntKind.i64.wrap (2 + r15.1))),(1,1,.int .i64 r5.1),(2,1,.int .i64 r16.1),(3,1,.int .i64 r17.1)]) r r r r<|bS ([(LS.mk (IntKind.i64.wrap (2 + r15.1)) r5.1 r16.1 r17.1 0)] : List LS) LV r r r (by simp) r r r<|aO (l:=([(LS.mk (IntKind.i64.wrap (2 + r15.1)) r5.1 r16.1 r17.1 0)] : List LS)) (en:=LV) r r r r<|nI<|xS<|rT<|yR<|MA (b:=(([(LS.mk (IntKind.i64.wrap (2 + r15.1)) r5.1 r16.1 r17.1 0)] : List LS),r17.2)) r ?_ r r ?_ r ?_ (congrArg D.sl (Md _ _ r)) r
          all_goals first|(simp;done)|(simp;omega)|rfl|(simp [Ma,LZ];done)
         ·refine sQ<|rG<|mV r r<|bN (v:=.bool (decide (r6.1 < 15))) r r r r r<|aS r r<|nI<|xS<|cD (c:=(decide (r6.1 < 15))) r ?_ ?_
          ·refine sQ<|rG<|mV r r<|bL (cs:=[.int .i64 14,.int .i64 r5.1,.int .i64 0,.int .i64 0,.int .u64 0]) (ps:=[(0,1,.int .i64 14),(1,1,.int .i64 r5.1)]) r r r r<|bS ([(LS.mk 14 r5.1 0 0 0)] : List LS) LV r r r (by simp) r r r<|aO (l:=([(LS.mk 14 r5.1 0 0 0)] : List LS)) (en:=LV) r r r r<|nI<|xS<|rT<|yR<|MA (b:=(([(LS.mk 14 r5.1 0 0 0)] : List LS),r6.2)) r ?_ r r ?_ r ?_ (congrArg D.sl (Md _ _ r)) r
           all_goals first|(simp;done)|(simp;omega)|rfl|(simp [Ma,LZ];done)
          ·refine sQ<|rG<|mV r r<|bN (v:=.bool (r6.1 == 15)) r r r r r<|aS r r<|nI<|xS<|cD (c:=(r6.1 == 15)) r ?_ ?_
           ·refine sQ<|rG<|bS ([13,12,1] : List Int) LR r r r (by simp) r r r<|mV r r<|bD fun r18 hr18=>cV (r6.2,3) r r r Mg r r (by simp) r hr18<|cK fun hq=>iO (l:=([13,12,1] : List Int)) (en:=LR) r r r r r hq<|bD fun x_e19 hx_e19=>lO (v:=.int .i64 x_e19) (z:=LR x_e19) r r r (OU hx_e19) r r<|mV r r<|bL (cs:=[.int .i64 x_e19,.int .i64 r5.1,.int .i64 0,.int .i64 0,.int .u64 0]) (ps:=[(0,1,.int .i64 x_e19),(1,1,.int .i64 r5.1)]) r r r r<|bS ([(LS.mk x_e19 r5.1 0 0 0)] : List LS) LV r r r (by simp) r r r<|aO (l:=([(LS.mk x_e19 r5.1 0 0 0)] : List LS)) (en:=LV) r r r r<|nI<|xS<|rT<|yR<|MA (b:=(([(LS.mk x_e19 r5.1 0 0 0)] : List LS),r18.2)) r ?_ r r ?_ r ?_ (congrArg D.sl (Md _ _ r)) r
            all_goals first|(simp;done)|(simp;omega)|rfl|(simp [Ma,LZ];done)
           ·refine sC (E:=fun (s : Bool) (g : Nat)=>[(0,.optr 8192 0 0 0),(2,.int .i64 i3),(3,.sl (params4.map LR)),(5,.optr 5 g 0 0),(9,.int .i64 r5.1),(11,.int .i64 r6.1),(104,.bool s)]) (O:=fun s g=>[(5,some (g,⟨false,true,3,33,[.agg [.int .i64 f2.Params,.sl (f2.Slots.map LY),.sl (f2.Code.map LV)]]⟩)),(8192,some (0,⟨false,true,2,59,[.agg [.sl (r6.2.list.map eU8),.int .i64 r6.2.at_]]⟩))]) (j:=fun s=>Oz r6 f2 r5 params4 i3 s) ?_ ?_
            ·refine rG<|mV r r<|bN (v:=.bool (r6.1 == 16)) r r r r r<|mV r r<|sP 107 (b:=(r6.1 == 16)) r ?_ ?_
             ·exact fA r r<|lO (v:=.int .i64 f2.Params) (z:=.agg [.int .i64 f2.Params,.sl (f2.Slots.map LY),.sl (f2.Code.map LV)]) r r r r r r<|bN (v:=.bool (decide (f2.Params > 0))) r r r r r<|pT r r r r<|aS r r<|nI<|xC (s:=(decide (f2.Params > 0))) _ ((hE ⟨rfl,r,r,r,r,r,r,trivial⟩ ⟨rfl,r,trivial⟩))
             ·exact oF r<|oF r<|oF r<|pF r r r r<|aS r r<|nI<|xC (s:=false) _ ((hE ⟨rfl,r,r,r,r,r,r,trivial⟩ ⟨rfl,r,trivial⟩))
            ·rintro x20 v5x4 nn
             try dsimp only
             unfold Oz
             refine cD (c:=x20) r ?_ ?_
             ·refine sQ<|rG<|mV r r<|mV r r<|fA r r<|lO (v:=.int .i64 f2.Params) (z:=.agg [.int .i64 f2.Params,.sl (f2.Slots.map LY),.sl (f2.Code.map LV)]) r r r r r r<|bD fun r21 hr21=>cV (r6.2,f2.Params) r r r Mg r r (by simp) r hr21<|bL (cs:=[.int .i64 19,.int .i64 r5.1,.int .i64 r21.1,.int .i64 0,.int .u64 0]) (ps:=[(0,1,.int .i64 19),(1,1,.int .i64 r5.1),(2,1,.int .i64 r21.1)]) r r r r<|bS ([(LS.mk 19 r5.1 r21.1 0 0)] : List LS) LV r r r (by simp) r r r<|aO (l:=([(LS.mk 19 r5.1 r21.1 0 0)] : List LS)) (en:=LV) r r r r<|nI<|xS<|rT<|yR<|MA (b:=(([(LS.mk 19 r5.1 r21.1 0 0)] : List LS),r21.2)) r ?_ r r ?_ r ?_ (congrArg D.sl (Md _ _ r)) r
              all_goals first|(simp;done)|(simp;omega)|rfl|(simp [Ma,LZ];done)
             ·refine sC (E:=fun (s : Bool) (g : Unit)=>[(0,.optr 8192 0 0 0),(2,.int .i64 i3),(3,.sl (params4.map LR)),(9,.int .i64 r5.1),(119,.bool s)]) (O:=fun s g=>[(8192,some (0,⟨false,true,2,59,[.agg [.sl (r6.2.list.map eU8),.int .i64 r6.2.at_]]⟩))]) (j:=fun s=>OA r6 params4 i3 r5 s) ?_ ?_
              ·refine rG<|mV r r<|bN (v:=.bool (decide (r6.1 ≥ 17))) r r r r r<|mV r r<|sP 122 (b:=(decide (r6.1 ≥ 17))) r ?_ ?_
               ·exact mV r r<|bN (v:=.int .i64 (IntKind.i64.wrap (i3 + 1))) r r r r r<|mV r r<|lS r r<|bN (v:=.bool (decide ((IntKind.i64.wrap (i3 + 1)) < (params4.length : Int)))) r r r r r<|pT r r r r<|aS r r<|nI<|xC (s:=(decide ((IntKind.i64.wrap (i3 + 1)) < (params4.length : Int)))) () ((hE ⟨rfl,r,r,r,r,trivial⟩ ⟨rfl,trivial⟩))
               ·exact oF r<|oF r<|oF r<|oF r<|oF r<|pF r r r r<|aS r r<|nI<|xC (s:=false) () ((hE ⟨rfl,r,r,r,r,trivial⟩ ⟨rfl,trivial⟩))
              ·rintro x22 ⟨⟩ nn
               try dsimp only
               unfold OA
               refine cD (c:=x22) r ?_ ?_
               ·refine sQ<|rG<|mV r r<|bN (v:=.int .i64 (IntKind.i64.wrap (i3 + 1))) r r r r r<|mV r r<|mV r r<|lS r r<|mV r r<|bN (v:=.int .i64 (IntKind.i64.wrap ((params4.length : Int) - i3))) r r r r r<|bN (v:=.int .i64 (IntKind.i64.wrap ((IntKind.i64.wrap ((params4.length : Int) - i3)) - 1))) r r r r r<|bD fun r23 hr23=>cV (r6.2,IntKind.i64.wrap ((IntKind.i64.wrap ((params4.length : Int) - i3)) - 1)) r r r Mg r r (by simp) r hr23<|bN (v:=.int .i64 (IntKind.i64.wrap ((IntKind.i64.wrap (i3 + 1)) + r23.1))) r r r r r<|aS r r<|nI<|xS<|sQ<|rG<|aN (α:=LS) r LV r<|nI<|xS<|sQ<|sQ<|rG<|aS r r<|nI<|xS<|bK<|lP (E:=fun (s : (List Int) × Int × (List LS) × Int) (g : Nat)=>[(0,.optr 8192 0 0 0),(3,.sl (params4.map LR)),(13,.int .i64 (IntKind.i64.wrap ((IntKind.i64.wrap (i3 + 1)) + r23.1))),(14,.osl 14 g 0 s.2.2.1.length),(15,.int .i64 s.2.2.2)]) (O:=fun s g=>[(14,some (g,⟨false,false,5,57,s.2.2.1.map LV⟩)),(8192,some (0,⟨false,true,2,59,[.agg [.sl (s.1.map eU8),.int .i64 s.2.1]]⟩))]) (body:=fun s=>Rb params4 i3 r23 s.1 s.2.1 s.2.2.1 s.2.2.2) (s:=(r23.2.list,r23.2.at_,([] : List LS),0)) _ ((hE ⟨rfl,r,r,r,r,trivial⟩ ⟨rfl,r,trivial⟩))<|?_
                rintro ⟨c24,c25,out26,a27⟩ v14x6 nn
                try dsimp only
                unfold Rb
                refine sQ<|sQ<|rG<|mV r r<|mV r r<|mV r r<|bD fun x_x28 hx_x28=>iS (en:=LR) r r r hx_x28 r<|lF (v:=.int .i64 x_x28) r r r r<|bN (v:=.bool (decide (a27 < x_x28))) r r r r r<|nI<|xS<|cD (c:=(decide (a27 < x_x28))) r ?_ ?_
                ·refine sK<|xS<|sQ<|bK<|sQ<|rG<|mV r r<|bD fun r29 hr29=>cV ((LU.mk c24 c25),8) r r r Mg r r (by simp) r hr29<|bN (v:=.bool (decide (r29.1 < 7))) r r r r r<|nI<|xS<|cD (c:=(decide (r29.1 < 7))) r ?_ ?_
                 ·exact rG<|mV r r<|mV r r<|mV r r<|bD fun r30 hr30=>cV (r29.2,4) r r r Mg r r (by simp) r hr30<|bL (cs:=[.int .i64 18,.int .i64 a27,.int .i64 r30.1,.int .i64 0,.int .u64 0]) (ps:=[(0,1,.int .i64 18),(1,1,.int .i64 a27),(2,1,.int .i64 r30.1)]) r r r r<|bS ([(LS.mk 18 a27 r30.1 0 0)] : List LS) LV r r r (by simp) r r r<|cK fun hq=>aP (out26) (([(LS.mk 18 a27 r30.1 0 0)] : List LS)) LV r r r r r r r (by simp) (Mr _ _ r) r r (by simp) (Md _ _ r) (fun _=>r) r hq<|aO (l:=out26 ++ ([(LS.mk 18 a27 r30.1 0 0)] : List LS)) (en:=LV) r r r r<|nI<|bM<|xS<|rG<|mV r r<|bN (v:=.int .i64 (IntKind.i64.wrap (a27 + 1))) r r r r r<|aS r r<|nI<|xL (s:=(r30.2.list,r30.2.at_,out26 ++ ([(LS.mk 18 a27 r30.1 0 0)] : List LS),IntKind.i64.wrap (a27 + 1))) _ ((hE ⟨rfl,r,r,r,r,trivial⟩ ⟨rfl,r,trivial⟩))
                 ·exact sK<|bM<|xS<|rG<|mV r r<|bN (v:=.int .i64 (IntKind.i64.wrap (a27 + 1))) r r r r r<|aS r r<|nI<|xL (s:=(r29.2.list,r29.2.at_,out26,IntKind.i64.wrap (a27 + 1))) _ ((hE ⟨rfl,r,r,r,r,trivial⟩ ⟨rfl,r,trivial⟩))
                ·refine eT<|xE<|lE<|bH<|xS<|sQ<|rG<|mV r r<|mV r r<|bL (cs:=[.int .i64 22,.int .i64 (IntKind.i64.wrap ((IntKind.i64.wrap (i3 + 1)) + r23.1)),.int .i64 0,.int .i64 0,.int .u64 0]) (ps:=[(0,1,.int .i64 22),(1,1,.int .i64 (IntKind.i64.wrap ((IntKind.i64.wrap (i3 + 1)) + r23.1)))]) r r r r<|bS ([(LS.mk 22 (IntKind.i64.wrap ((IntKind.i64.wrap (i3 + 1)) + r23.1)) 0 0 0)] : List LS) LV r r r (by simp) r r r<|cK fun hq=>aP (out26) (([(LS.mk 22 (IntKind.i64.wrap ((IntKind.i64.wrap (i3 + 1)) + r23.1)) 0 0 0)] : List LS)) LV r r r r r r r (by simp) (Mr _ _ r) r r (by simp) (Md _ _ r) (fun _=>r) r hq<|aO (l:=out26 ++ ([(LS.mk 22 (IntKind.i64.wrap ((IntKind.i64.wrap (i3 + 1)) + r23.1)) 0 0 0)] : List LS)) (en:=LV) r r r r<|nI<|xS<|rT<|yR<|MA (b:=(out26 ++ ([(LS.mk 22 (IntKind.i64.wrap ((IntKind.i64.wrap (i3 + 1)) + r23.1)) 0 0 0)] : List LS),(LU.mk c24 c25))) r ?_ r r ?_ r ?_ (congrArg D.sl (Md _ _ r)) r
                 all_goals first|(simp;done)|(simp;omega)|rfl|(simp [Ma,LZ];done)
               ·exact sK<|PN (s:=()) () ((hE ⟨rfl,trivial⟩ ⟨rfl,trivial⟩))
 ·rintro ⟨⟩ ⟨⟩ nn
  try dsimp only
  unfold Tt
  refine sQ<|rG<|mV r r<|bL (cs:=[.int .i64 14,.int .i64 r5.1,.int .i64 0,.int .i64 0,.int .u64 0]) (ps:=[(0,1,.int .i64 14),(1,1,.int .i64 r5.1)]) r r r r<|bS ([(LS.mk 14 r5.1 0 0 0)] : List LS) LV r r r (by simp) r r r<|aO (l:=([(LS.mk 14 r5.1 0 0 0)] : List LS)) (en:=LV) r r r r<|nI<|xS<|rT<|MA (b:=(([(LS.mk 14 r5.1 0 0 0)] : List LS),r6.2)) r ?_ r r ?_ r ?_ (congrArg D.sl (Md _ _ r)) r
  all_goals first|(simp;done)|(simp;omega)|rfl|(simp [Ma,LZ];done)

end Go.Proofs.YtfpgidpffhmadaaDoor
