/-
  Programs on typed data, and the proofs that the code does what they say; written by a program (dx.py).
-/
import Derived.Test.YtfpgidpffhmadaaDoorProg
import Derived.Test.YtfpgidpffhmadaaDoorDc
import Derived.KernelRfl
import Derived.Test.YtfpgidpffhmadaaDoorSh
import Derived.Test.YtfpgidpffhmadaaDoorDxP
namespace Go.Proofs.YtfpgidpffhmadaaDoor
open Go Go.Dw Go.Proofs
set_option maxRecDepth 100000
open Go.Dw renaming Aak → mV,Yj → bN,Sn → lO,WN → bD,Ym → cK,Yo → nI,Yr → xS,Aam → rG,Aao → sQ,SI → aO,Yi → aS,Yp → oF,Yk → bL,Zb → bS,RN → cV,PM → cG,TK → cR,Aaj → aP,So → sV,TX → iS,TY → lS,WO → fA,Yg → fF,AbF → nC,UZ → lF,Vo → sP,QU → pT,Qp → pF,Aal → uN,Adb → cT,Yn → nW,Yl → bX,SH → aN,Aay → aL,Ys → cD,WR → bK,Aan → rT,Yv → sK,Yt → eT,Yq → xC,WQ → xL,SK → xR,WU → zR,VZ → lR,Vj → hE,QV → lE,RP → bH,Qq → bM,SJ → bR,RQ → xE,Zc → cP,Yu → lP,TZ → sC,KL → mF,rf → r
def AfU : Ml:=(.seq (.reg [P 2 (.asg (.c (.bool false)) none)] false) (.seq (.reg [M 3 0,P 4 (.bin .geq (T 3) (C 0)),M 5 4,⟨(some 6),(.mv (T 0)),(some ⟨5,true⟩),[]⟩,⟨(some 7),(.bin .lss (T 6) (C 512)),(some ⟨5,true⟩),[]⟩,P 8 (.pick (T 5) (T 7) (.c (.bool false))),P 2 (.asg (T 8) none)] false) .ret))
theorem AiI : (Tryd.f58.body.bind (Mn Tryd.prog Tryd.f58.ntmps)) = some AfU:=by kernel_rfl
theorem AiJ : Tryd.f58.results.toList.mapM (Mw Tryd.prog) = some [(.t 2)]:=by kernel_rfl
def RB (a : Int) : List D:=[.int .i64 a]
def RA (ds : List D) : Int:=uI (ds.getD 0 .top)
theorem RY (a : Int) : RA (RB a) = a:=by simp [RA,RB,uI]
def Wc (b : Bool) : D:=.bool b
def Wb (_b : Bool) : List D:=[]
noncomputable def Pc : Dw.Spec:=Mk [] .ground RB RA (fun a=>Nw a) Wc Wb
set_option maxHeartbeats 4000000 in
theorem Vx : Mi Tryd.prog 58 Pc:=by
 refine Mu (Nn) Tryd.func58 (by decide) AiI AiJ (np:=1) (by decide) RY (fun _=>r) (fun _=>r) (by decide)<|?_
 intro n1
 show TrE (specs []) AfU (Mx [] .ground [(.t 2)] Wc Wb) ⟨[(0,.int .i64 n1)],[],262144⟩ (Nw n1)
 refine Mp<|?_
 unfold AfU Nw
 refine sQ<|rG<|aS r r<|nI<|xS<|sQ<|rG<|mV r r<|bN (v:=.bool (decide (n1 ≥ 0))) r r r r r<|mV r r<|sP 5 (b:=(decide (n1 ≥ 0))) r ?_ ?_
 ·refine mV r r<|bN (v:=.bool (decide (n1 < 512))) r r r r r<|pT r r r r<|aS r r<|nI<|xS<|rT<|Mf (b:=(decide (n1 < 512))) r ?_ r r ?_ r
  all_goals first|(simp;done)|(simp;omega)|rfl|(simp [Ma,LZ];done)
 ·refine oF r<|oF r<|pF r r r r<|aS r r<|nI<|xS<|rT<|Mf (b:=false) r ?_ r r ?_ r
  all_goals first|(simp;done)|(simp;omega)|rfl|(simp [Ma,LZ];done)

def AfB : Ml:=(.seq (.reg [P 2 (.asg (.c (.bool false)) none)] false) (.seq (.seq (.reg [M 5 0,P 6 (.len false (T 5)),P 7 (.mv (C 0))] false) (.block 0 (.loop (.seq (.reg [P 8 (.bin .lss (T 7) (T 6))] false) (.seq (.cond (T 8) .skip (.exit 0)) (.seq (.block 1 (.seq (.reg [M 9 7,P 10 (.ixA 1 (T 5) (T 7)),P 11 (.ld 1 false (T 10)),P 3 (.asg (T 9) none),P 4 (.asg (T 11) none)] false) (.seq (.reg [M 12 4,P 13 (.call (.c (.clo 58 [])) [(T 12)]),P 14 (.un .not (T 13)),M 15 14,⟨(some 16),(.mv (T 3)),(some ⟨15,false⟩),[]⟩,⟨(some 17),(.bin .gtr (T 16) (C 0)),(some ⟨15,false⟩),[]⟩,⟨(some 18),(.mv (T 17)),(some ⟨15,false⟩),[]⟩,⟨(some 19),(.mv (T 4)),(some ⟨18,true⟩),[]⟩,⟨(some 20),(.mv (T 0)),(some ⟨18,true⟩),[]⟩,⟨(some 21),(.mv (T 3)),(some ⟨18,true⟩),[]⟩,⟨(some 22),(.bin .sub (T 21) (C 1)),(some ⟨18,true⟩),[]⟩,⟨(some 23),(.ixA 1 (T 20) (T 22)),(some ⟨18,true⟩),[]⟩,⟨(some 24),(.ld 1 false (T 23)),(some ⟨18,true⟩),[]⟩,⟨(some 25),(.bin .leq (T 19) (T 24)),(some ⟨18,true⟩),[]⟩,⟨(some 26),(.pick (T 18) (T 25) (.c (.bool false))),(some ⟨15,false⟩),[]⟩,P 27 (.pick (T 15) (.c (.bool true)) (T 26))] false) (.cond (T 27) (.seq (.reg [P 2 (.asg (.c (.bool false)) none)] false) .ret) .skip)))) (.reg [P 28 (.bin .add (T 7) (C 1)),M 7 28] false))))))) (.seq (.reg [P 2 (.asg (.c (.bool true)) none)] false) .ret)))
theorem AhW : (Tryd.f33.body.bind (Mn Tryd.prog Tryd.f33.ntmps)) = some AfB:=by kernel_rfl
theorem AhX : Tryd.f33.results.toList.mapM (Mw Tryd.prog) = some [(.t 2)]:=by kernel_rfl
def UJ (a : (List Int)) : List D:=[.sl (a.map LR)]
def UI (ds : List D) : (List Int):=(uL uI) (ds.getD 0 .top)
theorem Zj (a : (List Int)) : UI (UJ a) = a:=by simp [UI,UJ,NF (u:=uI) (en:=LR) (fun _=>rfl)]
def ZT (b : Bool) : D:=.bool b
def ZS (_b : Bool) : List D:=[]
noncomputable def Wm : Dw.Spec:=Mk [] .ground UJ UI (fun a=>Rx a) ZT ZS
set_option maxHeartbeats 4000000 in
theorem Acw : Mi Tryd.prog 33 Wm:=by
 refine Mu (Mo (l:=[(58,Pc)]) (by simp [Vx])) Tryd.func33 (by decide) AhW AhX (np:=1) (by decide) Zj (fun _=>r) (fun _=>r) (by decide)<|?_
 intro s1
 show TrE (specs [(58,Pc)]) AfB (Mx [] .ground [(.t 2)] ZT ZS) ⟨[(0,.sl (s1.map LR))],[],262144⟩ (Rx s1)
 refine Mp<|?_
 unfold AfB Rx
 refine sQ<|rG<|aS r r<|nI<|xS<|sQ<|sQ<|rG<|mV r r<|lS r r<|mV r r<|nI<|xS<|bK<|lP (E:=fun (s : Int) (g : Unit)=>[(0,.sl (s1.map LR)),(5,.sl (s1.map LR)),(6,.int .i64 (s1.length : Int)),(7,.int .i64 s)]) (O:=fun s g=>[]) (body:=fun s=>Oe s1 s) (s:=0) () ((hE ⟨rfl,r,r,r,trivial⟩ trivial))<|?_
 rintro x2 ⟨⟩ nn
 try dsimp only
 unfold Oe
 refine sQ<|rG<|bN (v:=.bool (decide (x2 < (s1.length : Int)))) r r r r r<|nI<|xS<|sQ<|cD (c:=(decide (x2 < (s1.length : Int)))) r ?_ ?_
 ·refine sK<|xS<|sQ<|bK<|sQ<|rG<|mV r r<|bD fun x_x3 hx_x3=>iS (en:=LR) r r r hx_x3 r<|lF (v:=.int .i64 x_x3) r r r r<|aS r r<|aS r r<|nI<|xS<|sQ<|rG<|mV r r<|bD fun r4 hr4=>cG x_x3 r r r RY r r (by simp) r hr4 r<|uN (w:=.bool (!r4)) r r r r trivial<|mV r r<|sP 15 (b:=(!r4)) r ?_ ?_
  ·refine oF r<|oF r<|oF r<|oF r<|oF r<|oF r<|oF r<|oF r<|oF r<|oF r<|oF r<|pT r r r r<|nI<|xS<|MY r<|sQ<|rG<|aS r r<|nI<|xS<|rT<|bR<|xR<|lR<|bR<|xR<|Mf (b:=false) r ?_ r r ?_ r
   all_goals first|(simp;done)|(simp;omega)|rfl|(simp [Ma,LZ];done)
  ·refine mV r r<|bN (v:=.bool (decide (x2 > 0))) r r r r r<|mV r r<|sP 18 (b:=(decide (x2 > 0))) r ?_ ?_
   ·refine mV r r<|mV r r<|mV r r<|bN (v:=.int .i64 (IntKind.i64.wrap (x2 - 1))) r r r r r<|bD fun x_x5 hx_x5=>iS (en:=LR) r r r hx_x5 r<|lF (v:=.int .i64 x_x5) r r r r<|bN (v:=.bool (decide (x_x3 ≤ x_x5))) r r r r r<|pT r r r r<|pF r r r r<|nI<|xS<|cD (c:=(decide (x_x3 ≤ x_x5))) r ?_ ?_
    ·refine sQ<|rG<|aS r r<|nI<|xS<|rT<|bR<|xR<|lR<|bR<|xR<|Mf (b:=false) r ?_ r r ?_ r
     all_goals first|(simp;done)|(simp;omega)|rfl|(simp [Ma,LZ];done)
    ·exact sK<|bM<|xS<|rG<|bN (v:=.int .i64 (IntKind.i64.wrap (x2 + 1))) r r r r r<|mV r r<|nI<|xL (s:=IntKind.i64.wrap (x2 + 1)) () ((hE ⟨rfl,r,r,r,trivial⟩ trivial))
   ·exact oF r<|oF r<|oF r<|oF r<|oF r<|oF r<|oF r<|pF r r r r<|pF r r r r<|nI<|xS<|Ny r<|sK<|bM<|xS<|rG<|bN (v:=.int .i64 (IntKind.i64.wrap (x2 + 1))) r r r r r<|mV r r<|nI<|xL (s:=IntKind.i64.wrap (x2 + 1)) () ((hE ⟨rfl,r,r,r,trivial⟩ trivial))
 ·refine eT<|xE<|lE<|bH<|xS<|sQ<|rG<|aS r r<|nI<|xS<|rT<|Mf (b:=true) r ?_ r r ?_ r
  all_goals first|(simp;done)|(simp;omega)|rfl|(simp [Ma,LZ];done)

def Agb : Ml:=(.seq (.reg [P 3 (.asg (.c (.bool false)) none)] false) (.seq (.reg [M 4 0,⟨(some 5),(.call (.c (.clo 33 [])) [(T 4)]),none,[0]⟩,⟨(some 6),(.un .not (T 5)),none,[1]⟩,⟨(some 7),(.mv (T 6)),none,[2,1]⟩,⟨(some 8),(.mv (T 0)),(some ⟨7,false⟩),[3]⟩,⟨(some 9),(.len false (T 8)),(some ⟨7,false⟩),[4,3]⟩,⟨(some 10),(.bin .gtr (T 9) (C 0)),(some ⟨7,false⟩),[5,3]⟩,⟨(some 11),(.mv (T 10)),(some ⟨7,false⟩),[6,3,3]⟩,⟨(some 12),(.mv (T 0)),(some ⟨11,true⟩),[7]⟩,⟨(some 13),(.mv (T 0)),(some ⟨11,true⟩),[7]⟩,⟨(some 14),(.len false (T 13)),(some ⟨11,true⟩),[9,7]⟩,⟨(some 15),(.bin .sub (T 14) (C 1)),(some ⟨11,true⟩),[10,7]⟩,⟨(some 16),(.ixA 1 (T 12) (T 15)),(some ⟨11,true⟩),[8,11,7]⟩,⟨(some 17),(.ld 1 false (T 16)),(some ⟨11,true⟩),[12,7]⟩,⟨(some 18),(.fldA 1 (T 1)),(some ⟨11,true⟩),[7]⟩,⟨(some 19),(.ld 1 false (T 18)),(some ⟨11,true⟩),[14,7]⟩,⟨(some 20),(.len false (T 19)),(some ⟨11,true⟩),[15,7]⟩,⟨(some 21),(.bin .geq (T 17) (T 20)),(some ⟨11,true⟩),[13,16,7]⟩,⟨(some 22),(.pick (T 11) (T 21) (.c (.bool false))),(some ⟨7,false⟩),[7,17,3]⟩,⟨(some 23),(.pick (T 7) (.c (.bool true)) (T 22)),none,[3,18]⟩,⟨(some 3),(.asg (T 23) none),none,[19,7,0,1,2,3,4,5,6,7,8,9,10,11,12,13,14,15,16,17,18,19]⟩] true) .ret))
theorem AiW : (Tryd.f68.body.bind (Mn Tryd.prog Tryd.f68.ntmps)) = some Agb:=by kernel_rfl
theorem AiX : Tryd.f68.results.toList.mapM (Mw Tryd.prog) = some [(.t 3)]:=by kernel_rfl
def Qd (a : (List Int) × LX) : List D:=[.sl (a.1.map LR),.fptr (MF a.2) 0]
def Qc (ds : List D) : (List Int) × LX:=((uL uI) (ds.getD 0 .top),NJ (fpD (ds.getD 1 .top)))
theorem TA (a : (List Int) × LX) : Qc (Qd a) = a:=by simp [Qc,Qd,fpD,NF (u:=uI) (en:=LR) (fun _=>rfl)]
def Ub (b : Bool) : D:=.bool b
def Ua (_b : Bool) : List D:=[]
noncomputable def QM : Dw.Spec:=Mk [] .ground Qd Qc (fun a=>NP a.1 a.2) Ub Ua
set_option maxHeartbeats 4000000 in
theorem YJ : Mi Tryd.prog 68 QM:=by
 refine Mu (Mo (l:=[(33,Wm)]) (by simp [Acw])) Tryd.func68 (by decide) AiW AiX (np:=2) (by decide) TA (fun _=>r) (fun _=>r) (by decide)<|?_
 rintro ⟨s1,cap2⟩
 show TrE (specs [(33,Wm)]) Agb (Mx [] .ground [(.t 3)] Ub Ua) ⟨[(0,.sl (s1.map LR)),(1,.fptr (.agg [.int .i64 cap2.Params,.sl (cap2.Slots.map LY),.sl (cap2.Code.map LV)]) 0)],[],262144⟩ (NP s1 cap2)
 refine Mp<|?_
 unfold Agb NP
 refine sQ<|rG<|aS r r<|nI<|xS<|sQ<|rG<|mV r r<|bD fun r3 hr3=>cG s1 r r r Zj r r (by simp) r hr3 r<|uN (w:=.bool (!r3)) r r r r trivial<|mV r r<|sP 7 (b:=(!r3)) r ?_ ?_
 ·refine oF r<|oF r<|oF r<|oF r<|oF r<|oF r<|oF r<|oF r<|oF r<|oF r<|oF r<|oF r<|oF r<|oF r<|oF r<|pT r r r r<|aS r r<|Mj (by kernel_rfl)<|xS<|rT<|Mf (b:=true) r ?_ r r ?_ r
  all_goals first|(simp;done)|(simp;omega)|rfl|(simp [Ma,LZ];done)
 ·refine mV r r<|lS r r<|bN (v:=.bool (decide ((s1.length : Int) > 0))) r r r r r<|mV r r<|sP 11 (b:=(decide ((s1.length : Int) > 0))) r ?_ ?_
  ·refine mV r r<|mV r r<|lS r r<|bN (v:=.int .i64 (IntKind.i64.wrap ((s1.length : Int) - 1))) r r r r r<|bD fun x_x4 hx_x4=>iS (en:=LR) r r r hx_x4 r<|lF (v:=.int .i64 x_x4) r r r r<|fF r r<|lF (v:=.sl (cap2.Slots.map LY)) r r r r<|lS r r<|bN (v:=.bool (decide (x_x4 ≥ (cap2.Slots.length : Int)))) r r r r r<|pT r r r r<|pF r r r r<|aS r r<|Mj (by kernel_rfl)<|xS<|rT<|Mf (b:=(decide (x_x4 ≥ (cap2.Slots.length : Int)))) r ?_ r r ?_ r
   all_goals first|(simp;done)|(simp;omega)|rfl|(simp [Ma,LZ];done)
  ·refine oF r<|oF r<|oF r<|oF r<|oF r<|oF r<|oF r<|oF r<|oF r<|oF r<|pF r r r r<|pF r r r r<|aS r r<|Mj (by kernel_rfl)<|xS<|rT<|Mf (b:=false) r ?_ r r ?_ r
   all_goals first|(simp;done)|(simp;omega)|rfl|(simp [Ma,LZ];done)

def Agn : Ml:=(.seq (.reg [P 4 (.asg (C 0) none)] false) (.seq (.seq (.reg [M 6 0,P 7 (.len false (T 6)),P 8 (.mv (C 0))] false) (.block 0 (.loop (.seq (.reg [P 9 (.bin .lss (T 8) (T 7))] false) (.seq (.cond (T 9) .skip (.exit 0)) (.seq (.block 1 (.seq (.reg [M 10 8,P 5 (.asg (T 10) none)] false) (.seq (.reg [M 11 1,M 12 0,M 13 5,P 14 (.ixA 1 (T 12) (T 13)),P 15 (.ld 1 false (T 14)),P 16 (.call (T 11) [(T 15)])] false) (.cond (T 16) (.seq (.reg [M 17 5,P 4 (.asg (T 17) none)] false) .ret) .skip)))) (.reg [P 18 (.bin .add (T 8) (C 1)),M 8 18] false))))))) (.seq (.reg [⟨(some 4),(.asg (.c (.int .i64 (-1))) none),none,[]⟩] false) .ret)))
theorem Aju : (Tryd.f82.body.bind (Mn Tryd.prog Tryd.f82.ntmps)) = some Agn:=by kernel_rfl
theorem Ajv : Tryd.f82.results.toList.mapM (Mw Tryd.prog) = some [(.t 4)]:=by kernel_rfl
def NO (a : (List (List Int)) × LX) : List D:=[.sl (a.1.map (eL LR)),.clo 68 [.fptr (MF a.2) 0]]
def NN (ds : List D) : (List (List Int)) × LX:=((uL (uL uI)) (ds.getD 0 .top),NJ (fpD (KP (ds.getD 1 .top) 0)))
theorem Py (a : (List (List Int)) × LX) : NN (NO a) = a:=by simp [NN,NO,fpD,KP,NF (u:=(uL uI)) (en:=(eL LR)) (NF (u:=uI) (en:=LR) (fun _=>rfl))]
def PL (b : Int) : D:=.int .i64 b
def PK (_b : Int) : List D:=[]
noncomputable def Nv : Dw.Spec:=Mk [] .ground NO NN (fun a=>MO a.1 a.2) PL PK
set_option maxHeartbeats 4000000 in
theorem TJ : Mi Tryd.prog 82 Nv:=by
 refine Mu (Mo (l:=[(68,QM)]) (by simp [YJ])) Tryd.func82 (by decide) Aju Ajv (np:=2) (by decide) Py (fun _=>r) (fun _=>r) (by decide)<|?_
 rintro ⟨s1,f2⟩
 show TrE (specs [(68,QM)]) Agn (Mx [] .ground [(.t 4)] PL PK) ⟨[(0,.sl (s1.map (eL LR))),(1,.clo 68 [.fptr (.agg [.int .i64 f2.Params,.sl (f2.Slots.map LY),.sl (f2.Code.map LV)]) 0])],[],262144⟩ (MO s1 f2)
 refine Mp<|?_
 unfold Agn MO
 refine sQ<|rG<|aS r r<|nI<|xS<|sQ<|sQ<|rG<|mV r r<|lS r r<|mV r r<|nI<|xS<|bK<|lP (E:=fun (s : Int) (g : Unit)=>[(0,.sl (s1.map (eL LR))),(1,.clo 68 [.fptr (.agg [.int .i64 f2.Params,.sl (f2.Slots.map LY),.sl (f2.Code.map LV)]) 0]),(7,.int .i64 (s1.length : Int)),(8,.int .i64 s)]) (O:=fun s g=>[]) (body:=fun s=>Nm s1 f2 s) (s:=0) () ((hE ⟨rfl,r,r,r,trivial⟩ trivial))<|?_
 rintro x3 ⟨⟩ nn
 try dsimp only
 unfold Nm
 refine sQ<|rG<|bN (v:=.bool (decide (x3 < (s1.length : Int)))) r r r r r<|nI<|xS<|sQ<|cD (c:=(decide (x3 < (s1.length : Int)))) r ?_ ?_
 ·refine sK<|xS<|sQ<|bK<|sQ<|rG<|mV r r<|aS r r<|nI<|xS<|sQ<|rG<|mV r r<|mV r r<|mV r r<|bD fun x_x4 hx_x4=>iS (en:=(eL LR)) r r r hx_x4 r<|lF (v:=.sl (x_x4.map LR)) r r r r<|bD fun r5 hr5=>cG (x_x4,f2) r r r TA r r (by simp) r hr5 r<|nI<|xS<|cD (c:=r5) r ?_ ?_
  ·refine sQ<|rG<|mV r r<|aS r r<|nI<|xS<|rT<|bR<|xR<|lR<|bR<|xR<|Mf (b:=x3) r ?_ r r ?_ r
   all_goals first|(simp;done)|(simp;omega)|rfl|(simp [Ma,LZ];done)
  ·exact sK<|bM<|xS<|rG<|bN (v:=.int .i64 (IntKind.i64.wrap (x3 + 1))) r r r r r<|mV r r<|nI<|xL (s:=IntKind.i64.wrap (x3 + 1)) () ((hE ⟨rfl,r,r,r,trivial⟩ trivial))
 ·refine eT<|xE<|lE<|bH<|xS<|sQ<|rG<|aS r r<|nI<|xS<|rT<|Mf (b:=(-1)) r ?_ r r ?_ r
  all_goals first|(simp;done)|(simp;omega)|rfl|(simp [Ma,LZ];done)

def Agc : Ml:=(.seq (.reg [P 4 (.asg (.c (.bool false)) none)] false) (.seq (.reg [M 5 0,M 6 1,P 7 (.call (.c (.clo 82 [])) [(T 5),(T 6)]),P 8 (.bin .geq (T 7) (C 0)),P 4 (.asg (T 8) none)] false) .ret))
theorem AiY : (Tryd.f69.body.bind (Mn Tryd.prog Tryd.f69.ntmps)) = some Agc:=by kernel_rfl
theorem AiZ : Tryd.f69.results.toList.mapM (Mw Tryd.prog) = some [(.t 4)]:=by kernel_rfl
def NA (a : (List (List Int)) × LX) : List D:=[.sl (a.1.map (eL LR)),.clo 68 [.fptr (MF a.2) 0]]
def Nz (ds : List D) : (List (List Int)) × LX:=((uL (uL uI)) (ds.getD 0 .top),NJ (fpD (KP (ds.getD 1 .top) 0)))
theorem OY (a : (List (List Int)) × LX) : Nz (NA a) = a:=by simp [Nz,NA,fpD,KP,NF (u:=(uL uI)) (en:=(eL LR)) (NF (u:=uI) (en:=LR) (fun _=>rfl))]
def Pf (b : Bool) : D:=.bool b
def Pe (_b : Bool) : List D:=[]
noncomputable def Nb : Dw.Spec:=Mk [] .ground NA Nz (fun a=>MS a.1 a.2) Pf Pe
set_option maxHeartbeats 4000000 in
theorem Su : Mi Tryd.prog 69 Nb:=by
 refine Mu (Mo (l:=[(282706,Nv)]) (by simp [TJ])) Tryd.func69 (by decide) AiY AiZ (np:=2) (by decide) OY (fun _=>r) (fun _=>r) (by decide)<|?_
 rintro ⟨s1,f2⟩
 show TrE (specs [(282706,Nv)]) Agc (Mx [] .ground [(.t 4)] Pf Pe) ⟨[(0,.sl (s1.map (eL LR))),(1,.clo 68 [.fptr (.agg [.int .i64 f2.Params,.sl (f2.Slots.map LY),.sl (f2.Code.map LV)]) 0])],[],262144⟩ (MS s1 f2)
 refine Mp<|?_
 unfold Agc MS
 refine sQ<|rG<|aS rfl rfl<|nI<|xS<|sQ<|rG<|mV rfl rfl<|mV rfl rfl<|bD fun r3 hr3=>cG (s1,f2) rfl rfl (show _ = some Nv from by kernel_rfl) Py rfl rfl (by simp) r hr3 r<|bN (v:=.bool (decide (r3 ≥ 0))) r r r r r<|aS r r<|nI<|xS<|rT<|Mf (b:=(decide (r3 ≥ 0))) r ?_ r r ?_ r
 all_goals first|(simp;done)|(simp;omega)|rfl|(simp [Ma,LZ];done)

def AfJ : Ml:=(.seq (.reg [P 2 (.box (T 0) 3 33),P 3 (.box (T 1) 1 37),P 4 (.asg (.c (.bool false)) none)] false) (.seq (.reg [P 6 (.mkf 68 [(T 2)]),P 5 (.asg (T 6) none)] false) (.seq (.reg [P 7 (.fldA 0 (T 3)),P 8 (.ld 1 false (T 7)),P 9 (.len false (T 8)),P 10 (.fldA 2 (T 2)),P 11 (.ld 1 false (T 10)),P 12 (.len false (T 11)),P 13 (.bin .eql (T 9) (T 12)),M 14 13,⟨(some 15),(.fldA 0 (T 3)),(some ⟨14,true⟩),[]⟩,⟨(some 16),(.ld 1 false (T 15)),(some ⟨14,true⟩),[]⟩,⟨(some 17),(.mv (T 5)),(some ⟨14,true⟩),[]⟩,⟨(some 18),(.call (.c (.clo 69 [])) [(T 16),(T 17)]),(some ⟨14,true⟩),[]⟩,⟨(some 19),(.un .not (T 18)),(some ⟨14,true⟩),[]⟩,P 20 (.pick (T 14) (T 19) (.c (.bool false))),P 4 (.asg (T 20) none)] false) .ret)))
theorem Aim : (Tryd.f43.body.bind (Mn Tryd.prog Tryd.f43.ntmps)) = some AfJ:=by kernel_rfl
theorem Ain : Tryd.f43.results.toList.mapM (Mw Tryd.prog) = some [(.t 4)]:=by kernel_rfl
def Sh (a : LX × Me) : List D:=[MF a.1,Nl a.2]
def Sg (ds : List D) : LX × Me:=(NJ (ds.getD 0 .top),Pb (ds.getD 1 .top))
theorem Tb (a : LX × Me) : Sg (Sh a) = a:=by simp [Sg,Sh]
def Xj (b : Bool) : D:=.bool b
def Xi (_b : Bool) : List D:=[]
noncomputable def Pw : Dw.Spec:=Mk [] .ground Sh Sg (fun a=>Ot a.1 a.2) Xj Xi
set_option maxHeartbeats 4000000 in
theorem Wg : Mi Tryd.prog 43 Pw:=by
 refine Mu (Mo (l:=[(282693,Nb)]) (by simp [Su])) Tryd.func43 (by decide) Aim Ain (np:=2) (by decide) Tb (fun _=>r) (fun _=>r) (by decide)<|?_
 rintro ⟨f1,l2⟩
 show TrE (specs [(282693,Nb)]) AfJ (Mx [] .ground [(.t 4)] Xj Xi) ⟨[(0,.agg [.int .i64 f1.Params,.sl (f1.Slots.map LY),.sl (f1.Code.map LV)]),(1,.agg [.sl (l2.Out.map (eL LR))])],[],262144⟩ (Ot f1 l2)
 refine Mp<|?_
 unfold AfJ Ot
 refine sQ<|rG<|bX r r r r r<|bX r r r r r<|aS r r<|nI<|Qj (E:=[(2,.fptr (.agg [.int .i64 f1.Params,.sl (f1.Slots.map LY),.sl (f1.Code.map LV)]) 0),(3,.optr 3 _ 0 0)]) (O:=[(3,some (_,⟨false,true,1,37,[.agg [.sl (l2.Out.map (eL LR))]]⟩))]) ((Kx (g:=2) r (by first | rfl | (simp [cells,frp,Fh,Ma]; done)) (hE ⟨(by first | rfl | (simp [BM,lkO,frp,Fh,frO]; done) | (simp [BM,lkO,frp,Fh,frO]; rfl) | (simp [BM,lkO,frp,Fh,frO,nbq]; done)),(by first | rfl | (simp [BM,lkO,frp,Fh,frO]; done) | (simp [BM,lkO,frp,Fh,frO]; rfl) | (simp [BM,lkO,frp,Fh,frO,nbq]; done)),trivial⟩ ⟨(by first | rfl | (simp [BM,lkO,frp,Fh,frO]; done) | (simp [BM,lkO,frp,Fh,frO]; rfl) | (simp [BM,lkO,frp,Fh,frO,nbq]; done)),trivial⟩))) fun nn=>sQ<|rG<|mF (caps:=[.fptr (.agg [.int .i64 f1.Params,.sl (f1.Slots.map LY),.sl (f1.Code.map LV)]) 0]) r r (by simp [FW])<|aS r r<|nI<|xS<|sQ<|rG<|fA r r<|lO (v:=.sl (l2.Out.map (eL LR))) (z:=.agg [.sl (l2.Out.map (eL LR))]) r r r r r r<|lS r r<|fF r r<|lF (v:=.sl (f1.Code.map LV)) r r r r<|lS r r<|bN (v:=.bool ((l2.Out.length : Int) == (f1.Code.length : Int))) r r r r r<|mV r r<|sP 14 (b:=((l2.Out.length : Int) == (f1.Code.length : Int))) r ?_ ?_
 ·refine fA rfl rfl<|lO (v:=.sl (l2.Out.map (eL LR))) (z:=.agg [.sl (l2.Out.map (eL LR))]) rfl rfl rfl rfl rfl rfl<|mV rfl rfl<|bD fun r3 hr3=>cG (l2.Out,f1) rfl rfl (show _ = some Nb from by kernel_rfl) OY rfl rfl (by simp) r hr3 r<|uN (w:=.bool (!r3)) r r r r trivial<|pT r r r r<|aS r r<|nI<|xS<|rT<|Mf (b:=(!r3)) r ?_ r r ?_ r
  all_goals first|(simp;done)|(simp;omega)|rfl|(simp [Ma,LZ];done)
 ·refine oF r<|oF r<|oF r<|oF r<|oF r<|pF r r r r<|aS r r<|nI<|xS<|rT<|Mf (b:=false) r ?_ r r ?_ r
  all_goals first|(simp;done)|(simp;omega)|rfl|(simp [Ma,LZ];done)

def Age : Ml:=(.seq (.reg [P 1 (.box (T 0) 1 37),P 2 (.asg (.c .nilf) none)] false) (.seq (.reg [P 3 (.mkf 85 [(T 1)]),P 2 (.asg (T 3) none)] false) .ret))
theorem Ajc : (Tryd.f71.body.bind (Mn Tryd.prog Tryd.f71.ntmps)) = some Age:=by kernel_rfl
theorem Ajd : Tryd.f71.results.toList.mapM (Mw Tryd.prog) = some [(.t 2)]:=by kernel_rfl
def TC (a : Me) : List D:=[Nl a]
def TB (ds : List D) : Me:=Pb (ds.getD 0 .top)
theorem XZ (a : Me) : TB (TC a) = a:=by simp [TB,TC]
def YL (b : Me) : D:=.clo 85 [.fptr (Nl b) 0]
def YK (_b : Me) : List D:=[]
noncomputable def UR : Dw.Spec:=Mk [] .val TC TB (fun a=>RF a) YL YK
set_option maxHeartbeats 4000000 in
theorem AbS : Mi Tryd.prog 71 UR:=by
 refine Mu (Nn) Tryd.func71 (by decide) Ajc Ajd (np:=1) (by decide) XZ (fun _=>r) (fun _=>r) (by decide)<|?_
 intro l1
 show TrE (specs []) Age (Mx [] .val [(.t 2)] YL YK) ⟨[(0,.agg [.sl (l1.Out.map (eL LR))])],[],262144⟩ (RF l1)
 refine Mp<|?_
 unfold Age RF
 refine sQ<|rG<|bX r r r r r<|aS r r<|nI<|Qj (E:=[(1,.fptr (.agg [.sl (l1.Out.map (eL LR))]) 0)]) (O:=[]) ((Kx (g:=1) r (by first | rfl | (simp [cells,frp,Fh,Ma]; done)) (hE ⟨(by first | rfl | (simp [BM,lkO,frp,Fh,frO]; done) | (simp [BM,lkO,frp,Fh,frO]; rfl) | (simp [BM,lkO,frp,Fh,frO,nbq]; done)),trivial⟩ trivial))) fun nn=>sQ<|rG<|mF (caps:=[.fptr (.agg [.sl (l1.Out.map (eL LR))]) 0]) r r (by simp [FW])<|aS r r<|nI<|xS<|rT<|Ng (b:=l1) r ?_ r r ?_ r
 all_goals first|(simp;done)|(simp;omega)|rfl|(simp [Ma,LZ];done)

def Agv : Ml:=(.seq (.reg [P 2 (.asg (.c (.bool false)) none)] false) (.seq (.reg [M 3 0,P 4 (.bin .eql (T 3) (C 20)),M 5 4,⟨(some 6),(.mv (T 0)),(some ⟨5,false⟩),[]⟩,⟨(some 7),(.bin .eql (T 6) (C 23)),(some ⟨5,false⟩),[]⟩,P 8 (.pick (T 5) (.c (.bool true)) (T 7)),M 9 8,⟨(some 10),(.mv (T 0)),(some ⟨9,false⟩),[]⟩,⟨(some 11),(.bin .eql (T 10) (C 24)),(some ⟨9,false⟩),[]⟩,P 12 (.pick (T 9) (.c (.bool true)) (T 11)),P 2 (.asg (T 12) none)] false) .ret))
theorem AjK : (Tryd.f91.body.bind (Mn Tryd.prog Tryd.f91.ntmps)) = some Agv:=by kernel_rfl
theorem AjL : Tryd.f91.results.toList.mapM (Mw Tryd.prog) = some [(.t 2)]:=by kernel_rfl
def TI (a : Int) : List D:=[.int .i64 a]
def TH (ds : List D) : Int:=uI (ds.getD 0 .top)
theorem Yc (a : Int) : TH (TI a) = a:=by simp [TH,TI,uI]
def Za (b : Bool) : D:=.bool b
def YZ (_b : Bool) : List D:=[]
noncomputable def UY : Dw.Spec:=Mk [] .ground TI TH (fun a=>RL a) Za YZ
set_option maxHeartbeats 4000000 in
theorem AbT : Mi Tryd.prog 91 UY:=by
 refine Mu (Nn) Tryd.func91 (by decide) AjK AjL (np:=1) (by decide) Yc (fun _=>r) (fun _=>r) (by decide)<|?_
 intro op1
 show TrE (specs []) Agv (Mx [] .ground [(.t 2)] Za YZ) ⟨[(0,.int .i64 op1)],[],262144⟩ (RL op1)
 refine Mp<|?_
 unfold Agv RL
 refine sQ<|rG<|aS r r<|nI<|xS<|sQ<|rG<|mV r r<|bN (v:=.bool (op1 == 20)) r r r r r<|mV r r<|sP 5 (b:=(op1 == 20)) r ?_ ?_
 ·refine oF r<|oF r<|pT r r r r<|mV r r<|oF r<|oF r<|pT r r r r<|aS r r<|nI<|xS<|rT<|Mf (b:=true) r ?_ r r ?_ r
  all_goals first|(simp;done)|(simp;omega)|rfl|(simp [Ma,LZ];done)
 ·refine mV r r<|bN (v:=.bool (op1 == 23)) r r r r r<|pF r r r r<|mV r r<|sP 9 (b:=(op1 == 23)) r ?_ ?_
  ·refine oF r<|oF r<|pT r r r r<|aS r r<|nI<|xS<|rT<|Mf (b:=true) r ?_ r r ?_ r
   all_goals first|(simp;done)|(simp;omega)|rfl|(simp [Ma,LZ];done)
  ·refine mV r r<|bN (v:=.bool (op1 == 24)) r r r r r<|pF r r r r<|aS r r<|nI<|xS<|rT<|Mf (b:=(op1 == 24)) r ?_ r r ?_ r
   all_goals first|(simp;done)|(simp;omega)|rfl|(simp [Ma,LZ];done)

def Ago : Ml:=(.seq (.reg [P 2 (.box (T 0) 3 33),⟨(some 4),(.asg (.c .nils) (some ⟨1,3⟩)),none,[]⟩] false) (.seq (.seq (.reg [M 7 1,P 8 (.bin .lss (T 7) (C 0)),M 9 8,⟨(some 10),(.mv (T 1)),(some ⟨9,false⟩),[]⟩,⟨(some 11),(.fldA 2 (T 2)),(some ⟨9,false⟩),[]⟩,⟨(some 12),(.ld 1 false (T 11)),(some ⟨9,false⟩),[]⟩,⟨(some 13),(.len false (T 12)),(some ⟨9,false⟩),[]⟩,⟨(some 14),(.bin .geq (T 10) (T 13)),(some ⟨9,false⟩),[]⟩,P 15 (.pick (T 9) (.c (.bool true)) (T 14))] false) (.cond (T 15) (.seq (.reg [⟨(some 4),(.asg (.c .nils) (some ⟨1,3⟩)),none,[]⟩] false) .ret) .skip)) (.seq (.reg [⟨(some 5),(.asg (.c .nils) (some ⟨1,3⟩)),none,[]⟩] false) (.seq (.reg [P 16 (.fldA 2 (T 2)),P 17 (.ld 1 false (T 16)),M 18 1,P 19 (.ixA 5 (T 17) (T 18)),P 20 (.ld 5 true (T 19)),P 6 (.new (.agg [(.int .i64 0),(.int .i64 0),(.int .i64 0),(.int .i64 0),(.int .u64 0)]) 5 57),⟨none,(.st 5 (T 6) (T 20)),none,[]⟩] false) (.seq (.seq (.reg [P 21 (.fldA 0 (T 6)),P 22 (.ld 1 false (T 21)),P 23 (.call (.c (.clo 91 [])) [(T 22)]),P 24 (.un .not (T 23))] false) (.cond (T 24) (.reg [M 25 5,M 26 1,P 27 (.bin .add (T 26) (C 1)),⟨(some 28),(.bldS 1 3 (.int .i64 0) 1 [⟨0,(T 27)⟩]),none,[]⟩,P 29 (.app 1 3 8 (T 25) (T 28)),⟨(some 5),(.asg (T 29) (some ⟨1,3⟩)),none,[]⟩] false) .skip)) (.seq (.seq (.reg [P 30 (.fldA 0 (T 6)),P 31 (.ld 1 false (T 30))] false) (.block 0 (.seq (.reg [P 33 (.bin .eql (T 31) (C 20)),P 32 (.asg (T 33) none)] false) (.cond (T 32) (.reg [M 34 5,P 35 (.fldA 1 (T 6)),P 36 (.ld 1 false (T 35)),⟨(some 37),(.bldS 1 3 (.int .i64 0) 1 [⟨0,(T 36)⟩]),none,[]⟩,P 38 (.app 1 3 8 (T 34) (T 37)),⟨(some 5),(.asg (T 38) (some ⟨1,3⟩)),none,[]⟩] false) (.seq (.reg [P 40 (.bin .eql (T 31) (C 21)),P 39 (.asg (T 40) none)] false) (.cond (T 39) (.reg [M 41 5,P 42 (.fldA 2 (T 6)),P 43 (.ld 1 false (T 42)),⟨(some 44),(.bldS 1 3 (.int .i64 0) 1 [⟨0,(T 43)⟩]),none,[]⟩,P 45 (.app 1 3 8 (T 41) (T 44)),⟨(some 5),(.asg (T 45) (some ⟨1,3⟩)),none,[]⟩] false) .skip)))))) (.seq (.reg [M 46 5,P 47 (.call (.c (.clo 92 [])) [(T 46)])] false) (.seq (.reg [M 48 5,P 49 (.call (.c (.clo 93 [])) [(T 48)]),⟨(some 4),(.asg (T 49) (some ⟨1,3⟩)),none,[]⟩] false) .ret))))))))
theorem Ajw : (Tryd.f83.body.bind (Mn Tryd.prog Tryd.f83.ntmps)) = some Ago:=by kernel_rfl
theorem Ajx : Tryd.f83.results.toList.mapM (Mw Tryd.prog) = some [(.t 4)]:=by kernel_rfl
def Xr (a : LX × Int) : List D:=[MF a.1,.int .i64 a.2]
def Xq (ds : List D) : LX × Int:=(NJ (ds.getD 0 .top),uI (ds.getD 1 .top))
theorem Abl (a : LX × Int) : Xq (Xr a) = a:=by simp [Xq,Xr,uI]
def Acd (b : (List Int)) : D:=.sl (b.map LR)
def Acb (_b : (List Int)) : List D:=[]
noncomputable def ZI : Dw.Spec:=Mk [] (.row 1 3) Xr Xq (fun a=>Vi a.1 a.2) Acd Acb
set_option maxHeartbeats 4000000 in
theorem AdR : Mi Tryd.prog 83 ZI:=by
 refine Mu (Mo (l:=[(91,UY),(92,RM),(93,Qv)]) (by simp [AbT,ZM,Yf])) Tryd.func83 (by decide) Ajw Ajx (np:=2) (by decide) Abl (fun _=>r) (fun _=>r) (by decide)<|?_
 rintro ⟨f1,k2⟩
 show TrE (specs [(91,UY),(92,RM),(93,Qv)]) Ago (Mx [] (.row 1 3) [(.t 4)] Acd Acb) ⟨[(0,.agg [.int .i64 f1.Params,.sl (f1.Slots.map LY),.sl (f1.Code.map LV)]),(1,.int .i64 k2)],[],262144⟩ (Vi f1 k2)
 refine Mp<|?_
 unfold Ago Vi
 refine sQ<|rG<|bX r r r r r<|aN (α:=Int) r LR r<|nI<|xS<|sC (E:=fun (s : Unit) (g : Nat)=>[(1,.int .i64 k2),(2,.optr 2 g 0 0)]) (O:=fun s g=>[(2,some (g,⟨false,true,3,33,[.agg [.int .i64 f1.Params,.sl (f1.Slots.map LY),.sl (f1.Code.map LV)]]⟩))]) (j:=fun s=>VC f1 k2) ?_ ?_
 ·refine sQ<|rG<|mV r r<|bN (v:=.bool (decide (k2 < 0))) r r r r r<|mV r r<|sP 9 (b:=(decide (k2 < 0))) r ?_ ?_
  ·refine oF r<|oF r<|oF r<|oF r<|oF r<|pT r r r r<|nI<|xS<|MY r<|sQ<|rG<|aN (α:=Int) r LR r<|nI<|xS<|rT<|zR<|MA (b:=([] : List Int)) r ?_ r r ?_ r ?_ (congrArg D.sl (Md _ _ r)) r
   all_goals first|(simp;done)|(simp;omega)|rfl|(simp [Ma,LZ];done)
  ·refine mV r r<|fA r r<|lO (v:=.sl (f1.Code.map LV)) (z:=.agg [.int .i64 f1.Params,.sl (f1.Slots.map LY),.sl (f1.Code.map LV)]) r r r r r r<|lS r r<|bN (v:=.bool (decide (k2 ≥ (f1.Code.length : Int)))) r r r r r<|pF r r r r<|nI<|xS<|cD (c:=(decide (k2 ≥ (f1.Code.length : Int)))) r ?_ ?_
   ·refine sQ<|rG<|aN (α:=Int) r LR r<|nI<|xS<|rT<|zR<|MA (b:=([] : List Int)) r ?_ r r ?_ r ?_ (congrArg D.sl (Md _ _ r)) r
    all_goals first|(simp;done)|(simp;omega)|rfl|(simp [Ma,LZ];done)
   ·exact sK<|xC (s:=()) _ ((hE ⟨rfl,r,trivial⟩ ⟨rfl,trivial⟩))
 ·rintro ⟨⟩ v2x1 nn
  try dsimp only
  unfold VC
  refine sQ<|rG<|aN (α:=Int) r LR r<|nI<|xS<|sQ<|rG<|fA r r<|lO (v:=.sl (f1.Code.map LV)) (z:=.agg [.int .i64 f1.Params,.sl (f1.Slots.map LY),.sl (f1.Code.map LV)]) r r r r r r<|mV r r<|bD fun x_x3 hx_x3=>iS (en:=LV) r r r hx_x3 r<|lF (v:=.agg [.int .i64 x_x3.Op,.int .i64 x_x3.A,.int .i64 x_x3.B,.int .i64 x_x3.C,.int .u64 x_x3.Imm]) r r r r<|nW r<|sV (z':=.agg [.int .i64 x_x3.Op,.int .i64 x_x3.A,.int .i64 x_x3.B,.int .i64 x_x3.C,.int .u64 x_x3.Imm]) r r r r r r r r r<|nI<|xS<|sC (E:=fun (s : (List Int)) (g : Nat × Nat)=>[(5,.osl 5 g.1 0 s.length),(6,.optr 6 g.2 0 0)]) (O:=fun s g=>[(5,some (g.1,⟨false,false,1,3,s.map LR⟩)),(6,some (g.2,⟨false,true,5,57,[.agg [.int .i64 x_x3.Op,.int .i64 x_x3.A,.int .i64 x_x3.B,.int .i64 x_x3.C,.int .u64 x_x3.Imm]]⟩))]) (j:=fun s=>Tx x_x3 s) ?_ ?_
  ·refine sQ<|rG<|fA r r<|lO (v:=.int .i64 x_x3.Op) (z:=.agg [.int .i64 x_x3.Op,.int .i64 x_x3.A,.int .i64 x_x3.B,.int .i64 x_x3.C,.int .u64 x_x3.Imm]) r r r r r r<|bD fun r5 hr5=>cG x_x3.Op r r r Yc r r (by simp) r hr5 r<|uN (w:=.bool (!r5)) r r r r trivial<|nI<|xS<|cD (c:=(!r5)) r ?_ ?_
   ·exact rG<|mV r r<|mV r r<|bN (v:=.int .i64 (IntKind.i64.wrap (k2 + 1))) r r r r r<|bS ([IntKind.i64.wrap (k2 + 1)] : List Int) LR r r r (by simp) r r r<|cK fun hq=>aP (([] : List Int)) (([IntKind.i64.wrap (k2 + 1)] : List Int)) LR r r r r r r r (by simp) (Mr _ _ r) r r (by simp) (Md _ _ r) (fun _=>r) r hq<|aO (l:=([] : List Int) ++ ([IntKind.i64.wrap (k2 + 1)] : List Int)) (en:=LR) r r r r<|nI<|xC (s:=([] : List Int) ++ ([IntKind.i64.wrap (k2 + 1)] : List Int)) (_,_) ((hE ⟨rfl,r,trivial⟩ ⟨rfl,r,trivial⟩))
   ·exact sK<|xC (s:=([] : List Int)) (_,_) ((hE ⟨rfl,r,trivial⟩ ⟨rfl,r,trivial⟩))
  ·rintro l4 ⟨v5x2,v6x2⟩ nn
   try dsimp only
   unfold Tx
   refine sQ<|sQ<|rG<|fA r r<|lO (v:=.int .i64 x_x3.Op) (z:=.agg [.int .i64 x_x3.Op,.int .i64 x_x3.A,.int .i64 x_x3.B,.int .i64 x_x3.C,.int .u64 x_x3.Imm]) r r r r r r<|nI<|xS<|bK<|sQ<|rG<|bN (v:=.bool (x_x3.Op == 20)) r r r r r<|aS r r<|nI<|xS<|cD (c:=(x_x3.Op == 20)) r ?_ ?_
   ·refine rG<|mV r r<|fA r r<|lO (v:=.int .i64 x_x3.A) (z:=.agg [.int .i64 x_x3.Op,.int .i64 x_x3.A,.int .i64 x_x3.B,.int .i64 x_x3.C,.int .u64 x_x3.Imm]) r r r r r r<|bS ([x_x3.A] : List Int) LR r r r (by simp) r r r<|cK fun hq=>aP (l4) (([x_x3.A] : List Int)) LR r r r r r r r (by simp) (Mr _ _ r) r r (by simp) (Md _ _ r) (fun _=>r) r hq<|aO (l:=l4 ++ ([x_x3.A] : List Int)) (en:=LR) r r r r<|nI<|bM<|xS<|sQ<|rG<|mV r r<|cK fun hq=>Aaz (l:=l4 ++ ([x_x3.A] : List Int)) (l':=NI (l4 ++ ([x_x3.A] : List Int))) r r r r r r r hq r<|nI<|xS<|sQ<|rG<|mV r r<|cK fun hq=>Zd (l:=NI (l4 ++ ([x_x3.A] : List Int))) (l':=Lib.compact (NI (l4 ++ ([x_x3.A] : List Int)))) r r r r r (by simp) r hq (Wq _) r<|aO (l:=Lib.compact (NI (l4 ++ ([x_x3.A] : List Int)))) (en:=LR) r r r r<|nI<|xS<|rT<|MA (b:=Lib.compact (NI (l4 ++ ([x_x3.A] : List Int)))) r ?_ r r ?_ r ?_ (congrArg D.sl (Md _ _ r)) r
    all_goals first|(simp;done)|(simp;omega)|rfl|(simp [Ma,LZ];done)
   ·refine sQ<|rG<|bN (v:=.bool (x_x3.Op == 21)) r r r r r<|aS r r<|nI<|xS<|cD (c:=(x_x3.Op == 21)) r ?_ ?_
    ·refine rG<|mV r r<|fA r r<|lO (v:=.int .i64 x_x3.B) (z:=.agg [.int .i64 x_x3.Op,.int .i64 x_x3.A,.int .i64 x_x3.B,.int .i64 x_x3.C,.int .u64 x_x3.Imm]) r r r r r r<|bS ([x_x3.B] : List Int) LR r r r (by simp) r r r<|cK fun hq=>aP (l4) (([x_x3.B] : List Int)) LR r r r r r r r (by simp) (Mr _ _ r) r r (by simp) (Md _ _ r) (fun _=>r) r hq<|aO (l:=l4 ++ ([x_x3.B] : List Int)) (en:=LR) r r r r<|nI<|bM<|xS<|sQ<|rG<|mV r r<|cK fun hq=>Aaz (l:=l4 ++ ([x_x3.B] : List Int)) (l':=NI (l4 ++ ([x_x3.B] : List Int))) r r r r r r r hq r<|nI<|xS<|sQ<|rG<|mV r r<|cK fun hq=>Zd (l:=NI (l4 ++ ([x_x3.B] : List Int))) (l':=Lib.compact (NI (l4 ++ ([x_x3.B] : List Int)))) r r r r r (by simp) r hq (Wq _) r<|aO (l:=Lib.compact (NI (l4 ++ ([x_x3.B] : List Int)))) (en:=LR) r r r r<|nI<|xS<|rT<|MA (b:=Lib.compact (NI (l4 ++ ([x_x3.B] : List Int)))) r ?_ r r ?_ r ?_ (congrArg D.sl (Md _ _ r)) r
     all_goals first|(simp;done)|(simp;omega)|rfl|(simp [Ma,LZ];done)
    ·refine sK<|bM<|xS<|sQ<|rG<|mV r r<|cK fun hq=>Aaz (l:=l4) (l':=NI l4) r r r r r r r hq r<|nI<|xS<|sQ<|rG<|mV r r<|cK fun hq=>Zd (l:=NI l4) (l':=Lib.compact (NI l4)) r r r r r (by simp) r hq (Wq _) r<|aO (l:=Lib.compact (NI l4)) (en:=LR) r r r r<|nI<|xS<|rT<|MA (b:=Lib.compact (NI l4)) r ?_ r r ?_ r ?_ (congrArg D.sl (Md _ _ r)) r
     all_goals first|(simp;done)|(simp;omega)|rfl|(simp [Ma,LZ];done)

def Agq : Ml:=(.seq (.reg [⟨(some 3),(.asg (.c .nils) (some ⟨1,3⟩)),none,[]⟩] false) (.seq (.reg [P 4 (.fldA 0 (T 1)),P 5 (.ld 1 false (T 4)),M 6 0,P 7 (.ixA 1 (T 5) (T 6)),P 8 (.ld 1 false (T 7)),⟨(some 3),(.asg (T 8) (some ⟨1,3⟩)),none,[]⟩] false) .ret))
theorem AjA : (Tryd.f85.body.bind (Mn Tryd.prog Tryd.f85.ntmps)) = some Agq:=by kernel_rfl
theorem AjB : Tryd.f85.results.toList.mapM (Mw Tryd.prog) = some [(.t 3)]:=by kernel_rfl
def QO (a : Int × Me) : List D:=[.int .i64 a.1,.fptr (Nl a.2) 0]
def QN (ds : List D) : Int × Me:=(uI (ds.getD 0 .top),Pb (fpD (ds.getD 1 .top)))
theorem Uy (a : Int × Me) : QN (QO a) = a:=by simp [QN,QO,uI,fpD]
def Vm (b : (List Int)) : D:=.sl (b.map LR)
def Vl (_b : (List Int)) : List D:=[]
noncomputable def RG : Dw.Spec:=Mk [] .val QO QN (fun a=>Pd a.1 a.2) Vm Vl
set_option maxHeartbeats 4000000 in
theorem ZJ : Mi Tryd.prog 85 RG:=by
 refine Mu (Nn) Tryd.func85 (by decide) AjA AjB (np:=2) (by decide) Uy (fun _=>r) (fun _=>r) (by decide)<|?_
 rintro ⟨j1,cap2⟩
 show TrE (specs []) Agq (Mx [] .val [(.t 3)] Vm Vl) ⟨[(0,.int .i64 j1),(1,.fptr (.agg [.sl (cap2.Out.map (eL LR))]) 0)],[],262144⟩ (Pd j1 cap2)
 refine Mp<|?_
 unfold Agq Pd
 refine sQ<|rG<|aN (α:=Int) r LR r<|nI<|xS<|sQ<|rG<|fF r r<|lF (v:=.sl (cap2.Out.map (eL LR))) r r r r<|mV r r<|bD fun x_x3 hx_x3=>iS (en:=(eL LR)) r r r hx_x3 r<|lF (v:=.sl (x_x3.map LR)) r r r r<|aL r r<|nI<|xS<|rT<|Ng (b:=x_x3) r ?_ r r ?_ r
 all_goals first|(simp;done)|(simp;omega)|rfl|(simp [Ma,LZ];done)

def AfT : Ml:=(.seq (.reg [P 1 (.box (T 0) 5 57),P 2 (.asg (C 0) none),P 3 (.asg (.c (.bool false)) none)] false) (.seq (.seq (.reg [P 4 (.fldA 0 (T 1)),P 5 (.ld 1 false (T 4))] false) (.block 0 (.seq (.seq (.reg [P 7 (.bin .eql (T 5) (C 16)),P 6 (.asg (T 7) none)] false) (.cond (T 6) .skip (.reg [P 8 (.bin .eql (T 5) (C 17)),P 6 (.asg (T 8) none)] false))) (.cond (T 6) (.seq (.reg [P 9 (.fldA 1 (T 1)),P 10 (.ld 1 false (T 9)),P 2 (.asg (T 10) none),P 3 (.asg (.c (.bool true)) none)] false) .ret) .skip)))) (.seq (.reg [P 2 (.asg (C 0) none),P 3 (.asg (.c (.bool false)) none)] false) .ret)))
theorem AiG : (Tryd.f56.body.bind (Mn Tryd.prog Tryd.f56.ntmps)) = some AfT:=by kernel_rfl
theorem AiH : Tryd.f56.results.toList.mapM (Mw Tryd.prog) = some [(.t 2),(.t 3)]:=by kernel_rfl
def Tv (a : LS) : List D:=[LV a]
def Tu (ds : List D) : LS:=Sv (ds.getD 0 .top)
theorem Rv (a : LS) : Tu (Tv a) = a:=by simp [Tu,Tv]
def YI (b : Int × Bool) : D:=.tup [.int .i64 b.1,.bool b.2]
def YH (_b : Int × Bool) : List D:=[]
noncomputable def Oq : Dw.Spec:=Mk [] .ground Tv Tu (fun a=>OB a) YI YH
set_option maxHeartbeats 4000000 in
theorem Uk : Mi Tryd.prog 56 Oq:=by
 refine Mu (Nn) Tryd.func56 (by decide) AiG AiH (np:=1) (by decide) Rv (fun _=>r) (fun _=>r) (by decide)<|?_
 intro x1
 show TrE (specs []) AfT (Mx [] .ground [(.t 2),(.t 3)] YI YH) ⟨[(0,.agg [.int .i64 x1.Op,.int .i64 x1.A,.int .i64 x1.B,.int .i64 x1.C,.int .u64 x1.Imm])],[],262144⟩ (OB x1)
 refine Mp<|?_
 unfold AfT OB
 refine sQ<|rG<|bX r r r r r<|aS r r<|aS r r<|nI<|xS<|sQ<|sQ<|rG<|fA r r<|lO (v:=.int .i64 x1.Op) (z:=.agg [.int .i64 x1.Op,.int .i64 x1.A,.int .i64 x1.B,.int .i64 x1.C,.int .u64 x1.Imm]) r r r r r r<|nI<|xS<|bK<|sQ<|sQ<|rG<|bN (v:=.bool (x1.Op == 16)) r r r r r<|aS r r<|nI<|xS<|cD (c:=(x1.Op == 16)) r ?_ ?_
 ·refine sK<|xS<|cD (c:=(x1.Op == 16)) r ?_ ?_
  ·refine sQ<|rG<|fA r r<|lO (v:=.int .i64 x1.A) (z:=.agg [.int .i64 x1.Op,.int .i64 x1.A,.int .i64 x1.B,.int .i64 x1.C,.int .u64 x1.Imm]) r r r r r r<|aS r r<|aS r r<|nI<|xS<|rT<|bR<|xR<|MB (b:=(x1.A,true)) r ?_ r r ?_ r (by decide)
   all_goals first|(simp;done)|(simp;omega)|rfl|(simp [Ma,LZ];done)
  ·refine sK<|bM<|xS<|sQ<|rG<|aS r r<|aS r r<|nI<|xS<|rT<|MB (b:=(0,false)) r ?_ r r ?_ r (by decide)
   all_goals first|(simp;done)|(simp;omega)|rfl|(simp [Ma,LZ];done)
 ·refine rG<|bN (v:=.bool (x1.Op == 17)) r r r r r<|aS r r<|nI<|xS<|cD (c:=(x1.Op == 17)) r ?_ ?_
  ·refine sQ<|rG<|fA r r<|lO (v:=.int .i64 x1.A) (z:=.agg [.int .i64 x1.Op,.int .i64 x1.A,.int .i64 x1.B,.int .i64 x1.C,.int .u64 x1.Imm]) r r r r r r<|aS r r<|aS r r<|nI<|xS<|rT<|bR<|xR<|MB (b:=(x1.A,true)) r ?_ r r ?_ r (by decide)
   all_goals first|(simp;done)|(simp;omega)|rfl|(simp [Ma,LZ];done)
  ·refine sK<|bM<|xS<|sQ<|rG<|aS r r<|aS r r<|nI<|xS<|rT<|MB (b:=(0,false)) r ?_ r r ?_ r (by decide)
   all_goals first|(simp;done)|(simp;omega)|rfl|(simp [Ma,LZ];done)

def Agz : Ml:=(.seq (.reg [M 7 1,P 8 (.cvt .u64 (T 7)),P 9 (.bin .rem (T 8) (.c (.int .u64 64))),P 10 (.bin .shl (.c (.int .u64 1)) (T 9)),P 6 (.asg (T 10) none)] false) (.block 0 (.seq (.reg [M 22 1,P 23 (.call (.c (.clo 58 [])) [(T 22)]),P 24 (.un .not (T 23)),P 21 (.asg (T 24) none)] false) (.cond (T 21) .skip (.seq (.reg [M 26 2,P 25 (.asg (T 26) none)] false) (.cond (T 25) (.reg [M 27 0,M 28 1,⟨(some 29),(.bin .quo (T 28) (C 64)),none,[1]⟩,⟨(some 30),(.nilck (T 27)),none,[0]⟩,⟨(some 31),(.ixP 1 8 (T 30) (T 29)),none,[3,2]⟩,⟨(some 32),(.ld 1 false (T 31)),none,[4]⟩,M 33 6,⟨(some 34),(.bin .or (T 32) (T 33)),none,[5,6]⟩,⟨(some 35),(.nilck (T 27)),none,[0]⟩,⟨(some 36),(.ixP 1 8 (T 35) (T 29)),none,[8,2,0,1,2,3,4,5,6,7]⟩,⟨none,(.st 1 (T 36) (T 34)),none,[9,7,0,1,2,3,4,5,6,7]⟩] true) (.reg [M 11 0,M 12 1,⟨(some 13),(.bin .quo (T 12) (C 64)),none,[1]⟩,⟨(some 14),(.nilck (T 11)),none,[0]⟩,⟨(some 15),(.ixP 1 8 (T 14) (T 13)),none,[3,2]⟩,⟨(some 16),(.ld 1 false (T 15)),none,[4]⟩,M 17 6,⟨(some 18),(.bin .andNot (T 16) (T 17)),none,[5,6]⟩,⟨(some 19),(.nilck (T 11)),none,[0]⟩,⟨(some 20),(.ixP 1 8 (T 19) (T 13)),none,[8,2,0,1,2,3,4,5,6,7]⟩,⟨none,(.st 1 (T 20) (T 18)),none,[9,7,0,1,2,3,4,5,6,7]⟩] true)))))))
theorem AjS : (Tryd.f97.body.bind (Mn Tryd.prog Tryd.f97.ntmps)) = some Agz:=by kernel_rfl
theorem AjT : Tryd.f97.results.toList.mapM (Mw Tryd.prog) = some []:=by kernel_rfl
def Rj (a : LW × Int × Bool) : List D:=[MC a.1,.int .i64 a.2.1,.bool a.2.2]
def Ri (ds : List D) : LW × Int × Bool:=(NW (ds.getD 0 .top),uI (ds.getD 1 .top),uBo (ds.getD 2 .top))
theorem Rz (a : LW × Int × Bool) : Ri (Rj a) = a:=by simp [Ri,Rj,uI,uBo]
def Vu (b : LW) : D:=.tup []
def Vt (b : LW) : List D:=[MC b]
noncomputable def OM : Dw.Spec:=Mk [(0,(8,120))] .val Rj Ri (fun a=>NS a.1 a.2.1 a.2.2) Vu Vt
set_option maxHeartbeats 4000000 in
theorem Vd : Mi Tryd.prog 97 OM:=by
 refine Mu (Mo (l:=[(58,Pc)]) (by simp [Vx])) Tryd.func97 (by decide) AjS AjT (np:=3) (by decide) Rz (fun _=>r) (fun _=>r) (by decide)<|?_
 rintro ⟨s1,n2,in3⟩
 show TrE (specs [(58,Pc)]) Agz (Mx [(0,(8,120))] .val [] Vu Vt) ⟨[(0,.optr 8192 0 0 0),(1,.int .i64 n2),(2,.bool in3)],[(8192,some (0,⟨false,true,8,120,[.agg [.int .u64 s1.a0,.int .u64 s1.a1,.int .u64 s1.a2,.int .u64 s1.a3,.int .u64 s1.a4,.int .u64 s1.a5,.int .u64 s1.a6,.int .u64 s1.a7]]⟩))],262144⟩ (NS s1 n2 in3)
 refine Mp<|?_
 unfold Agz NS
 refine sQ<|rG<|mV r r<|cT r r<|bN (v:=.int .u64 ((IntKind.u64.wrap (n2)).tmod 64)) r r r r ⟨rfl,(by decide)⟩<|cK fun hq=>bN (v:=.int .u64 (IntKind.u64.wrap (1 * 2 ^ (Nat.min ((IntKind.u64.wrap (n2)).tmod 64).toNat IntKind.u64.bits)))) r r r r hq<|aS r r<|nI<|xS<|bK<|sQ<|rG<|mV r r<|bD fun r4 hr4=>cG n2 r r r RY r r (by simp) r hr4 r<|uN (w:=.bool (!r4)) r r r r trivial<|aS r r<|nI<|xS<|cD (c:=(!r4)) r ?_ ?_
 ·refine sK<|bM<|SF (b:=s1) r ?_ r r ?_ r (by decide)
  all_goals first|(simp;done)|(simp;omega)|rfl|(simp [Ma,LZ];done)
 ·refine sQ<|rG<|mV r r<|aS r r<|nI<|xS<|cD (c:=in3) r ?_ ?_
  ·refine rG<|mV r r<|mV r r<|bN (v:=.int .i64 (IntKind.i64.wrap (n2.tdiv 64))) r r r r ⟨rfl,(by decide)⟩<|nC r r r<|cK fun hq=>RO r r r hq<|bD fun s_e5 hs_e5=>Sm (q:=s_e5) (l:=s1.toList) (en:=UQ) (j:=(IntKind.i64.wrap (n2.tdiv 64)).toNat) (by simp) r r r hs_e5 r (fun _=>r)<|mV r r<|bN (v:=.int .u64 (IntKind.u64.wrap ((BitVec.ofInt IntKind.u64.bits s_e5 ||| BitVec.ofInt IntKind.u64.bits (IntKind.u64.wrap (1 * 2 ^ (Nat.min ((IntKind.u64.wrap (n2)).tmod 64).toNat IntKind.u64.bits)))).toNat))) r r r r r<|nC r r r<|cK fun hq=>RO r r r hq<|bD fun s_o6 hs_o6=>ZB (q:=s_o6) (q':=IntKind.u64.wrap ((BitVec.ofInt IntKind.u64.bits s_e5 ||| BitVec.ofInt IntKind.u64.bits (IntKind.u64.wrap (1 * 2 ^ (Nat.min ((IntKind.u64.wrap (n2)).tmod 64).toNat IntKind.u64.bits)))).toNat)) (l:=s1.toList) (en:=UQ) (j:=(IntKind.i64.wrap (n2.tdiv 64)).toNat) (z':=.agg [.int .u64 ((s1.set ((IntKind.i64.wrap (n2.tdiv 64)).toNat) (IntKind.u64.wrap ((BitVec.ofInt IntKind.u64.bits s_e5 ||| BitVec.ofInt IntKind.u64.bits (IntKind.u64.wrap (1 * 2 ^ (Nat.min ((IntKind.u64.wrap (n2)).tmod 64).toNat IntKind.u64.bits)))).toNat))).a0),.int .u64 ((s1.set ((IntKind.i64.wrap (n2.tdiv 64)).toNat) (IntKind.u64.wrap ((BitVec.ofInt IntKind.u64.bits s_e5 ||| BitVec.ofInt IntKind.u64.bits (IntKind.u64.wrap (1 * 2 ^ (Nat.min ((IntKind.u64.wrap (n2)).tmod 64).toNat IntKind.u64.bits)))).toNat))).a1),.int .u64 ((s1.set ((IntKind.i64.wrap (n2.tdiv 64)).toNat) (IntKind.u64.wrap ((BitVec.ofInt IntKind.u64.bits s_e5 ||| BitVec.ofInt IntKind.u64.bits (IntKind.u64.wrap (1 * 2 ^ (Nat.min ((IntKind.u64.wrap (n2)).tmod 64).toNat IntKind.u64.bits)))).toNat))).a2),.int .u64 ((s1.set ((IntKind.i64.wrap (n2.tdiv 64)).toNat) (IntKind.u64.wrap ((BitVec.ofInt IntKind.u64.bits s_e5 ||| BitVec.ofInt IntKind.u64.bits (IntKind.u64.wrap (1 * 2 ^ (Nat.min ((IntKind.u64.wrap (n2)).tmod 64).toNat IntKind.u64.bits)))).toNat))).a3),.int .u64 ((s1.set ((IntKind.i64.wrap (n2.tdiv 64)).toNat) (IntKind.u64.wrap ((BitVec.ofInt IntKind.u64.bits s_e5 ||| BitVec.ofInt IntKind.u64.bits (IntKind.u64.wrap (1 * 2 ^ (Nat.min ((IntKind.u64.wrap (n2)).tmod 64).toNat IntKind.u64.bits)))).toNat))).a4),.int .u64 ((s1.set ((IntKind.i64.wrap (n2.tdiv 64)).toNat) (IntKind.u64.wrap ((BitVec.ofInt IntKind.u64.bits s_e5 ||| BitVec.ofInt IntKind.u64.bits (IntKind.u64.wrap (1 * 2 ^ (Nat.min ((IntKind.u64.wrap (n2)).tmod 64).toNat IntKind.u64.bits)))).toNat))).a5),.int .u64 ((s1.set ((IntKind.i64.wrap (n2.tdiv 64)).toNat) (IntKind.u64.wrap ((BitVec.ofInt IntKind.u64.bits s_e5 ||| BitVec.ofInt IntKind.u64.bits (IntKind.u64.wrap (1 * 2 ^ (Nat.min ((IntKind.u64.wrap (n2)).tmod 64).toNat IntKind.u64.bits)))).toNat))).a6),.int .u64 ((s1.set ((IntKind.i64.wrap (n2.tdiv 64)).toNat) (IntKind.u64.wrap ((BitVec.ofInt IntKind.u64.bits s_e5 ||| BitVec.ofInt IntKind.u64.bits (IntKind.u64.wrap (1 * 2 ^ (Nat.min ((IntKind.u64.wrap (n2)).tmod 64).toNat IntKind.u64.bits)))).toNat))).a7)]) (by simp) r r r r r hs_o6 r r (congrArg (fun l=>D.agg (l.map UQ)) (Ob s1 ((IntKind.i64.wrap (n2.tdiv 64)).toNat) (IntKind.u64.wrap ((BitVec.ofInt IntKind.u64.bits s_e5 ||| BitVec.ofInt IntKind.u64.bits (IntKind.u64.wrap (1 * 2 ^ (Nat.min ((IntKind.u64.wrap (n2)).tmod 64).toNat IntKind.u64.bits)))).toNat))).symm) r r<|Mj (by kernel_rfl)<|bM<|SF (b:=(s1.set ((IntKind.i64.wrap (n2.tdiv 64)).toNat) (IntKind.u64.wrap ((BitVec.ofInt IntKind.u64.bits s_e5 ||| BitVec.ofInt IntKind.u64.bits (IntKind.u64.wrap (1 * 2 ^ (Nat.min ((IntKind.u64.wrap (n2)).tmod 64).toNat IntKind.u64.bits)))).toNat)))) r ?_ r r ?_ r (by decide)
   all_goals first|(simp;done)|(simp;omega)|rfl|(simp [Ma,LZ];done)
  ·refine rG<|mV r r<|mV r r<|bN (v:=.int .i64 (IntKind.i64.wrap (n2.tdiv 64))) r r r r ⟨rfl,(by decide)⟩<|nC r r r<|cK fun hq=>RO r r r hq<|bD fun s_e7 hs_e7=>Sm (q:=s_e7) (l:=s1.toList) (en:=UQ) (j:=(IntKind.i64.wrap (n2.tdiv 64)).toNat) (by simp) r r r hs_e7 r (fun _=>r)<|mV r r<|bN (v:=.int .u64 (IntKind.u64.wrap ((BitVec.ofInt IntKind.u64.bits s_e7 &&& ~~~ BitVec.ofInt IntKind.u64.bits (IntKind.u64.wrap (1 * 2 ^ (Nat.min ((IntKind.u64.wrap (n2)).tmod 64).toNat IntKind.u64.bits)))).toNat))) r r r r r<|nC r r r<|cK fun hq=>RO r r r hq<|bD fun s_o8 hs_o8=>ZB (q:=s_o8) (q':=IntKind.u64.wrap ((BitVec.ofInt IntKind.u64.bits s_e7 &&& ~~~ BitVec.ofInt IntKind.u64.bits (IntKind.u64.wrap (1 * 2 ^ (Nat.min ((IntKind.u64.wrap (n2)).tmod 64).toNat IntKind.u64.bits)))).toNat)) (l:=s1.toList) (en:=UQ) (j:=(IntKind.i64.wrap (n2.tdiv 64)).toNat) (z':=.agg [.int .u64 ((s1.set ((IntKind.i64.wrap (n2.tdiv 64)).toNat) (IntKind.u64.wrap ((BitVec.ofInt IntKind.u64.bits s_e7 &&& ~~~ BitVec.ofInt IntKind.u64.bits (IntKind.u64.wrap (1 * 2 ^ (Nat.min ((IntKind.u64.wrap (n2)).tmod 64).toNat IntKind.u64.bits)))).toNat))).a0),.int .u64 ((s1.set ((IntKind.i64.wrap (n2.tdiv 64)).toNat) (IntKind.u64.wrap ((BitVec.ofInt IntKind.u64.bits s_e7 &&& ~~~ BitVec.ofInt IntKind.u64.bits (IntKind.u64.wrap (1 * 2 ^ (Nat.min ((IntKind.u64.wrap (n2)).tmod 64).toNat IntKind.u64.bits)))).toNat))).a1),.int .u64 ((s1.set ((IntKind.i64.wrap (n2.tdiv 64)).toNat) (IntKind.u64.wrap ((BitVec.ofInt IntKind.u64.bits s_e7 &&& ~~~ BitVec.ofInt IntKind.u64.bits (IntKind.u64.wrap (1 * 2 ^ (Nat.min ((IntKind.u64.wrap (n2)).tmod 64).toNat IntKind.u64.bits)))).toNat))).a2),.int .u64 ((s1.set ((IntKind.i64.wrap (n2.tdiv 64)).toNat) (IntKind.u64.wrap ((BitVec.ofInt IntKind.u64.bits s_e7 &&& ~~~ BitVec.ofInt IntKind.u64.bits (IntKind.u64.wrap (1 * 2 ^ (Nat.min ((IntKind.u64.wrap (n2)).tmod 64).toNat IntKind.u64.bits)))).toNat))).a3),.int .u64 ((s1.set ((IntKind.i64.wrap (n2.tdiv 64)).toNat) (IntKind.u64.wrap ((BitVec.ofInt IntKind.u64.bits s_e7 &&& ~~~ BitVec.ofInt IntKind.u64.bits (IntKind.u64.wrap (1 * 2 ^ (Nat.min ((IntKind.u64.wrap (n2)).tmod 64).toNat IntKind.u64.bits)))).toNat))).a4),.int .u64 ((s1.set ((IntKind.i64.wrap (n2.tdiv 64)).toNat) (IntKind.u64.wrap ((BitVec.ofInt IntKind.u64.bits s_e7 &&& ~~~ BitVec.ofInt IntKind.u64.bits (IntKind.u64.wrap (1 * 2 ^ (Nat.min ((IntKind.u64.wrap (n2)).tmod 64).toNat IntKind.u64.bits)))).toNat))).a5),.int .u64 ((s1.set ((IntKind.i64.wrap (n2.tdiv 64)).toNat) (IntKind.u64.wrap ((BitVec.ofInt IntKind.u64.bits s_e7 &&& ~~~ BitVec.ofInt IntKind.u64.bits (IntKind.u64.wrap (1 * 2 ^ (Nat.min ((IntKind.u64.wrap (n2)).tmod 64).toNat IntKind.u64.bits)))).toNat))).a6),.int .u64 ((s1.set ((IntKind.i64.wrap (n2.tdiv 64)).toNat) (IntKind.u64.wrap ((BitVec.ofInt IntKind.u64.bits s_e7 &&& ~~~ BitVec.ofInt IntKind.u64.bits (IntKind.u64.wrap (1 * 2 ^ (Nat.min ((IntKind.u64.wrap (n2)).tmod 64).toNat IntKind.u64.bits)))).toNat))).a7)]) (by simp) r r r r r hs_o8 r r (congrArg (fun l=>D.agg (l.map UQ)) (Ob s1 ((IntKind.i64.wrap (n2.tdiv 64)).toNat) (IntKind.u64.wrap ((BitVec.ofInt IntKind.u64.bits s_e7 &&& ~~~ BitVec.ofInt IntKind.u64.bits (IntKind.u64.wrap (1 * 2 ^ (Nat.min ((IntKind.u64.wrap (n2)).tmod 64).toNat IntKind.u64.bits)))).toNat))).symm) r r<|Mj (by kernel_rfl)<|bM<|SF (b:=(s1.set ((IntKind.i64.wrap (n2.tdiv 64)).toNat) (IntKind.u64.wrap ((BitVec.ofInt IntKind.u64.bits s_e7 &&& ~~~ BitVec.ofInt IntKind.u64.bits (IntKind.u64.wrap (1 * 2 ^ (Nat.min ((IntKind.u64.wrap (n2)).tmod 64).toNat IntKind.u64.bits)))).toNat)))) r ?_ r r ?_ r (by decide)
   all_goals first|(simp;done)|(simp;omega)|rfl|(simp [Ma,LZ];done)

def Agr : Ml:=(.seq (.reg [P 2 (.asg (.c .top) none)] false) (.seq (.reg [P 6 (.bld [(.int .u64 0),(.int .u64 0),(.int .u64 0),(.int .u64 0),(.int .u64 0),(.int .u64 0),(.int .u64 0),(.int .u64 0)] []),P 7 (.box (T 6) 8 120),P 3 (.asg (T 7) none)] false) (.seq (.seq (.reg [M 8 0,P 9 (.len false (T 8)),P 10 (.mv (C 0))] false) (.block 0 (.loop (.seq (.reg [P 11 (.bin .lss (T 10) (T 9))] false) (.seq (.cond (T 11) .skip (.exit 0)) (.seq (.block 1 (.seq (.reg [P 12 (.ixA 1 (T 8) (T 10)),P 13 (.ld 1 false (T 12)),P 5 (.asg (T 13) none)] false) (.reg [M 14 3,M 15 5,P 16 (.call (.c (.clo 97 [])) [(T 14),(T 15),(.c (.bool true))])] false))) (.reg [P 17 (.bin .add (T 10) (C 1)),M 10 17] false))))))) (.seq (.reg [M 18 3,P 2 (.asg (T 18) none)] false) .ret))))
theorem AjC : (Tryd.f86.body.bind (Mn Tryd.prog Tryd.f86.ntmps)) = some Agr:=by kernel_rfl
theorem AjD : Tryd.f86.results.toList.mapM (Mw Tryd.prog) = some [(.t 2)]:=by kernel_rfl
def Uf (a : (List Int)) : List D:=[.sl (a.map LR)]
def Ue (ds : List D) : (List Int):=(uL uI) (ds.getD 0 .top)
theorem Oo (a : (List Int)) : Ue (Uf a) = a:=by simp [Ue,Uf,NF (u:=uI) (en:=LR) (fun _=>rfl)]
def Zo (b : LW) : D:=MC b
def Zn (_b : LW) : List D:=[]
noncomputable def NG : Dw.Spec:=Mk [] (.ptr 8 120) Uf Ue (fun a=>NC a) Zo Zn
set_option maxHeartbeats 4000000 in
theorem RX : Mi Tryd.prog 86 NG:=by
 refine Mu (Mo (l:=[(97,OM)]) (by simp [Vd])) Tryd.func86 (by decide) AjC AjD (np:=1) (by decide) Oo (fun _=>r) (fun _=>r) (by decide)<|?_
 intro l1
 show TrE (specs [(97,OM)]) Agr (Mx [] (.ptr 8 120) [(.t 2)] Zo Zn) ⟨[(0,.sl (l1.map LR))],[],262144⟩ (NC l1)
 refine Mp<|?_
 unfold Agr NC
 refine sQ<|rG<|aS r r<|nI<|xS<|sQ<|rG<|bL (cs:=[.int .u64 0,.int .u64 0,.int .u64 0,.int .u64 0,.int .u64 0,.int .u64 0,.int .u64 0,.int .u64 0]) (ps:=[]) r r r r<|bX r r r r r<|aS r r<|nI<|xS<|sQ<|sQ<|rG<|mV r r<|lS r r<|mV r r<|nI<|xS<|bK<|lP (E:=fun (s : LW × Int) (g : Nat)=>[(3,.optr 7 g 0 0),(8,.sl (l1.map LR)),(9,.int .i64 (l1.length : Int)),(10,.int .i64 s.2)]) (O:=fun s g=>[(7,some (g,⟨false,true,8,120,[.agg [.int .u64 s.1.a0,.int .u64 s.1.a1,.int .u64 s.1.a2,.int .u64 s.1.a3,.int .u64 s.1.a4,.int .u64 s.1.a5,.int .u64 s.1.a6,.int .u64 s.1.a7]]⟩))]) (body:=fun s=>RW l1 s.1 s.2) (s:=((LW.mk 0 0 0 0 0 0 0 0),0)) _ ((hE ⟨rfl,r,r,r,trivial⟩ ⟨rfl,trivial⟩))<|?_
 rintro ⟨x2,x3⟩ v7x1 nn
 try dsimp only
 unfold RW
 refine sQ<|rG<|bN (v:=.bool (decide (x3 < (l1.length : Int)))) r r r r r<|nI<|xS<|sQ<|cD (c:=(decide (x3 < (l1.length : Int)))) r ?_ ?_
 ·exact sK<|xS<|sQ<|bK<|sQ<|rG<|bD fun x_x4 hx_x4=>iS (en:=LR) r r r hx_x4 r<|lF (v:=.int .i64 x_x4) r r r r<|aS r r<|nI<|xS<|rG<|mV r r<|mV r r<|bD fun r5 hr5=>cV (x2,x_x4,true) r r r Rz r r (by simp) r hr5<|nI<|bM<|xS<|rG<|bN (v:=.int .i64 (IntKind.i64.wrap (x3 + 1))) r r r r r<|mV r r<|nI<|xL (s:=(r5,IntKind.i64.wrap (x3 + 1))) _ ((hE ⟨rfl,r,r,r,trivial⟩ ⟨rfl,trivial⟩))
 ·refine eT<|xE<|lE<|bH<|xS<|sQ<|rG<|mV r r<|aS r r<|nI<|xS<|rT<|AbM (b:=x2) r ?_ r ?_ r r ?_ r
  all_goals first|(simp;done)|(simp;omega)|rfl|(simp [Ma,LZ];done)

def Agt : Ml:=(.seq (.reg [⟨(some 2),(.asg (.c .nils) (some ⟨1,3⟩)),none,[]⟩] false) (.seq (.reg [⟨(some 3),(.asg (.c .nils) (some ⟨1,3⟩)),none,[]⟩] false) (.seq (.seq (.reg [M 6 0,P 7 (.mv (C 0))] false) (.block 0 (.loop (.seq (.reg [P 8 (.bin .lss (T 7) (C 8))] false) (.seq (.cond (T 8) .skip (.exit 0)) (.seq (.block 1 (.seq (.reg [M 9 7,P 10 (.nilck (T 6)),⟨(some 11),(.ixP 1 8 (T 10) (T 7)),none,[1]⟩,⟨(some 12),(.ld 1 false (T 11)),none,[2]⟩,⟨(some 4),(.asg (T 9) none),none,[0,0]⟩,⟨(some 5),(.asg (T 12) none),none,[3,4,0,1,2,3,4]⟩] true) (.block 2 (.loop (.seq (.seq (.reg [M 13 5,P 14 (.bin .neq (T 13) (.c (.int .u64 0)))] false) (.cond (T 14) .skip (.exit 2))) (.seq (.block 3 (.reg [M 19 3,M 20 4,P 21 (.bin .mul (C 64) (T 20)),M 22 5,P 23 (.call (.c (.clo 98 [])) [(T 22)]),P 24 (.bin .add (T 21) (T 23)),⟨(some 25),(.bldS 1 3 (.int .i64 0) 1 [⟨0,(T 24)⟩]),none,[]⟩,P 26 (.app 1 3 8 (T 19) (T 25)),⟨(some 3),(.asg (T 26) (some ⟨1,3⟩)),none,[]⟩] false)) (.reg [M 15 5,M 16 5,P 17 (.bin .sub (T 16) (.c (.int .u64 1))),P 18 (.bin .and (T 15) (T 17)),P 5 (.asg (T 18) none)] false))))))) (.reg [P 27 (.bin .add (T 7) (C 1)),M 7 27] false))))))) (.seq (.reg [M 28 3,⟨(some 2),(.asg (T 28) (some ⟨1,3⟩)),none,[]⟩] false) .ret))))
theorem AjG : (Tryd.f89.body.bind (Mn Tryd.prog Tryd.f89.ntmps)) = some Agt:=by kernel_rfl
theorem AjH : Tryd.f89.results.toList.mapM (Mw Tryd.prog) = some [(.t 2)]:=by kernel_rfl
def QI (a : LW) : List D:=[MC a]
def QH (ds : List D) : LW:=NW (ds.getD 0 .top)
theorem Oi (a : LW) : QH (QI a) = a:=by simp [QH,QI]
def Vc (b : (List Int) × LW) : D:=.sl (b.1.map LR)
def Vb (b : (List Int) × LW) : List D:=[MC b.2]
noncomputable def MT : Dw.Spec:=Mk [(0,(8,120))] (.row 1 3) QI QH (fun a=>Na a) Vc Vb
set_option maxHeartbeats 4000000 in
theorem Pq : Mi Tryd.prog 89 MT:=by
 refine Mu (Mo (l:=[(98,AcJ)]) (by simp [Aho])) Tryd.func89 (by decide) AjG AjH (np:=1) (by decide) Oi (fun _=>r) (fun _=>r) (by decide)<|?_
 intro s1
 show TrE (specs [(98,AcJ)]) Agt (Mx [(0,(8,120))] (.row 1 3) [(.t 2)] Vc Vb) ⟨[(0,.optr 8192 0 0 0)],[(8192,some (0,⟨false,true,8,120,[.agg [.int .u64 s1.a0,.int .u64 s1.a1,.int .u64 s1.a2,.int .u64 s1.a3,.int .u64 s1.a4,.int .u64 s1.a5,.int .u64 s1.a6,.int .u64 s1.a7]]⟩))],262144⟩ (Na s1)
 refine Mp<|?_
 unfold Agt Na
 refine sQ<|rG<|aN (α:=Int) r LR r<|nI<|xS<|sQ<|rG<|aN (α:=Int) r LR r<|nI<|xS<|sQ<|sQ<|rG<|mV r r<|mV r r<|nI<|xS<|bK<|lP (E:=fun (s : (List Int) × Int) (g : Nat)=>[(3,.osl 3 g 0 s.1.length),(6,.optr 8192 0 0 0),(7,.int .i64 s.2)]) (O:=fun s g=>[(3,some (g,⟨false,false,1,3,s.1.map LR⟩)),(8192,some (0,⟨false,true,8,120,[.agg [.int .u64 s1.a0,.int .u64 s1.a1,.int .u64 s1.a2,.int .u64 s1.a3,.int .u64 s1.a4,.int .u64 s1.a5,.int .u64 s1.a6,.int .u64 s1.a7]]⟩))]) (body:=fun s=>Po s1 s.1 s.2) (s:=(([] : List Int),0)) _ ((hE ⟨rfl,r,r,trivial⟩ ⟨rfl,r,trivial⟩))<|?_
 rintro ⟨l2,x3⟩ v3x1 nn
 try dsimp only
 unfold Po
 refine sQ<|rG<|bN (v:=.bool (decide (x3 < 8))) r r r r r<|nI<|xS<|sQ<|cD (c:=(decide (x3 < 8))) r ?_ ?_
 ·refine sK<|xS<|sQ<|bK<|sQ<|rG<|mV r r<|nC r r r<|cK fun hq=>RO r r r hq<|bD fun s_e4 hs_e4=>Sm (q:=s_e4) (l:=s1.toList) (en:=UQ) (j:=x3.toNat) (by simp) r r r hs_e4 r (fun _=>r)<|aS r r<|aS r r<|Mj (by kernel_rfl)<|xS<|bK<|lP (E:=fun (s : (List Int) × Int) (g : Nat)=>[(3,.osl 3 g 0 s.1.length),(4,.int .i64 x3),(5,.int .u64 s.2),(6,.optr 8192 0 0 0),(7,.int .i64 x3)]) (O:=fun s g=>[(3,some (g,⟨false,false,1,3,s.1.map LR⟩)),(8192,some (0,⟨false,true,8,120,[.agg [.int .u64 s1.a0,.int .u64 s1.a1,.int .u64 s1.a2,.int .u64 s1.a3,.int .u64 s1.a4,.int .u64 s1.a5,.int .u64 s1.a6,.int .u64 s1.a7]]⟩))]) (body:=fun s=>Pp x3 s.1 s.2) (s:=(l2,s_e4)) _ ((hE ⟨rfl,r,r,r,r,trivial⟩ ⟨rfl,r,trivial⟩))<|?_
  rintro ⟨l5,x6⟩ v3x2 nn
  try dsimp only
  unfold Pp
  refine sQ<|sQ<|rG<|mV r r<|bN (v:=.bool (x6 != 0)) r r r r r<|nI<|xS<|cD (c:=(x6 != 0)) r ?_ ?_
  ·exact sK<|xS<|sQ<|bK<|rG<|mV r r<|mV r r<|bN (v:=.int .i64 (IntKind.i64.wrap (64 * x3))) r r r r r<|mV r r<|bD fun r7 hr7=>cG x6 r r r Aew r r (by simp) r hr7 r<|bN (v:=.int .i64 (IntKind.i64.wrap ((IntKind.i64.wrap (64 * x3)) + r7))) r r r r r<|bS ([IntKind.i64.wrap ((IntKind.i64.wrap (64 * x3)) + r7)] : List Int) LR r r r (by simp) r r r<|cK fun hq=>aP (l5) (([IntKind.i64.wrap ((IntKind.i64.wrap (64 * x3)) + r7)] : List Int)) LR r r r r r r r (by simp) (Mr _ _ r) r r (by simp) (Md _ _ r) (fun _=>r) r hq<|aO (l:=l5 ++ ([IntKind.i64.wrap ((IntKind.i64.wrap (64 * x3)) + r7)] : List Int)) (en:=LR) r r r r<|nI<|bM<|xS<|rG<|mV r r<|mV r r<|bN (v:=.int .u64 (IntKind.u64.wrap (x6 - 1))) r r r r r<|bN (v:=.int .u64 (IntKind.u64.wrap ((BitVec.ofInt IntKind.u64.bits x6 &&& BitVec.ofInt IntKind.u64.bits (IntKind.u64.wrap (x6 - 1))).toNat))) r r r r r<|aS r r<|nI<|xL (s:=(l5 ++ ([IntKind.i64.wrap ((IntKind.i64.wrap (64 * x3)) + r7)] : List Int),IntKind.u64.wrap ((BitVec.ofInt IntKind.u64.bits x6 &&& BitVec.ofInt IntKind.u64.bits (IntKind.u64.wrap (x6 - 1))).toNat))) _ ((hE ⟨rfl,r,r,r,r,trivial⟩ ⟨rfl,r,trivial⟩))
  ·exact eT<|xE<|lE<|bH<|bM<|xS<|rG<|bN (v:=.int .i64 (IntKind.i64.wrap (x3 + 1))) r r r r r<|mV r r<|nI<|xL (s:=(l5,IntKind.i64.wrap (x3 + 1))) _ ((hE ⟨rfl,r,r,trivial⟩ ⟨rfl,r,trivial⟩))
 ·refine eT<|xE<|lE<|bH<|xS<|sQ<|rG<|mV r r<|aO (l:=l2) (en:=LR) r r r r<|nI<|xS<|rT<|MA (b:=(l2,s1)) r ?_ r r ?_ r ?_ (congrArg D.sl (Md _ _ r)) r
  all_goals first|(simp;done)|(simp;omega)|rfl|(simp [Ma,LZ];done)

def Agw : Ml:=(.seq (.reg [⟨(some 4),(.asg (.c .nils) (some ⟨1,3⟩)),none,[]⟩] false) (.seq (.reg [M 6 0,P 7 (.call (.c (.clo 86 [])) [(T 6)]),P 5 (.asg (T 7) none)] false) (.seq (.reg [M 8 5,M 9 1,P 10 (.call (.c (.clo 97 [])) [(T 8),(T 9),(.c (.bool false))])] false) (.seq (.reg [M 11 5,P 12 (.call (.c (.clo 89 [])) [(T 11)]),⟨(some 4),(.asg (T 12) (some ⟨1,3⟩)),none,[]⟩] false) .ret))))
theorem AjM : (Tryd.f94.body.bind (Mn Tryd.prog Tryd.f94.ntmps)) = some Agw:=by kernel_rfl
theorem AjN : Tryd.f94.results.toList.mapM (Mw Tryd.prog) = some [(.t 4)]:=by kernel_rfl
def Ud (a : (List Int) × Int) : List D:=[.sl (a.1.map LR),.int .i64 a.2]
def Uc (ds : List D) : (List Int) × Int:=((uL uI) (ds.getD 0 .top),uI (ds.getD 1 .top))
theorem YA (a : (List Int) × Int) : Uc (Ud a) = a:=by simp [Uc,Ud,uI,NF (u:=uI) (en:=LR) (fun _=>rfl)]
def Vr (b : (List Int)) : D:=.sl (b.map LR)
def Zl (_b : (List Int)) : List D:=[]
noncomputable def Vs : Dw.Spec:=Mk [] .val Ud Uc (fun a=>PQ a.1 a.2) Vr Zl
set_option maxHeartbeats 4000000 in
theorem Acm : Mi Tryd.prog 94 Vs:=by
 refine Mu (Mo (l:=[(86,NG),(97,OM),(89,MT)]) (by simp [RX,Vd,Pq])) Tryd.func94 (by decide) AjM AjN (np:=2) (by decide) YA (fun _=>r) (fun _=>r) (by decide)<|?_
 rintro ⟨s1,n2⟩
 show TrE (specs [(86,NG),(97,OM),(89,MT)]) Agw (Mx [] .val [(.t 4)] Vr Zl) ⟨[(0,.sl (s1.map LR)),(1,.int .i64 n2)],[],262144⟩ (PQ s1 n2)
 refine Mp<|?_
 unfold Agw PQ
 refine sQ<|rG<|aN (α:=Int) r LR r<|nI<|xS<|sQ<|rG<|mV r r<|bD fun r3 hr3=>cP s1 r r r Oo r r (by simp) r hr3<|aS r r<|nI<|xS<|sQ<|rG<|mV r r<|mV r r<|bD fun r4 hr4=>cV (r3,n2,false) r r r Rz r r (by simp) r hr4<|nI<|xS<|sQ<|rG<|mV r r<|bD fun r5 hr5=>cR (l:=r5.1) (en:=LR) r4 r r r Oi r r (by simp) r hr5 r<|aO (l:=r5.1) (en:=LR) r r r r<|nI<|xS<|rT<|Ng (b:=r5.1) r ?_ r r ?_ (by first | rfl | (simp only [Mt,Mz]; rfl) | simp [Vr])
 all_goals first|(simp;done)|(simp;omega)|rfl|(simp [Ma,LZ];done)

def Agy : Ml:=(.seq (.reg [P 1 (.box (T 0) 5 57),⟨(some 2),(.asg (.c .nils) (some ⟨1,3⟩)),none,[]⟩] false) (.seq (.seq (.reg [P 3 (.fldA 0 (T 1)),P 4 (.ld 1 false (T 3))] false) (.block 0 (.seq (.seq (.reg [P 6 (.bin .eql (T 4) (C 15)),P 5 (.asg (T 6) none)] false) (.cond (T 5) .skip (.reg [P 7 (.bin .eql (T 4) (C 17)),P 5 (.asg (T 7) none)] false))) (.cond (T 5) (.seq (.reg [P 8 (.fldA 2 (T 1)),P 9 (.ld 1 false (T 8)),⟨(some 10),(.bldS 1 3 (.int .i64 0) 1 [⟨0,(T 9)⟩]),none,[]⟩,⟨(some 2),(.asg (T 10) (some ⟨1,3⟩)),none,[]⟩] false) .ret) .skip)))) (.seq (.reg [⟨(some 2),(.asg (.c .nils) (some ⟨1,3⟩)),none,[]⟩] false) .ret)))
theorem AjQ : (Tryd.f96.body.bind (Mn Tryd.prog Tryd.f96.ntmps)) = some Agy:=by kernel_rfl
theorem AjR : Tryd.f96.results.toList.mapM (Mw Tryd.prog) = some [(.t 2)]:=by kernel_rfl
def VB (a : LS) : List D:=[LV a]
def VA (ds : List D) : LS:=Sv (ds.getD 0 .top)
theorem Wt (a : LS) : VA (VB a) = a:=by simp [VA,VB]
def AaD (b : (List Int)) : D:=.sl (b.map LR)
def AaC (_b : (List Int)) : List D:=[]
noncomputable def Xp : Dw.Spec:=Mk [] (.row 1 3) VB VA (fun a=>Rm a) AaD AaC
set_option maxHeartbeats 4000000 in
theorem AcP : Mi Tryd.prog 96 Xp:=by
 refine Mu (Nn) Tryd.func96 (by decide) AjQ AjR (np:=1) (by decide) Wt (fun _=>r) (fun _=>r) (by decide)<|?_
 intro x1
 show TrE (specs []) Agy (Mx [] (.row 1 3) [(.t 2)] AaD AaC) ⟨[(0,.agg [.int .i64 x1.Op,.int .i64 x1.A,.int .i64 x1.B,.int .i64 x1.C,.int .u64 x1.Imm])],[],262144⟩ (Rm x1)
 refine Mp<|?_
 unfold Agy Rm
 refine sQ<|rG<|bX r r r r r<|aN (α:=Int) r LR r<|nI<|xS<|sQ<|sQ<|rG<|fA r r<|lO (v:=.int .i64 x1.Op) (z:=.agg [.int .i64 x1.Op,.int .i64 x1.A,.int .i64 x1.B,.int .i64 x1.C,.int .u64 x1.Imm]) r r r r r r<|nI<|xS<|bK<|sQ<|sQ<|rG<|bN (v:=.bool (x1.Op == 15)) r r r r r<|aS r r<|nI<|xS<|cD (c:=(x1.Op == 15)) r ?_ ?_
 ·refine sK<|xS<|cD (c:=(x1.Op == 15)) r ?_ ?_
  ·refine sQ<|rG<|fA r r<|lO (v:=.int .i64 x1.B) (z:=.agg [.int .i64 x1.Op,.int .i64 x1.A,.int .i64 x1.B,.int .i64 x1.C,.int .u64 x1.Imm]) r r r r r r<|bS ([x1.B] : List Int) LR r r r (by simp) r r r<|aO (l:=([x1.B] : List Int)) (en:=LR) r r r r<|nI<|xS<|rT<|bR<|xR<|MA (b:=([x1.B] : List Int)) r ?_ r r ?_ r ?_ (congrArg D.sl (Md _ _ r)) r
   all_goals first|(simp;done)|(simp;omega)|rfl|(simp [Ma,LZ];done)
  ·refine sK<|bM<|xS<|sQ<|rG<|aN (α:=Int) r LR r<|nI<|xS<|rT<|MA (b:=([] : List Int)) r ?_ r r ?_ r ?_ (congrArg D.sl (Md _ _ r)) r
   all_goals first|(simp;done)|(simp;omega)|rfl|(simp [Ma,LZ];done)
 ·refine rG<|bN (v:=.bool (x1.Op == 17)) r r r r r<|aS r r<|nI<|xS<|cD (c:=(x1.Op == 17)) r ?_ ?_
  ·refine sQ<|rG<|fA r r<|lO (v:=.int .i64 x1.B) (z:=.agg [.int .i64 x1.Op,.int .i64 x1.A,.int .i64 x1.B,.int .i64 x1.C,.int .u64 x1.Imm]) r r r r r r<|bS ([x1.B] : List Int) LR r r r (by simp) r r r<|aO (l:=([x1.B] : List Int)) (en:=LR) r r r r<|nI<|xS<|rT<|bR<|xR<|MA (b:=([x1.B] : List Int)) r ?_ r r ?_ r ?_ (congrArg D.sl (Md _ _ r)) r
   all_goals first|(simp;done)|(simp;omega)|rfl|(simp [Ma,LZ];done)
  ·refine sK<|bM<|xS<|sQ<|rG<|aN (α:=Int) r LR r<|nI<|xS<|rT<|MA (b:=([] : List Int)) r ?_ r r ?_ r ?_ (congrArg D.sl (Md _ _ r)) r
   all_goals first|(simp;done)|(simp;omega)|rfl|(simp [Ma,LZ];done)

def Agx : Ml:=(.seq (.reg [⟨(some 2),(.asg (.c .nils) (some ⟨1,3⟩)),none,[]⟩] false) (.seq (.reg [M 3 0,P 4 (.call (.c (.clo 86 [])) [(T 3)]),P 5 (.call (.c (.clo 89 [])) [(T 4)]),⟨(some 2),(.asg (T 5) (some ⟨1,3⟩)),none,[]⟩] false) .ret))
theorem AjO : (Tryd.f95.body.bind (Mn Tryd.prog Tryd.f95.ntmps)) = some Agx:=by kernel_rfl
theorem AjP : Tryd.f95.results.toList.mapM (Mw Tryd.prog) = some [(.t 2)]:=by kernel_rfl
def Sq (a : (List Int)) : List D:=[.sl (a.map LR)]
def Xm (ds : List D) : (List Int):=(uL uI) (ds.getD 0 .top)
theorem Yz (a : (List Int)) : Xm (Sq a) = a:=by simp [Xm,Sq,NF (u:=uI) (en:=LR) (fun _=>rfl)]
def AbV (b : (List Int)) : D:=.sl (b.map LR)
def AbU (_b : (List Int)) : List D:=[]
noncomputable def ZD : Dw.Spec:=Mk [] (.row 1 3) Sq Xm (fun a=>RT a) AbV AbU
set_option maxHeartbeats 4000000 in
theorem AdG : Mi Tryd.prog 95 ZD:=by
 refine Mu (Mo (l:=[(86,NG),(89,MT)]) (by simp [RX,Pq])) Tryd.func95 (by decide) AjO AjP (np:=1) (by decide) Yz (fun _=>r) (fun _=>r) (by decide)<|?_
 intro l1
 show TrE (specs [(86,NG),(89,MT)]) Agx (Mx [] (.row 1 3) [(.t 2)] AbV AbU) ⟨[(0,.sl (l1.map LR))],[],262144⟩ (RT l1)
 refine Mp<|?_
 unfold Agx RT
 refine sQ<|rG<|aN (α:=Int) r LR r<|nI<|xS<|sQ<|rG<|mV r r<|bD fun r2 hr2=>cP l1 r r r Oo r r (by simp) r hr2<|bD fun r3 hr3=>cR (l:=r3.1) (en:=LR) r2 r r r Oi r r (by simp) r hr3 r<|aO (l:=r3.1) (en:=LR) r r r r<|nI<|xS<|rT<|MA (b:=r3.1) r ?_ r r ?_ r ?_ (congrArg D.sl (Md _ _ r)) r
 all_goals first|(simp;done)|(simp;omega)|rfl|(simp [Ma,LZ];done)

def Ags : Ml:=(.seq (.reg [P 4 (.asg (.c (.int .u64 0)) none)] false) (.seq (.reg [M 5 0,M 6 1,P 7 (.bin .or (T 5) (T 6)),P 4 (.asg (T 7) none)] false) .ret))
theorem AjE : (Tryd.f88.body.bind (Mn Tryd.prog Tryd.f88.ntmps)) = some Ags:=by kernel_rfl
theorem AjF : Tryd.f88.results.toList.mapM (Mw Tryd.prog) = some [(.t 4)]:=by kernel_rfl
def Tl (a : Int × Int) : List D:=[.int .u64 a.1,.int .u64 a.2]
def Tk (ds : List D) : Int × Int:=(uI (ds.getD 0 .top),uI (ds.getD 1 .top))
theorem XH (a : Int × Int) : Tk (Tl a) = a:=by simp [Tk,Tl,uI]
def YC (b : Int) : D:=.int .u64 b
def YB (_b : Int) : List D:=[]
noncomputable def UN : Dw.Spec:=Mk [] .ground Tl Tk (fun a=>Ql a.1 a.2) YC YB
set_option maxHeartbeats 4000000 in
theorem AbQ : Mi Tryd.prog 88 UN:=by
 refine Mu (Nn) Tryd.func88 (by decide) AjE AjF (np:=2) (by decide) XH (fun _=>r) (fun _=>r) (by decide)<|?_
 rintro ⟨x1,y2⟩
 show TrE (specs []) Ags (Mx [] .ground [(.t 4)] YC YB) ⟨[(0,.int .u64 x1),(1,.int .u64 y2)],[],262144⟩ (Ql x1 y2)
 refine Mp<|?_
 unfold Ags Ql
 refine sQ<|rG<|aS r r<|nI<|xS<|sQ<|rG<|mV r r<|mV r r<|bN (v:=.int .u64 (IntKind.u64.wrap ((BitVec.ofInt IntKind.u64.bits x1 ||| BitVec.ofInt IntKind.u64.bits y2).toNat))) r r r r r<|aS r r<|nI<|xS<|rT<|Mf (b:=IntKind.u64.wrap ((BitVec.ofInt IntKind.u64.bits x1 ||| BitVec.ofInt IntKind.u64.bits y2).toNat)) r ?_ r r ?_ r
 all_goals first|(simp;done)|(simp;omega)|rfl|(simp [Ma,LZ];done)

def AdN : Ml:=(.seq (.reg [P 6 (.asg (.c .top) none)] false) (.seq (.reg [P 9 (.bld [(.int .u64 0),(.int .u64 0),(.int .u64 0),(.int .u64 0),(.int .u64 0),(.int .u64 0),(.int .u64 0),(.int .u64 0)] []),P 10 (.box (T 9) 8 120),P 7 (.asg (T 10) none)] false) (.seq (.seq (.reg [P 11 (.mv (C 0))] false) (.block 0 (.loop (.seq (.reg [P 12 (.bin .lss (T 11) (C 8))] false) (.seq (.cond (T 12) .skip (.exit 0)) (.seq (.block 1 (.seq (.reg [M 13 11,P 8 (.asg (T 13) none)] false) (.reg [M 14 7,M 15 8,M 16 2,M 17 0,M 18 8,⟨(some 19),(.nilck (T 17)),none,[3]⟩,⟨(some 20),(.ixP 1 8 (T 19) (T 18)),none,[5,4]⟩,⟨(some 21),(.ld 1 false (T 20)),none,[6]⟩,M 22 1,M 23 8,⟨(some 24),(.nilck (T 22)),none,[8]⟩,⟨(some 25),(.ixP 1 8 (T 24) (T 23)),none,[10,9]⟩,⟨(some 26),(.ld 1 false (T 25)),none,[11]⟩,⟨(some 27),(.call (T 16) [(T 21),(T 26)]),none,[2,7,12]⟩,⟨(some 28),(.nilck (T 14)),none,[0]⟩,⟨(some 29),(.ixP 1 8 (T 28) (T 15)),none,[14,1,0,1,2,3,4,5,6,7,8,9,10,11,12,13]⟩,⟨none,(.st 1 (T 29) (T 27)),none,[15,13,13,0,1,2,3,4,5,6,7,8,9,10,11,12,13]⟩] true))) (.reg [P 30 (.bin .add (T 11) (C 1)),M 11 30] false))))))) (.seq (.reg [M 31 7,P 6 (.asg (T 31) none)] false) .ret))))
theorem AeQ : (Tryd.f87.body.bind (Mn Tryd.prog Tryd.f87.ntmps)) = some AdN:=by kernel_rfl
theorem AeR : Tryd.f87.results.toList.mapM (Mw Tryd.prog) = some [(.t 6)]:=by kernel_rfl
def OI (a : LW × LW) : List D:=[MC a.1,MC a.2,.clo 88 []]
def OH (ds : List D) : LW × LW:=(NW (ds.getD 0 .top),NW (ds.getD 1 .top))
theorem QX (a : LW × LW) : OH (OI a) = a:=by simp [OH,OI]
def Rt (b : LW × LW × LW) : D:=MC b.1
def Rs (b : LW × LW × LW) : List D:=[MC b.2.1,MC b.2.2]
noncomputable def NR : Dw.Spec:=Mk [(0,(8,120)),(1,(8,120))] (.ptr 8 120) OI OH (fun a=>Nd a.1 a.2) Rt Rs
set_option maxHeartbeats 4000000 in
theorem Vw : Mi Tryd.prog 87 NR:=by
 refine Mu (Mo (l:=[(88,UN)]) (by simp [AbQ])) Tryd.func87 (by decide) AeQ AeR (np:=3) (by decide) QX (fun _=>r) (fun _=>r) (by decide)<|?_
 rintro ⟨s1,t2⟩
 show TrE (specs [(88,UN)]) AdN (Mx [(0,(8,120)),(1,(8,120))] (.ptr 8 120) [(.t 6)] Rt Rs) ⟨[(0,.optr 8192 0 0 0),(1,.optr 8193 1 0 0),(2,.clo 88 [])],[(8192,some (0,⟨false,true,8,120,[.agg [.int .u64 s1.a0,.int .u64 s1.a1,.int .u64 s1.a2,.int .u64 s1.a3,.int .u64 s1.a4,.int .u64 s1.a5,.int .u64 s1.a6,.int .u64 s1.a7]]⟩)),(8193,some (1,⟨false,true,8,120,[.agg [.int .u64 t2.a0,.int .u64 t2.a1,.int .u64 t2.a2,.int .u64 t2.a3,.int .u64 t2.a4,.int .u64 t2.a5,.int .u64 t2.a6,.int .u64 t2.a7]]⟩))],262144⟩ (Nd s1 t2)
 refine Mp<|?_
 unfold AdN Nd
 refine sQ<|rG<|aS r r<|nI<|xS<|sQ<|rG<|bL (cs:=[.int .u64 0,.int .u64 0,.int .u64 0,.int .u64 0,.int .u64 0,.int .u64 0,.int .u64 0,.int .u64 0]) (ps:=[]) r r r r<|bX r r r r r<|aS r r<|nI<|xS<|sQ<|sQ<|rG<|mV r r<|nI<|xS<|bK<|lP (E:=fun (s : LW × Int) (g : Nat)=>[(0,.optr 8192 0 0 0),(1,.optr 8193 1 0 0),(2,.clo 88 []),(7,.optr 10 g 0 0),(11,.int .i64 s.2)]) (O:=fun s g=>[(10,some (g,⟨false,true,8,120,[.agg [.int .u64 s.1.a0,.int .u64 s.1.a1,.int .u64 s.1.a2,.int .u64 s.1.a3,.int .u64 s.1.a4,.int .u64 s.1.a5,.int .u64 s.1.a6,.int .u64 s.1.a7]]⟩)),(8192,some (0,⟨false,true,8,120,[.agg [.int .u64 s1.a0,.int .u64 s1.a1,.int .u64 s1.a2,.int .u64 s1.a3,.int .u64 s1.a4,.int .u64 s1.a5,.int .u64 s1.a6,.int .u64 s1.a7]]⟩)),(8193,some (1,⟨false,true,8,120,[.agg [.int .u64 t2.a0,.int .u64 t2.a1,.int .u64 t2.a2,.int .u64 t2.a3,.int .u64 t2.a4,.int .u64 t2.a5,.int .u64 t2.a6,.int .u64 t2.a7]]⟩))]) (body:=fun s=>Nj s1 t2 s.1 s.2) (s:=((LW.mk 0 0 0 0 0 0 0 0),0)) _ ((hE ⟨rfl,r,r,r,r,trivial⟩ ⟨rfl,r,r,trivial⟩))<|?_
 rintro ⟨x3,x4⟩ v10x1 nn
 try dsimp only
 unfold Nj
 refine sQ<|rG<|bN (v:=.bool (decide (x4 < 8))) r r r r r<|nI<|xS<|sQ<|cD (c:=(decide (x4 < 8))) r ?_ ?_
 ·exact sK<|xS<|sQ<|bK<|sQ<|rG<|mV r r<|aS r r<|nI<|xS<|rG<|mV r r<|mV r r<|mV r r<|mV r r<|mV r r<|nC r r r<|cK fun hq=>RO r r r hq<|bD fun s_e5 hs_e5=>Sm (q:=s_e5) (l:=s1.toList) (en:=UQ) (j:=x4.toNat) (by simp) r r r hs_e5 r (fun _=>r)<|mV r r<|mV r r<|nC r r r<|cK fun hq=>RO r r r hq<|bD fun t_e6 ht_e6=>Sm (q:=t_e6) (l:=t2.toList) (en:=UQ) (j:=x4.toNat) (by simp) r r r ht_e6 r (fun _=>r)<|bD fun r7 hr7=>cG (s_e5,t_e6) r r r XH r r (by simp) r hr7 r<|nC r r r<|cK fun hq=>RO r r r hq<|bD fun x_o8 hx_o8=>AcI (q:=x_o8) (q':=r7) (l:=x3.toList) (en:=UQ) (j:=x4.toNat) (z':=.agg [.int .u64 ((x3.set x4.toNat r7).a0),.int .u64 ((x3.set x4.toNat r7).a1),.int .u64 ((x3.set x4.toNat r7).a2),.int .u64 ((x3.set x4.toNat r7).a3),.int .u64 ((x3.set x4.toNat r7).a4),.int .u64 ((x3.set x4.toNat r7).a5),.int .u64 ((x3.set x4.toNat r7).a6),.int .u64 ((x3.set x4.toNat r7).a7)]) (by simp) r r r r r hx_o8 r r (congrArg (fun l=>D.agg (l.map UQ)) (Ob x3 x4.toNat r7).symm)<|Mj (by kernel_rfl)<|bM<|xS<|rG<|bN (v:=.int .i64 (IntKind.i64.wrap (x4 + 1))) r r r r r<|mV r r<|nI<|xL (s:=((x3.set x4.toNat r7),IntKind.i64.wrap (x4 + 1))) _ ((hE ⟨rfl,r,r,r,r,trivial⟩ ⟨rfl,r,r,trivial⟩))
 ·refine eT<|xE<|lE<|bH<|xS<|sQ<|rG<|mV r r<|aS r r<|nI<|xS<|rT<|AbM (b:=(x3,s1,t2)) r ?_ r ?_ r r ?_ r
  all_goals first|(simp;done)|(simp;omega)|rfl|(simp [Ma,LZ];done)

def Agg : Ml:=(.seq (.reg [⟨(some 4),(.asg (.c .nils) (some ⟨1,3⟩)),none,[]⟩] false) (.seq (.reg [M 5 0,P 6 (.call (.c (.clo 86 [])) [(T 5)]),M 7 1,P 8 (.call (.c (.clo 86 [])) [(T 7)]),P 9 (.call (.c (.clo 87 [])) [(T 6),(T 8),(.c (.clo 88 []))]),P 10 (.call (.c (.clo 89 [])) [(T 9)]),⟨(some 4),(.asg (T 10) (some ⟨1,3⟩)),none,[]⟩] false) .ret))
theorem Ajg : (Tryd.f73.body.bind (Mn Tryd.prog Tryd.f73.ntmps)) = some Agg:=by kernel_rfl
theorem Ajh : Tryd.f73.results.toList.mapM (Mw Tryd.prog) = some [(.t 4)]:=by kernel_rfl
def Qt (a : (List Int) × (List Int)) : List D:=[.sl (a.1.map LR),.sl (a.2.map LR)]
def UO (ds : List D) : (List Int) × (List Int):=((uL uI) (ds.getD 0 .top),(uL uI) (ds.getD 1 .top))
theorem Tf (a : (List Int) × (List Int)) : UO (Qt a) = a:=by simp [UO,Qt,NF (u:=uI) (en:=LR) (fun _=>rfl)]
def Wp (b : (List Int)) : D:=.sl (b.map LR)
def ZV (_b : (List Int)) : List D:=[]
noncomputable def Ry : Dw.Spec:=Mk [] .val Qt UO (fun a=>OL a.1 a.2) Wp ZV
set_option maxHeartbeats 4000000 in
theorem Zm : Mi Tryd.prog 73 Ry:=by
 refine Mu (Mo (l:=[(86,NG),(364631,NR),(89,MT)]) (by simp [RX,Vw,Pq])) Tryd.func73 (by decide) Ajg Ajh (np:=2) (by decide) Tf (fun _=>r) (fun _=>r) (by decide)<|?_
 rintro ⟨a1,b2⟩
 show TrE (specs [(86,NG),(364631,NR),(89,MT)]) Agg (Mx [] .val [(.t 4)] Wp ZV) ⟨[(0,.sl (a1.map LR)),(1,.sl (b2.map LR))],[],262144⟩ (OL a1 b2)
 refine Mp<|?_
 unfold Agg OL
 refine sQ<|rG<|aN (α:=Int) r LR r<|nI<|xS<|sQ<|rG<|mV r r<|bD fun r3 hr3=>cP a1 r r r Oo r r (by simp) r hr3<|mV r r<|bD fun r4 hr4=>cP b2 r r r Oo r r (by simp) rfl hr4<|bD fun r5 hr5=>cP (r3,r4) rfl rfl (show _ = some NR from by kernel_rfl) QX rfl rfl (by simp) r hr5<|bD fun r6 hr6=>cR (l:=r6.1) (en:=LR) r5.1 r r r Oi r r (by simp) r hr6 r<|aO (l:=r6.1) (en:=LR) r r r r<|nI<|xS<|rT<|Ng (b:=r6.1) r ?_ r r ?_ (by first | rfl | (simp only [Mt,Mz]; rfl) | simp [Wp])
 all_goals first|(simp;done)|(simp;omega)|rfl|(simp [Ma,LZ];done)

end Go.Proofs.YtfpgidpffhmadaaDoor
