/-
  Programs on typed data, and the proofs that the code does what they say; written by a program (dx.py).
-/
import Derived.Test.YtfpgidpffhmadaaGreatDoorProg
import Derived.Test.YtfpgidpffhmadaaGreatDoorDc
import Derived.KernelRfl
import Derived.Test.YtfpgidpffhmadaaGreatDoorSh
import Derived.Test.YtfpgidpffhmadaaGreatDoorDxP
namespace Go.Proofs.YtfpgidpffhmadaaGreatDoor
open Go Go.Dw Go.Proofs
set_option maxRecDepth 100000
open Go.Dw renaming ZZ → mV,XI → bN,Rq → lO,VK → bD,XM → cK,XO → nI,XQ → xS,Aab → rG,Aad → sQ,RD → aO,XH → aS,XP → oF,XJ → bL,XK → bS,QF → cV,Pd → cG,Sf → cR,Zm → aP,Rr → sV,SK → iS,SM → lS,VL → fA,Abx → fF,AcP → nC,Uj → lF,Uk → sP,Qf → pT,Pw → pF,Aaa → uN,AfK → cT,XN → nW,XL → bX,RC → aN,Zk → aL,XR → cD,VN → bK,Aac → rT,XV → sK,XS → eT,Zn → xC,VM → xL,RE → xR,XX → zR,WT → lR,TU → hE,Qg → lE,QG → bH,Px → bM,Tg → bR,QH → xE,ZX → cP,XT → lP,UF → sC,KL → mF,rf → r
def AhI : Mm:=(.seq (.reg [P 2 (.asg (.c (.bool false)) none)] false) (.seq (.reg [M 3 0,P 4 (.bin .geq (T 3) (C 0)),M 5 4,⟨(some 6),(.mv (T 0)),(some ⟨5,true⟩),[]⟩,⟨(some 7),(.bin .lss (T 6) (C 512)),(some ⟨5,true⟩),[]⟩,P 8 (.pick (T 5) (T 7) (.c (.bool false))),P 2 (.asg (T 8) none)] false) .ret))
theorem AkZ : (Tryz.f63.body.bind (Mo Tryz.prog Tryz.f63.ntmps)) = some AhI:=by kernel_rfl
theorem Ala : Tryz.f63.results.toList.mapM (My Tryz.prog) = some [(.t 2)]:=by kernel_rfl
def RR (a : Int) : List D:=[.int .i64 a]
def RQ (ds : List D) : Int:=uI (ds.getD 0 .top)
theorem So (a : Int) : RQ (RR a) = a:=by simp [RQ,RR,uI]
def WX (b : Bool) : D:=.bool b
def WV (_b : Bool) : List D:=[]
noncomputable def Pm : Dw.Spec:=Ml [] .ground RR RQ (fun a=>Nw a) WX WV
set_option maxHeartbeats 4000000 in
theorem Wi : Mk Tryz.prog 63 Pm:=by
 refine Mv (Nb) Tryz.func63 (by decide) AkZ Ala (np:=1) (by decide) So (fun _=>r) (fun _=>r) (by decide)<|?_
 intro n1
 show TrE (specs []) AhI (Mz [] .ground [(.t 2)] WX WV) ⟨[(0,.int .i64 n1)],[],262144⟩ (Nw n1)
 refine Mq<|?_
 unfold AhI Nw
 refine sQ<|rG<|aS r r<|nI<|xS<|sQ<|rG<|mV r r<|bN (v:=.bool (decide (n1 ≥ 0))) r r r r r<|mV r r<|sP 5 (b:=(decide (n1 ≥ 0))) r ?_ ?_
 ·refine mV r r<|bN (v:=.bool (decide (n1 < 512))) r r r r r<|pT r r r r<|aS r r<|nI<|xS<|rT<|Mg (b:=(decide (n1 < 512))) r ?_ r r ?_ r
  all_goals first|(simp;done)|(simp;omega)|rfl|(simp [Me,Mc];done)
 ·refine oF r<|oF r<|pF r r r r<|aS r r<|nI<|xS<|rT<|Mg (b:=false) r ?_ r r ?_ r
  all_goals first|(simp;done)|(simp;omega)|rfl|(simp [Me,Mc];done)

def Ahu : Mm:=(.seq (.reg [P 2 (.asg (.c (.bool false)) none)] false) (.seq (.seq (.reg [M 5 0,P 6 (.len false (T 5)),P 7 (.mv (C 0))] false) (.block 0 (.loop (.seq (.reg [P 8 (.bin .lss (T 7) (T 6))] false) (.seq (.cond (T 8) .skip (.exit 0)) (.seq (.block 1 (.seq (.reg [M 9 7,P 10 (.ixA 1 (T 5) (T 7)),P 11 (.ld 1 false (T 10)),P 3 (.asg (T 9) none),P 4 (.asg (T 11) none)] false) (.seq (.reg [M 12 4,P 13 (.call (.c (.clo 63 [])) [(T 12)]),P 14 (.un .not (T 13)),M 15 14,⟨(some 16),(.mv (T 3)),(some ⟨15,false⟩),[]⟩,⟨(some 17),(.bin .gtr (T 16) (C 0)),(some ⟨15,false⟩),[]⟩,⟨(some 18),(.mv (T 17)),(some ⟨15,false⟩),[]⟩,⟨(some 19),(.mv (T 4)),(some ⟨18,true⟩),[]⟩,⟨(some 20),(.mv (T 0)),(some ⟨18,true⟩),[]⟩,⟨(some 21),(.mv (T 3)),(some ⟨18,true⟩),[]⟩,⟨(some 22),(.bin .sub (T 21) (C 1)),(some ⟨18,true⟩),[]⟩,⟨(some 23),(.ixA 1 (T 20) (T 22)),(some ⟨18,true⟩),[]⟩,⟨(some 24),(.ld 1 false (T 23)),(some ⟨18,true⟩),[]⟩,⟨(some 25),(.bin .leq (T 19) (T 24)),(some ⟨18,true⟩),[]⟩,⟨(some 26),(.pick (T 18) (T 25) (.c (.bool false))),(some ⟨15,false⟩),[]⟩,P 27 (.pick (T 15) (.c (.bool true)) (T 26))] false) (.cond (T 27) (.seq (.reg [P 2 (.asg (.c (.bool false)) none)] false) .ret) .skip)))) (.reg [P 28 (.bin .add (T 7) (C 1)),M 7 28] false))))))) (.seq (.reg [P 2 (.asg (.c (.bool true)) none)] false) .ret)))
theorem Akx : (Tryz.f49.body.bind (Mo Tryz.prog Tryz.f49.ntmps)) = some Ahu:=by kernel_rfl
theorem Aky : Tryz.f49.results.toList.mapM (My Tryz.prog) = some [(.t 2)]:=by kernel_rfl
def Vu (a : (List Int)) : List D:=[.sl (a.map LS)]
def Vt (ds : List D) : (List Int):=(uL uI) (ds.getD 0 .top)
theorem Aaj (a : (List Int)) : Vt (Vu a) = a:=by simp [Vt,Vu,Nt (u:=uI) (en:=LS) (fun _=>rfl)]
def AaV (b : Bool) : D:=.bool b
def AaU (_b : Bool) : List D:=[]
noncomputable def Xf : Dw.Spec:=Ml [] .ground Vu Vt (fun a=>RN a) AaV AaU
set_option maxHeartbeats 4000000 in
theorem AdH : Mk Tryz.prog 49 Xf:=by
 refine Mv (Mp (l:=[(63,Pm)]) (by simp [Wi])) Tryz.func49 (by decide) Akx Aky (np:=1) (by decide) Aaj (fun _=>r) (fun _=>r) (by decide)<|?_
 intro s1
 show TrE (specs [(63,Pm)]) Ahu (Mz [] .ground [(.t 2)] AaV AaU) ⟨[(0,.sl (s1.map LS))],[],262144⟩ (RN s1)
 refine Mq<|?_
 unfold Ahu RN
 refine sQ<|rG<|aS r r<|nI<|xS<|sQ<|sQ<|rG<|mV r r<|lS r r<|mV r r<|nI<|xS<|bK<|lP (E:=fun (s : Int) (g : Unit)=>[(0,.sl (s1.map LS)),(5,.sl (s1.map LS)),(6,.int .i64 (s1.length : Int)),(7,.int .i64 s)]) (O:=fun s g=>[]) (body:=fun s=>Oh s1 s) (s:=0) () ((hE ⟨rfl,r,r,r,trivial⟩ trivial))<|?_
 rintro x2 ⟨⟩ nn
 try dsimp only
 unfold Oh
 refine sQ<|rG<|bN (v:=.bool (decide (x2 < (s1.length : Int)))) r r r r r<|nI<|xS<|sQ<|cD (c:=(decide (x2 < (s1.length : Int)))) r ?_ ?_
 ·refine sK<|xS<|sQ<|bK<|sQ<|rG<|mV r r<|bD fun x_x3 hx_x3=>iS (en:=LS) r r r hx_x3 r<|lF (v:=.int .i64 x_x3) r r r r<|aS r r<|aS r r<|nI<|xS<|sQ<|rG<|mV r r<|bD fun r4 hr4=>cG x_x3 r r r So r r (by simp) r hr4 r<|uN (w:=.bool (!r4)) r r r r trivial<|mV r r<|sP 15 (b:=(!r4)) r ?_ ?_
  ·refine oF r<|oF r<|oF r<|oF r<|oF r<|oF r<|oF r<|oF r<|oF r<|oF r<|oF r<|pT r r r r<|nI<|xS<|MW r<|sQ<|rG<|aS r r<|nI<|xS<|rT<|bR<|xR<|lR<|bR<|xR<|Mg (b:=false) r ?_ r r ?_ r
   all_goals first|(simp;done)|(simp;omega)|rfl|(simp [Me,Mc];done)
  ·refine mV r r<|bN (v:=.bool (decide (x2 > 0))) r r r r r<|mV r r<|sP 18 (b:=(decide (x2 > 0))) r ?_ ?_
   ·refine mV r r<|mV r r<|mV r r<|bN (v:=.int .i64 (IntKind.i64.wrap (x2 - 1))) r r r r r<|bD fun x_x5 hx_x5=>iS (en:=LS) r r r hx_x5 r<|lF (v:=.int .i64 x_x5) r r r r<|bN (v:=.bool (decide (x_x3 ≤ x_x5))) r r r r r<|pT r r r r<|pF r r r r<|nI<|xS<|cD (c:=(decide (x_x3 ≤ x_x5))) r ?_ ?_
    ·refine sQ<|rG<|aS r r<|nI<|xS<|rT<|bR<|xR<|lR<|bR<|xR<|Mg (b:=false) r ?_ r r ?_ r
     all_goals first|(simp;done)|(simp;omega)|rfl|(simp [Me,Mc];done)
    ·exact sK<|bM<|xS<|rG<|bN (v:=.int .i64 (IntKind.i64.wrap (x2 + 1))) r r r r r<|mV r r<|nI<|xL (s:=IntKind.i64.wrap (x2 + 1)) () ((hE ⟨rfl,r,r,r,trivial⟩ trivial))
   ·exact oF r<|oF r<|oF r<|oF r<|oF r<|oF r<|oF r<|pF r r r r<|pF r r r r<|nI<|xS<|Nz r<|sK<|bM<|xS<|rG<|bN (v:=.int .i64 (IntKind.i64.wrap (x2 + 1))) r r r r r<|mV r r<|nI<|xL (s:=IntKind.i64.wrap (x2 + 1)) () ((hE ⟨rfl,r,r,r,trivial⟩ trivial))
 ·refine eT<|xE<|lE<|bH<|xS<|sQ<|rG<|aS r r<|nI<|xS<|rT<|Mg (b:=true) r ?_ r r ?_ r
  all_goals first|(simp;done)|(simp;omega)|rfl|(simp [Me,Mc];done)

def Aht : Mm:=(.seq (.reg [P 3 (.asg (.c (.bool false)) none)] false) (.seq (.reg [M 4 0,⟨(some 5),(.call (.c (.clo 49 [])) [(T 4)]),none,[0]⟩,⟨(some 6),(.un .not (T 5)),none,[1]⟩,⟨(some 7),(.mv (T 6)),none,[2,1]⟩,⟨(some 8),(.mv (T 0)),(some ⟨7,false⟩),[3]⟩,⟨(some 9),(.len false (T 8)),(some ⟨7,false⟩),[4,3]⟩,⟨(some 10),(.bin .gtr (T 9) (C 0)),(some ⟨7,false⟩),[5,3]⟩,⟨(some 11),(.mv (T 10)),(some ⟨7,false⟩),[6,3,3]⟩,⟨(some 12),(.mv (T 0)),(some ⟨11,true⟩),[7]⟩,⟨(some 13),(.mv (T 0)),(some ⟨11,true⟩),[7]⟩,⟨(some 14),(.len false (T 13)),(some ⟨11,true⟩),[9,7]⟩,⟨(some 15),(.bin .sub (T 14) (C 1)),(some ⟨11,true⟩),[10,7]⟩,⟨(some 16),(.ixA 1 (T 12) (T 15)),(some ⟨11,true⟩),[8,11,7]⟩,⟨(some 17),(.ld 1 false (T 16)),(some ⟨11,true⟩),[12,7]⟩,⟨(some 18),(.fldA 1 (T 1)),(some ⟨11,true⟩),[7]⟩,⟨(some 19),(.ld 1 false (T 18)),(some ⟨11,true⟩),[14,7]⟩,⟨(some 20),(.len false (T 19)),(some ⟨11,true⟩),[15,7]⟩,⟨(some 21),(.bin .geq (T 17) (T 20)),(some ⟨11,true⟩),[13,16,7]⟩,⟨(some 22),(.pick (T 11) (T 21) (.c (.bool false))),(some ⟨7,false⟩),[7,17,3]⟩,⟨(some 23),(.pick (T 7) (.c (.bool true)) (T 22)),none,[3,18]⟩,⟨(some 3),(.asg (T 23) none),none,[19,7,0,1,2,3,4,5,6,7,8,9,10,11,12,13,14,15,16,17,18,19]⟩] true) .ret))
theorem Akv : (Tryz.f48.body.bind (Mo Tryz.prog Tryz.f48.ntmps)) = some Aht:=by kernel_rfl
theorem Akw : Tryz.f48.results.toList.mapM (My Tryz.prog) = some [(.t 3)]:=by kernel_rfl
def Qm (a : (List Int) × LY) : List D:=[.sl (a.1.map LS),.fptr (ME a.2) 0]
def Ql (ds : List D) : (List Int) × LY:=((uL uI) (ds.getD 0 .top),Ny (fpD (ds.getD 1 .top)))
theorem TZ (a : (List Int) × LY) : Ql (Qm a) = a:=by simp [Ql,Qm,fpD,Nt (u:=uI) (en:=LS) (fun _=>rfl)]
def UH (b : Bool) : D:=.bool b
def UG (_b : Bool) : List D:=[]
noncomputable def QY : Dw.Spec:=Ml [] .ground Qm Ql (fun a=>NT a.1 a.2) UH UG
set_option maxHeartbeats 4000000 in
theorem ZC : Mk Tryz.prog 48 QY:=by
 refine Mv (Mp (l:=[(49,Xf)]) (by simp [AdH])) Tryz.func48 (by decide) Akv Akw (np:=2) (by decide) TZ (fun _=>r) (fun _=>r) (by decide)<|?_
 rintro ⟨s1,cap2⟩
 show TrE (specs [(49,Xf)]) Aht (Mz [] .ground [(.t 3)] UH UG) ⟨[(0,.sl (s1.map LS)),(1,.fptr (.agg [.int .i64 cap2.Params,.sl (cap2.Slots.map LZ),.sl (cap2.Code.map LW)]) 0)],[],262144⟩ (NT s1 cap2)
 refine Mq<|?_
 unfold Aht NT
 refine sQ<|rG<|aS r r<|nI<|xS<|sQ<|rG<|mV r r<|bD fun r3 hr3=>cG s1 r r r Aaj r r (by simp) r hr3 r<|uN (w:=.bool (!r3)) r r r r trivial<|mV r r<|sP 7 (b:=(!r3)) r ?_ ?_
 ·refine oF r<|oF r<|oF r<|oF r<|oF r<|oF r<|oF r<|oF r<|oF r<|oF r<|oF r<|oF r<|oF r<|oF r<|oF r<|pT r r r r<|aS r r<|Mj (by kernel_rfl)<|xS<|rT<|Mg (b:=true) r ?_ r r ?_ r
  all_goals first|(simp;done)|(simp;omega)|rfl|(simp [Me,Mc];done)
 ·refine mV r r<|lS r r<|bN (v:=.bool (decide ((s1.length : Int) > 0))) r r r r r<|mV r r<|sP 11 (b:=(decide ((s1.length : Int) > 0))) r ?_ ?_
  ·refine mV r r<|mV r r<|lS r r<|bN (v:=.int .i64 (IntKind.i64.wrap ((s1.length : Int) - 1))) r r r r r<|bD fun x_x4 hx_x4=>iS (en:=LS) r r r hx_x4 r<|lF (v:=.int .i64 x_x4) r r r r<|fF r r<|lF (v:=.sl (cap2.Slots.map LZ)) r r r r<|lS r r<|bN (v:=.bool (decide (x_x4 ≥ (cap2.Slots.length : Int)))) r r r r r<|pT r r r r<|pF r r r r<|aS r r<|Mj (by kernel_rfl)<|xS<|rT<|Mg (b:=(decide (x_x4 ≥ (cap2.Slots.length : Int)))) r ?_ r r ?_ r
   all_goals first|(simp;done)|(simp;omega)|rfl|(simp [Me,Mc];done)
  ·refine oF r<|oF r<|oF r<|oF r<|oF r<|oF r<|oF r<|oF r<|oF r<|oF r<|pF r r r r<|pF r r r r<|aS r r<|Mj (by kernel_rfl)<|xS<|rT<|Mg (b:=false) r ?_ r r ?_ r
   all_goals first|(simp;done)|(simp;omega)|rfl|(simp [Me,Mc];done)

def AhJ : Mm:=(.seq (.reg [P 4 (.asg (C 0) none)] false) (.seq (.seq (.reg [M 6 0,P 7 (.len false (T 6)),P 8 (.mv (C 0))] false) (.block 0 (.loop (.seq (.reg [P 9 (.bin .lss (T 8) (T 7))] false) (.seq (.cond (T 9) .skip (.exit 0)) (.seq (.block 1 (.seq (.reg [M 10 8,P 5 (.asg (T 10) none)] false) (.seq (.reg [M 11 1,M 12 0,M 13 5,P 14 (.ixA 1 (T 12) (T 13)),P 15 (.ld 1 false (T 14)),P 16 (.call (T 11) [(T 15)])] false) (.cond (T 16) (.seq (.reg [M 17 5,P 4 (.asg (T 17) none)] false) .ret) .skip)))) (.reg [P 18 (.bin .add (T 8) (C 1)),M 8 18] false))))))) (.seq (.reg [⟨(some 4),(.asg (.c (.int .i64 (-1))) none),none,[]⟩] false) .ret)))
theorem Alb : (Tryz.f64.body.bind (Mo Tryz.prog Tryz.f64.ntmps)) = some AhJ:=by kernel_rfl
theorem Alc : Tryz.f64.results.toList.mapM (My Tryz.prog) = some [(.t 4)]:=by kernel_rfl
def NS (a : (List (List Int)) × LY) : List D:=[.sl (a.1.map (eL LS)),.clo 48 [.fptr (ME a.2) 0]]
def NR (ds : List D) : (List (List Int)) × LY:=((uL (uL uI)) (ds.getD 0 .top),Ny (fpD (KP (ds.getD 1 .top) 0)))
theorem PK (a : (List (List Int)) × LY) : NR (NS a) = a:=by simp [NR,NS,fpD,KP,Nt (u:=(uL uI)) (en:=(eL LS)) (Nt (u:=uI) (en:=LS) (fun _=>rfl))]
def PY (b : Int) : D:=.int .i64 b
def PX (_b : Int) : List D:=[]
noncomputable def Nv : Dw.Spec:=Ml [] .ground NS NR (fun a=>MS a.1 a.2) PY PX
set_option maxHeartbeats 4000000 in
theorem Ui : Mk Tryz.prog 64 Nv:=by
 refine Mv (Mp (l:=[(48,QY)]) (by simp [ZC])) Tryz.func64 (by decide) Alb Alc (np:=2) (by decide) PK (fun _=>r) (fun _=>r) (by decide)<|?_
 rintro ⟨s1,f2⟩
 show TrE (specs [(48,QY)]) AhJ (Mz [] .ground [(.t 4)] PY PX) ⟨[(0,.sl (s1.map (eL LS))),(1,.clo 48 [.fptr (.agg [.int .i64 f2.Params,.sl (f2.Slots.map LZ),.sl (f2.Code.map LW)]) 0])],[],262144⟩ (MS s1 f2)
 refine Mq<|?_
 unfold AhJ MS
 refine sQ<|rG<|aS r r<|nI<|xS<|sQ<|sQ<|rG<|mV r r<|lS r r<|mV r r<|nI<|xS<|bK<|lP (E:=fun (s : Int) (g : Unit)=>[(0,.sl (s1.map (eL LS))),(1,.clo 48 [.fptr (.agg [.int .i64 f2.Params,.sl (f2.Slots.map LZ),.sl (f2.Code.map LW)]) 0]),(7,.int .i64 (s1.length : Int)),(8,.int .i64 s)]) (O:=fun s g=>[]) (body:=fun s=>Ns s1 f2 s) (s:=0) () ((hE ⟨rfl,r,r,r,trivial⟩ trivial))<|?_
 rintro x3 ⟨⟩ nn
 try dsimp only
 unfold Ns
 refine sQ<|rG<|bN (v:=.bool (decide (x3 < (s1.length : Int)))) r r r r r<|nI<|xS<|sQ<|cD (c:=(decide (x3 < (s1.length : Int)))) r ?_ ?_
 ·refine sK<|xS<|sQ<|bK<|sQ<|rG<|mV r r<|aS r r<|nI<|xS<|sQ<|rG<|mV r r<|mV r r<|mV r r<|bD fun x_x4 hx_x4=>iS (en:=(eL LS)) r r r hx_x4 r<|lF (v:=.sl (x_x4.map LS)) r r r r<|bD fun r5 hr5=>cG (x_x4,f2) r r r TZ r r (by simp) r hr5 r<|nI<|xS<|cD (c:=r5) r ?_ ?_
  ·refine sQ<|rG<|mV r r<|aS r r<|nI<|xS<|rT<|bR<|xR<|lR<|bR<|xR<|Mg (b:=x3) r ?_ r r ?_ r
   all_goals first|(simp;done)|(simp;omega)|rfl|(simp [Me,Mc];done)
  ·exact sK<|bM<|xS<|rG<|bN (v:=.int .i64 (IntKind.i64.wrap (x3 + 1))) r r r r r<|mV r r<|nI<|xL (s:=IntKind.i64.wrap (x3 + 1)) () ((hE ⟨rfl,r,r,r,trivial⟩ trivial))
 ·refine eT<|xE<|lE<|bH<|xS<|sQ<|rG<|aS r r<|nI<|xS<|rT<|Mg (b:=(-1)) r ?_ r r ?_ r
  all_goals first|(simp;done)|(simp;omega)|rfl|(simp [Me,Mc];done)

def Ahv : Mm:=(.seq (.reg [P 4 (.asg (.c (.bool false)) none)] false) (.seq (.reg [M 5 0,M 6 1,P 7 (.call (.c (.clo 64 [])) [(T 5),(T 6)]),P 8 (.bin .geq (T 7) (C 0)),P 4 (.asg (T 8) none)] false) .ret))
theorem Akz : (Tryz.f50.body.bind (Mo Tryz.prog Tryz.f50.ntmps)) = some Ahv:=by kernel_rfl
theorem AkA : Tryz.f50.results.toList.mapM (My Tryz.prog) = some [(.t 4)]:=by kernel_rfl
def ND (a : (List (List Int)) × LY) : List D:=[.sl (a.1.map (eL LS)),.clo 48 [.fptr (ME a.2) 0]]
def NC (ds : List D) : (List (List Int)) × LY:=((uL (uL uI)) (ds.getD 0 .top),Ny (fpD (KP (ds.getD 1 .top) 0)))
theorem Ph (a : (List (List Int)) × LY) : NC (ND a) = a:=by simp [NC,ND,fpD,KP,Nt (u:=(uL uI)) (en:=(eL LS)) (Nt (u:=uI) (en:=LS) (fun _=>rfl))]
def Pp (b : Bool) : D:=.bool b
def Po (_b : Bool) : List D:=[]
noncomputable def Ng : Dw.Spec:=Ml [] .ground ND NC (fun a=>MU a.1 a.2) Pp Po
set_option maxHeartbeats 4000000 in
theorem SR : Mk Tryz.prog 50 Ng:=by
 refine Mv (Mp (l:=[(200768,Nv)]) (by simp [Ui])) Tryz.func50 (by decide) Akz AkA (np:=2) (by decide) Ph (fun _=>r) (fun _=>r) (by decide)<|?_
 rintro ⟨s1,f2⟩
 show TrE (specs [(200768,Nv)]) Ahv (Mz [] .ground [(.t 4)] Pp Po) ⟨[(0,.sl (s1.map (eL LS))),(1,.clo 48 [.fptr (.agg [.int .i64 f2.Params,.sl (f2.Slots.map LZ),.sl (f2.Code.map LW)]) 0])],[],262144⟩ (MU s1 f2)
 refine Mq<|?_
 unfold Ahv MU
 refine sQ<|rG<|aS rfl rfl<|nI<|xS<|sQ<|rG<|mV rfl rfl<|mV rfl rfl<|bD fun r3 hr3=>cG (s1,f2) rfl rfl (show _ = some Nv from by kernel_rfl) PK rfl rfl (by simp) r hr3 r<|bN (v:=.bool (decide (r3 ≥ 0))) r r r r r<|aS r r<|nI<|xS<|rT<|Mg (b:=(decide (r3 ≥ 0))) r ?_ r r ?_ r
 all_goals first|(simp;done)|(simp;omega)|rfl|(simp [Me,Mc];done)

def Ahf : Mm:=(.seq (.reg [P 2 (.box (T 0) 3 33),P 3 (.box (T 1) 1 37),P 4 (.asg (.c (.bool false)) none)] false) (.seq (.reg [P 6 (.mkf 48 [(T 2)]),P 5 (.asg (T 6) none)] false) (.seq (.reg [P 7 (.fldA 0 (T 3)),P 8 (.ld 1 false (T 7)),P 9 (.len false (T 8)),P 10 (.fldA 2 (T 2)),P 11 (.ld 1 false (T 10)),P 12 (.len false (T 11)),P 13 (.bin .eql (T 9) (T 12)),M 14 13,⟨(some 15),(.fldA 0 (T 3)),(some ⟨14,true⟩),[]⟩,⟨(some 16),(.ld 1 false (T 15)),(some ⟨14,true⟩),[]⟩,⟨(some 17),(.mv (T 5)),(some ⟨14,true⟩),[]⟩,⟨(some 18),(.call (.c (.clo 50 [])) [(T 16),(T 17)]),(some ⟨14,true⟩),[]⟩,⟨(some 19),(.un .not (T 18)),(some ⟨14,true⟩),[]⟩,P 20 (.pick (T 14) (T 19) (.c (.bool false))),P 4 (.asg (T 20) none)] false) .ret)))
theorem AjT : (Tryz.f34.body.bind (Mo Tryz.prog Tryz.f34.ntmps)) = some Ahf:=by kernel_rfl
theorem AjU : Tryz.f34.results.toList.mapM (My Tryz.prog) = some [(.t 4)]:=by kernel_rfl
def Sy (a : LY × Mf) : List D:=[ME a.1,Nf a.2]
def Sx (ds : List D) : LY × Mf:=(Ny (ds.getD 0 .top),OL (ds.getD 1 .top))
theorem Tz (a : LY × Mf) : Sx (Sy a) = a:=by simp [Sx,Sy]
def Yl (b : Bool) : D:=.bool b
def Yk (_b : Bool) : List D:=[]
noncomputable def PI : Dw.Spec:=Ml [] .ground Sy Sx (fun a=>Ox a.1 a.2) Yl Yk
set_option maxHeartbeats 4000000 in
theorem Xb : Mk Tryz.prog 34 PI:=by
 refine Mv (Mp (l:=[(200754,Ng)]) (by simp [SR])) Tryz.func34 (by decide) AjT AjU (np:=2) (by decide) Tz (fun _=>r) (fun _=>r) (by decide)<|?_
 rintro ⟨f1,l2⟩
 show TrE (specs [(200754,Ng)]) Ahf (Mz [] .ground [(.t 4)] Yl Yk) ⟨[(0,.agg [.int .i64 f1.Params,.sl (f1.Slots.map LZ),.sl (f1.Code.map LW)]),(1,.agg [.sl (l2.Out.map (eL LS))])],[],262144⟩ (Ox f1 l2)
 refine Mq<|?_
 unfold Ahf Ox
 refine sQ<|rG<|bX r r r r r<|bX r r r r r<|aS r r<|nI<|Qs (E:=[(2,.fptr (.agg [.int .i64 f1.Params,.sl (f1.Slots.map LZ),.sl (f1.Code.map LW)]) 0),(3,.optr 3 _ 0 0)]) (O:=[(3,some (_,⟨false,true,1,37,[.agg [.sl (l2.Out.map (eL LS))]]⟩))]) ((Kx (g:=2) r (by first | rfl | (simp [cells,frp,Fh,Me]; done)) (hE ⟨(by first | rfl | (simp [BM,lkO,frp,Fh,frO]; done) | (simp [BM,lkO,frp,Fh,frO]; rfl) | (simp [BM,lkO,frp,Fh,frO,nbq]; done)),(by first | rfl | (simp [BM,lkO,frp,Fh,frO]; done) | (simp [BM,lkO,frp,Fh,frO]; rfl) | (simp [BM,lkO,frp,Fh,frO,nbq]; done)),trivial⟩ ⟨(by first | rfl | (simp [BM,lkO,frp,Fh,frO]; done) | (simp [BM,lkO,frp,Fh,frO]; rfl) | (simp [BM,lkO,frp,Fh,frO,nbq]; done)),trivial⟩))) fun nn=>sQ<|rG<|mF (caps:=[.fptr (.agg [.int .i64 f1.Params,.sl (f1.Slots.map LZ),.sl (f1.Code.map LW)]) 0]) r r (by simp [FW])<|aS r r<|nI<|xS<|sQ<|rG<|fA r r<|lO (v:=.sl (l2.Out.map (eL LS))) (z:=.agg [.sl (l2.Out.map (eL LS))]) r r r r r r<|lS r r<|fF r r<|lF (v:=.sl (f1.Code.map LW)) r r r r<|lS r r<|bN (v:=.bool ((l2.Out.length : Int) == (f1.Code.length : Int))) r r r r r<|mV r r<|sP 14 (b:=((l2.Out.length : Int) == (f1.Code.length : Int))) r ?_ ?_
 ·refine fA rfl rfl<|lO (v:=.sl (l2.Out.map (eL LS))) (z:=.agg [.sl (l2.Out.map (eL LS))]) rfl rfl rfl rfl rfl rfl<|mV rfl rfl<|bD fun r3 hr3=>cG (l2.Out,f1) rfl rfl (show _ = some Ng from by kernel_rfl) Ph rfl rfl (by simp) r hr3 r<|uN (w:=.bool (!r3)) r r r r trivial<|pT r r r r<|aS r r<|nI<|xS<|rT<|Mg (b:=(!r3)) r ?_ r r ?_ r
  all_goals first|(simp;done)|(simp;omega)|rfl|(simp [Me,Mc];done)
 ·refine oF r<|oF r<|oF r<|oF r<|oF r<|pF r r r r<|aS r r<|nI<|xS<|rT<|Mg (b:=false) r ?_ r r ?_ r
  all_goals first|(simp;done)|(simp;omega)|rfl|(simp [Me,Mc];done)

def Ahx : Mm:=(.seq (.reg [P 1 (.box (T 0) 1 37),P 2 (.asg (.c .nilf) none)] false) (.seq (.reg [P 3 (.mkf 67 [(T 1)]),P 2 (.asg (T 3) none)] false) .ret))
theorem AkD : (Tryz.f52.body.bind (Mo Tryz.prog Tryz.f52.ntmps)) = some Ahx:=by kernel_rfl
theorem AkE : Tryz.f52.results.toList.mapM (My Tryz.prog) = some [(.t 2)]:=by kernel_rfl
def Ub (a : Mf) : List D:=[Nf a]
def Ua (ds : List D) : Mf:=OL (ds.getD 0 .top)
theorem Zd (a : Mf) : Ua (Ub a) = a:=by simp [Ua,Ub]
def ZE (b : Mf) : D:=.clo 67 [.fptr (Nf b) 0]
def ZD (_b : Mf) : List D:=[]
noncomputable def VC : Dw.Spec:=Ml [] .val Ub Ua (fun a=>RV a) ZE ZD
set_option maxHeartbeats 4000000 in
theorem Ade : Mk Tryz.prog 52 VC:=by
 refine Mv (Nb) Tryz.func52 (by decide) AkD AkE (np:=1) (by decide) Zd (fun _=>r) (fun _=>r) (by decide)<|?_
 intro l1
 show TrE (specs []) Ahx (Mz [] .val [(.t 2)] ZE ZD) ⟨[(0,.agg [.sl (l1.Out.map (eL LS))])],[],262144⟩ (RV l1)
 refine Mq<|?_
 unfold Ahx RV
 refine sQ<|rG<|bX r r r r r<|aS r r<|nI<|Qs (E:=[(1,.fptr (.agg [.sl (l1.Out.map (eL LS))]) 0)]) (O:=[]) ((Kx (g:=1) r (by first | rfl | (simp [cells,frp,Fh,Me]; done)) (hE ⟨(by first | rfl | (simp [BM,lkO,frp,Fh,frO]; done) | (simp [BM,lkO,frp,Fh,frO]; rfl) | (simp [BM,lkO,frp,Fh,frO,nbq]; done)),trivial⟩ trivial))) fun nn=>sQ<|rG<|mF (caps:=[.fptr (.agg [.sl (l1.Out.map (eL LS))]) 0]) r r (by simp [FW])<|aS r r<|nI<|xS<|rT<|Nl (b:=l1) r ?_ r r ?_ r
 all_goals first|(simp;done)|(simp;omega)|rfl|(simp [Me,Mc];done)

def AhS : Mm:=(.seq (.reg [P 2 (.asg (.c (.bool false)) none)] false) (.seq (.reg [M 3 0,P 4 (.bin .eql (T 3) (C 20)),M 5 4,⟨(some 6),(.mv (T 0)),(some ⟨5,false⟩),[]⟩,⟨(some 7),(.bin .eql (T 6) (C 23)),(some ⟨5,false⟩),[]⟩,P 8 (.pick (T 5) (.c (.bool true)) (T 7)),M 9 8,⟨(some 10),(.mv (T 0)),(some ⟨9,false⟩),[]⟩,⟨(some 11),(.bin .eql (T 10) (C 24)),(some ⟨9,false⟩),[]⟩,P 12 (.pick (T 9) (.c (.bool true)) (T 11)),P 2 (.asg (T 12) none)] false) .ret))
theorem Alv : (Tryz.f74.body.bind (Mo Tryz.prog Tryz.f74.ntmps)) = some AhS:=by kernel_rfl
theorem Alw : Tryz.f74.results.toList.mapM (My Tryz.prog) = some [(.t 2)]:=by kernel_rfl
def Uh (a : Int) : List D:=[.int .i64 a]
def Ug (ds : List D) : Int:=uI (ds.getD 0 .top)
theorem Zg (a : Int) : Ug (Uh a) = a:=by simp [Ug,Uh,uI]
def ZW (b : Bool) : D:=.bool b
def ZV (_b : Bool) : List D:=[]
noncomputable def VJ : Dw.Spec:=Ml [] .ground Uh Ug (fun a=>Sd a) ZW ZV
set_option maxHeartbeats 4000000 in
theorem Adf : Mk Tryz.prog 74 VJ:=by
 refine Mv (Nb) Tryz.func74 (by decide) Alv Alw (np:=1) (by decide) Zg (fun _=>r) (fun _=>r) (by decide)<|?_
 intro op1
 show TrE (specs []) AhS (Mz [] .ground [(.t 2)] ZW ZV) ⟨[(0,.int .i64 op1)],[],262144⟩ (Sd op1)
 refine Mq<|?_
 unfold AhS Sd
 refine sQ<|rG<|aS r r<|nI<|xS<|sQ<|rG<|mV r r<|bN (v:=.bool (op1 == 20)) r r r r r<|mV r r<|sP 5 (b:=(op1 == 20)) r ?_ ?_
 ·refine oF r<|oF r<|pT r r r r<|mV r r<|oF r<|oF r<|pT r r r r<|aS r r<|nI<|xS<|rT<|Mg (b:=true) r ?_ r r ?_ r
  all_goals first|(simp;done)|(simp;omega)|rfl|(simp [Me,Mc];done)
 ·refine mV r r<|bN (v:=.bool (op1 == 23)) r r r r r<|pF r r r r<|mV r r<|sP 9 (b:=(op1 == 23)) r ?_ ?_
  ·refine oF r<|oF r<|pT r r r r<|aS r r<|nI<|xS<|rT<|Mg (b:=true) r ?_ r r ?_ r
   all_goals first|(simp;done)|(simp;omega)|rfl|(simp [Me,Mc];done)
  ·refine mV r r<|bN (v:=.bool (op1 == 24)) r r r r r<|pF r r r r<|aS r r<|nI<|xS<|rT<|Mg (b:=(op1 == 24)) r ?_ r r ?_ r
   all_goals first|(simp;done)|(simp;omega)|rfl|(simp [Me,Mc];done)

def AhK : Mm:=(.seq (.reg [P 2 (.box (T 0) 3 33),⟨(some 4),(.asg (.c .nils) (some ⟨1,3⟩)),none,[]⟩] false) (.seq (.seq (.reg [M 7 1,P 8 (.bin .lss (T 7) (C 0)),M 9 8,⟨(some 10),(.mv (T 1)),(some ⟨9,false⟩),[]⟩,⟨(some 11),(.fldA 2 (T 2)),(some ⟨9,false⟩),[]⟩,⟨(some 12),(.ld 1 false (T 11)),(some ⟨9,false⟩),[]⟩,⟨(some 13),(.len false (T 12)),(some ⟨9,false⟩),[]⟩,⟨(some 14),(.bin .geq (T 10) (T 13)),(some ⟨9,false⟩),[]⟩,P 15 (.pick (T 9) (.c (.bool true)) (T 14))] false) (.cond (T 15) (.seq (.reg [⟨(some 4),(.asg (.c .nils) (some ⟨1,3⟩)),none,[]⟩] false) .ret) .skip)) (.seq (.reg [⟨(some 5),(.asg (.c .nils) (some ⟨1,3⟩)),none,[]⟩] false) (.seq (.reg [P 16 (.fldA 2 (T 2)),P 17 (.ld 1 false (T 16)),M 18 1,P 19 (.ixA 5 (T 17) (T 18)),P 20 (.ld 5 true (T 19)),P 6 (.new (.agg [(.int .i64 0),(.int .i64 0),(.int .i64 0),(.int .i64 0),(.int .u64 0)]) 5 54),⟨none,(.st 5 (T 6) (T 20)),none,[]⟩] false) (.seq (.seq (.reg [P 21 (.fldA 0 (T 6)),P 22 (.ld 1 false (T 21)),P 23 (.call (.c (.clo 74 [])) [(T 22)]),P 24 (.un .not (T 23))] false) (.cond (T 24) (.reg [M 25 5,M 26 1,P 27 (.bin .add (T 26) (C 1)),⟨(some 28),(.bldS 1 3 (.int .i64 0) 1 [⟨0,(T 27)⟩]),none,[]⟩,P 29 (.app 1 3 8 (T 25) (T 28)),⟨(some 5),(.asg (T 29) (some ⟨1,3⟩)),none,[]⟩] false) .skip)) (.seq (.seq (.reg [P 30 (.fldA 0 (T 6)),P 31 (.ld 1 false (T 30))] false) (.block 0 (.seq (.reg [P 33 (.bin .eql (T 31) (C 20)),P 32 (.asg (T 33) none)] false) (.cond (T 32) (.reg [M 34 5,P 35 (.fldA 1 (T 6)),P 36 (.ld 1 false (T 35)),⟨(some 37),(.bldS 1 3 (.int .i64 0) 1 [⟨0,(T 36)⟩]),none,[]⟩,P 38 (.app 1 3 8 (T 34) (T 37)),⟨(some 5),(.asg (T 38) (some ⟨1,3⟩)),none,[]⟩] false) (.seq (.reg [P 40 (.bin .eql (T 31) (C 21)),P 39 (.asg (T 40) none)] false) (.cond (T 39) (.reg [M 41 5,P 42 (.fldA 2 (T 6)),P 43 (.ld 1 false (T 42)),⟨(some 44),(.bldS 1 3 (.int .i64 0) 1 [⟨0,(T 43)⟩]),none,[]⟩,P 45 (.app 1 3 8 (T 41) (T 44)),⟨(some 5),(.asg (T 45) (some ⟨1,3⟩)),none,[]⟩] false) .skip)))))) (.seq (.reg [M 46 5,P 47 (.call (.c (.clo 75 [])) [(T 46)])] false) (.seq (.reg [M 48 5,P 49 (.call (.c (.clo 76 [])) [(T 48)]),⟨(some 4),(.asg (T 49) (some ⟨1,3⟩)),none,[]⟩] false) .ret))))))))
theorem Ald : (Tryz.f65.body.bind (Mo Tryz.prog Tryz.f65.ntmps)) = some AhK:=by kernel_rfl
theorem Ale : Tryz.f65.results.toList.mapM (My Tryz.prog) = some [(.t 4)]:=by kernel_rfl
def Yt (a : LY × Int) : List D:=[ME a.1,.int .i64 a.2]
def Ys (ds : List D) : LY × Int:=(Ny (ds.getD 0 .top),uI (ds.getD 1 .top))
theorem Acr (a : LY × Int) : Ys (Yt a) = a:=by simp [Ys,Yt,uI]
def Ado (b : (List Int)) : D:=.sl (b.map LS)
def Adn (_b : (List Int)) : List D:=[]
noncomputable def AaL : Dw.Spec:=Ml [] (.row 1 3) Yt Ys (fun a=>VW a.1 a.2) Ado Adn
set_option maxHeartbeats 4000000 in
theorem Afe : Mk Tryz.prog 65 AaL:=by
 refine Mv (Mp (l:=[(74,VJ),(75,Se),(76,QE)]) (by simp [Adf,AaO,Zj])) Tryz.func65 (by decide) Ald Ale (np:=2) (by decide) Acr (fun _=>r) (fun _=>r) (by decide)<|?_
 rintro ⟨f1,k2⟩
 show TrE (specs [(74,VJ),(75,Se),(76,QE)]) AhK (Mz [] (.row 1 3) [(.t 4)] Ado Adn) ⟨[(0,.agg [.int .i64 f1.Params,.sl (f1.Slots.map LZ),.sl (f1.Code.map LW)]),(1,.int .i64 k2)],[],262144⟩ (VW f1 k2)
 refine Mq<|?_
 unfold AhK VW
 refine sQ<|rG<|bX r r r r r<|aN (α:=Int) r LS r<|nI<|xS<|sC (E:=fun (s : Unit) (g : Nat)=>[(1,.int .i64 k2),(2,.optr 2 g 0 0)]) (O:=fun s g=>[(2,some (g,⟨false,true,3,33,[.agg [.int .i64 f1.Params,.sl (f1.Slots.map LZ),.sl (f1.Code.map LW)]]⟩))]) (j:=fun s=>Wo f1 k2) ?_ ?_
 ·refine sQ<|rG<|mV r r<|bN (v:=.bool (decide (k2 < 0))) r r r r r<|mV r r<|sP 9 (b:=(decide (k2 < 0))) r ?_ ?_
  ·refine oF r<|oF r<|oF r<|oF r<|oF r<|pT r r r r<|nI<|xS<|MW r<|sQ<|rG<|aN (α:=Int) r LS r<|nI<|xS<|rT<|zR<|MC (b:=([] : List Int)) r ?_ r r ?_ r ?_ (congrArg D.sl (Md _ _ r)) r
   all_goals first|(simp;done)|(simp;omega)|rfl|(simp [Me,Mc];done)
  ·refine mV r r<|fA r r<|lO (v:=.sl (f1.Code.map LW)) (z:=.agg [.int .i64 f1.Params,.sl (f1.Slots.map LZ),.sl (f1.Code.map LW)]) r r r r r r<|lS r r<|bN (v:=.bool (decide (k2 ≥ (f1.Code.length : Int)))) r r r r r<|pF r r r r<|nI<|xS<|cD (c:=(decide (k2 ≥ (f1.Code.length : Int)))) r ?_ ?_
   ·refine sQ<|rG<|aN (α:=Int) r LS r<|nI<|xS<|rT<|zR<|MC (b:=([] : List Int)) r ?_ r r ?_ r ?_ (congrArg D.sl (Md _ _ r)) r
    all_goals first|(simp;done)|(simp;omega)|rfl|(simp [Me,Mc];done)
   ·exact sK<|xC (s:=()) _ ((hE ⟨rfl,r,trivial⟩ ⟨rfl,trivial⟩))
 ·rintro ⟨⟩ v2x1 nn
  try dsimp only
  unfold Wo
  refine sQ<|rG<|aN (α:=Int) r LS r<|nI<|xS<|sQ<|rG<|fA r r<|lO (v:=.sl (f1.Code.map LW)) (z:=.agg [.int .i64 f1.Params,.sl (f1.Slots.map LZ),.sl (f1.Code.map LW)]) r r r r r r<|mV r r<|bD fun x_x3 hx_x3=>iS (en:=LW) r r r hx_x3 r<|lF (v:=.agg [.int .i64 x_x3.Op,.int .i64 x_x3.A,.int .i64 x_x3.B,.int .i64 x_x3.C,.int .u64 x_x3.Imm]) r r r r<|nW r<|sV (z':=.agg [.int .i64 x_x3.Op,.int .i64 x_x3.A,.int .i64 x_x3.B,.int .i64 x_x3.C,.int .u64 x_x3.Imm]) r r r r r r r r r<|nI<|xS<|sC (E:=fun (s : (List Int)) (g : Nat × Nat)=>[(5,.osl 5 g.1 0 s.length),(6,.optr 6 g.2 0 0)]) (O:=fun s g=>[(5,some (g.1,⟨false,false,1,3,s.map LS⟩)),(6,some (g.2,⟨false,true,5,54,[.agg [.int .i64 x_x3.Op,.int .i64 x_x3.A,.int .i64 x_x3.B,.int .i64 x_x3.C,.int .u64 x_x3.Imm]]⟩))]) (j:=fun s=>TT x_x3 s) ?_ ?_
  ·refine sQ<|rG<|fA r r<|lO (v:=.int .i64 x_x3.Op) (z:=.agg [.int .i64 x_x3.Op,.int .i64 x_x3.A,.int .i64 x_x3.B,.int .i64 x_x3.C,.int .u64 x_x3.Imm]) r r r r r r<|bD fun r5 hr5=>cG x_x3.Op r r r Zg r r (by simp) r hr5 r<|uN (w:=.bool (!r5)) r r r r trivial<|nI<|xS<|cD (c:=(!r5)) r ?_ ?_
   ·exact rG<|mV r r<|mV r r<|bN (v:=.int .i64 (IntKind.i64.wrap (k2 + 1))) r r r r r<|bS ([IntKind.i64.wrap (k2 + 1)] : List Int) LS r r r (by simp) r r r<|cK fun hq=>aP (([] : List Int)) (([IntKind.i64.wrap (k2 + 1)] : List Int)) LS r r r r r r r (by simp) (Mu _ _ r) r r (by simp) (Md _ _ r) (fun _=>r) r hq<|aO (l:=([] : List Int) ++ ([IntKind.i64.wrap (k2 + 1)] : List Int)) (en:=LS) r r r r<|nI<|xC (s:=([] : List Int) ++ ([IntKind.i64.wrap (k2 + 1)] : List Int)) (_,_) ((hE ⟨rfl,r,trivial⟩ ⟨rfl,r,trivial⟩))
   ·exact sK<|xC (s:=([] : List Int)) (_,_) ((hE ⟨rfl,r,trivial⟩ ⟨rfl,r,trivial⟩))
  ·rintro l4 ⟨v5x2,v6x2⟩ nn
   try dsimp only
   unfold TT
   refine sQ<|sQ<|rG<|fA r r<|lO (v:=.int .i64 x_x3.Op) (z:=.agg [.int .i64 x_x3.Op,.int .i64 x_x3.A,.int .i64 x_x3.B,.int .i64 x_x3.C,.int .u64 x_x3.Imm]) r r r r r r<|nI<|xS<|bK<|sQ<|rG<|bN (v:=.bool (x_x3.Op == 20)) r r r r r<|aS r r<|nI<|xS<|cD (c:=(x_x3.Op == 20)) r ?_ ?_
   ·refine rG<|mV r r<|fA r r<|lO (v:=.int .i64 x_x3.A) (z:=.agg [.int .i64 x_x3.Op,.int .i64 x_x3.A,.int .i64 x_x3.B,.int .i64 x_x3.C,.int .u64 x_x3.Imm]) r r r r r r<|bS ([x_x3.A] : List Int) LS r r r (by simp) r r r<|cK fun hq=>aP (l4) (([x_x3.A] : List Int)) LS r r r r r r r (by simp) (Mu _ _ r) r r (by simp) (Md _ _ r) (fun _=>r) r hq<|aO (l:=l4 ++ ([x_x3.A] : List Int)) (en:=LS) r r r r<|nI<|bM<|xS<|sQ<|rG<|mV r r<|cK fun hq=>Aby (l:=l4 ++ ([x_x3.A] : List Int)) (l':=NL (l4 ++ ([x_x3.A] : List Int))) r r r r r r r hq r<|nI<|xS<|sQ<|rG<|mV r r<|cK fun hq=>ZY (l:=NL (l4 ++ ([x_x3.A] : List Int))) (l':=Lib.compact (NL (l4 ++ ([x_x3.A] : List Int)))) r r r r r (by simp) r hq (Xj _) r<|aO (l:=Lib.compact (NL (l4 ++ ([x_x3.A] : List Int)))) (en:=LS) r r r r<|nI<|xS<|rT<|MC (b:=Lib.compact (NL (l4 ++ ([x_x3.A] : List Int)))) r ?_ r r ?_ r ?_ (congrArg D.sl (Md _ _ r)) r
    all_goals first|(simp;done)|(simp;omega)|rfl|(simp [Me,Mc];done)
   ·refine sQ<|rG<|bN (v:=.bool (x_x3.Op == 21)) r r r r r<|aS r r<|nI<|xS<|cD (c:=(x_x3.Op == 21)) r ?_ ?_
    ·refine rG<|mV r r<|fA r r<|lO (v:=.int .i64 x_x3.B) (z:=.agg [.int .i64 x_x3.Op,.int .i64 x_x3.A,.int .i64 x_x3.B,.int .i64 x_x3.C,.int .u64 x_x3.Imm]) r r r r r r<|bS ([x_x3.B] : List Int) LS r r r (by simp) r r r<|cK fun hq=>aP (l4) (([x_x3.B] : List Int)) LS r r r r r r r (by simp) (Mu _ _ r) r r (by simp) (Md _ _ r) (fun _=>r) r hq<|aO (l:=l4 ++ ([x_x3.B] : List Int)) (en:=LS) r r r r<|nI<|bM<|xS<|sQ<|rG<|mV r r<|cK fun hq=>Aby (l:=l4 ++ ([x_x3.B] : List Int)) (l':=NL (l4 ++ ([x_x3.B] : List Int))) r r r r r r r hq r<|nI<|xS<|sQ<|rG<|mV r r<|cK fun hq=>ZY (l:=NL (l4 ++ ([x_x3.B] : List Int))) (l':=Lib.compact (NL (l4 ++ ([x_x3.B] : List Int)))) r r r r r (by simp) r hq (Xj _) r<|aO (l:=Lib.compact (NL (l4 ++ ([x_x3.B] : List Int)))) (en:=LS) r r r r<|nI<|xS<|rT<|MC (b:=Lib.compact (NL (l4 ++ ([x_x3.B] : List Int)))) r ?_ r r ?_ r ?_ (congrArg D.sl (Md _ _ r)) r
     all_goals first|(simp;done)|(simp;omega)|rfl|(simp [Me,Mc];done)
    ·refine sK<|bM<|xS<|sQ<|rG<|mV r r<|cK fun hq=>Aby (l:=l4) (l':=NL l4) r r r r r r r hq r<|nI<|xS<|sQ<|rG<|mV r r<|cK fun hq=>ZY (l:=NL l4) (l':=Lib.compact (NL l4)) r r r r r (by simp) r hq (Xj _) r<|aO (l:=Lib.compact (NL l4)) (en:=LS) r r r r<|nI<|xS<|rT<|MC (b:=Lib.compact (NL l4)) r ?_ r r ?_ r ?_ (congrArg D.sl (Md _ _ r)) r
     all_goals first|(simp;done)|(simp;omega)|rfl|(simp [Me,Mc];done)

def AhM : Mm:=(.seq (.reg [⟨(some 3),(.asg (.c .nils) (some ⟨1,3⟩)),none,[]⟩] false) (.seq (.reg [P 4 (.fldA 0 (T 1)),P 5 (.ld 1 false (T 4)),M 6 0,P 7 (.ixA 1 (T 5) (T 6)),P 8 (.ld 1 false (T 7)),⟨(some 3),(.asg (T 8) (some ⟨1,3⟩)),none,[]⟩] false) .ret))
theorem Alh : (Tryz.f67.body.bind (Mo Tryz.prog Tryz.f67.ntmps)) = some AhM:=by kernel_rfl
theorem Ali : Tryz.f67.results.toList.mapM (My Tryz.prog) = some [(.t 3)]:=by kernel_rfl
def Ra (a : Int × Mf) : List D:=[.int .i64 a.1,.fptr (Nf a.2) 0]
def QZ (ds : List D) : Int × Mf:=(uI (ds.getD 0 .top),OL (fpD (ds.getD 1 .top)))
theorem Vh (a : Int × Mf) : QZ (Ra a) = a:=by simp [QZ,Ra,uI,fpD]
def VY (b : (List Int)) : D:=.sl (b.map LS)
def VX (_b : (List Int)) : List D:=[]
noncomputable def RW : Dw.Spec:=Ml [] .val Ra QZ (fun a=>Pn a.1 a.2) VY VX
set_option maxHeartbeats 4000000 in
theorem AaM : Mk Tryz.prog 67 RW:=by
 refine Mv (Nb) Tryz.func67 (by decide) Alh Ali (np:=2) (by decide) Vh (fun _=>r) (fun _=>r) (by decide)<|?_
 rintro ⟨j1,cap2⟩
 show TrE (specs []) AhM (Mz [] .val [(.t 3)] VY VX) ⟨[(0,.int .i64 j1),(1,.fptr (.agg [.sl (cap2.Out.map (eL LS))]) 0)],[],262144⟩ (Pn j1 cap2)
 refine Mq<|?_
 unfold AhM Pn
 refine sQ<|rG<|aN (α:=Int) r LS r<|nI<|xS<|sQ<|rG<|fF r r<|lF (v:=.sl (cap2.Out.map (eL LS))) r r r r<|mV r r<|bD fun x_x3 hx_x3=>iS (en:=(eL LS)) r r r hx_x3 r<|lF (v:=.sl (x_x3.map LS)) r r r r<|aL r r<|nI<|xS<|rT<|Nl (b:=x_x3) r ?_ r r ?_ r
 all_goals first|(simp;done)|(simp;omega)|rfl|(simp [Me,Mc];done)

def AhB : Mm:=(.seq (.reg [P 1 (.box (T 0) 5 54),P 2 (.asg (C 0) none),P 3 (.asg (.c (.bool false)) none)] false) (.seq (.seq (.reg [P 4 (.fldA 0 (T 1)),P 5 (.ld 1 false (T 4))] false) (.block 0 (.seq (.seq (.reg [P 7 (.bin .eql (T 5) (C 16)),P 6 (.asg (T 7) none)] false) (.cond (T 6) .skip (.reg [P 8 (.bin .eql (T 5) (C 17)),P 6 (.asg (T 8) none)] false))) (.cond (T 6) (.seq (.reg [P 9 (.fldA 1 (T 1)),P 10 (.ld 1 false (T 9)),P 2 (.asg (T 10) none),P 3 (.asg (.c (.bool true)) none)] false) .ret) .skip)))) (.seq (.reg [P 2 (.asg (C 0) none),P 3 (.asg (.c (.bool false)) none)] false) .ret)))
theorem AkL : (Tryz.f56.body.bind (Mo Tryz.prog Tryz.f56.ntmps)) = some AhB:=by kernel_rfl
theorem AkM : Tryz.f56.results.toList.mapM (My Tryz.prog) = some [(.t 2),(.t 3)]:=by kernel_rfl
def TR (a : LU) : List D:=[LW a]
def TQ (ds : List D) : LU:=SS (ds.getD 0 .top)
theorem RL (a : LU) : TQ (TR a) = a:=by simp [TQ,TR]
def ZB (b : Int × Bool) : D:=.tup [.int .i64 b.1,.bool b.2]
def ZA (_b : Int × Bool) : List D:=[]
noncomputable def Ow : Dw.Spec:=Ml [] .ground TR TQ (fun a=>OG a) ZB ZA
set_option maxHeartbeats 4000000 in
theorem UQ : Mk Tryz.prog 56 Ow:=by
 refine Mv (Nb) Tryz.func56 (by decide) AkL AkM (np:=1) (by decide) RL (fun _=>r) (fun _=>r) (by decide)<|?_
 intro x1
 show TrE (specs []) AhB (Mz [] .ground [(.t 2),(.t 3)] ZB ZA) ⟨[(0,.agg [.int .i64 x1.Op,.int .i64 x1.A,.int .i64 x1.B,.int .i64 x1.C,.int .u64 x1.Imm])],[],262144⟩ (OG x1)
 refine Mq<|?_
 unfold AhB OG
 refine sQ<|rG<|bX r r r r r<|aS r r<|aS r r<|nI<|xS<|sQ<|sQ<|rG<|fA r r<|lO (v:=.int .i64 x1.Op) (z:=.agg [.int .i64 x1.Op,.int .i64 x1.A,.int .i64 x1.B,.int .i64 x1.C,.int .u64 x1.Imm]) r r r r r r<|nI<|xS<|bK<|sQ<|sQ<|rG<|bN (v:=.bool (x1.Op == 16)) r r r r r<|aS r r<|nI<|xS<|cD (c:=(x1.Op == 16)) r ?_ ?_
 ·refine sK<|xS<|cD (c:=(x1.Op == 16)) r ?_ ?_
  ·refine sQ<|rG<|fA r r<|lO (v:=.int .i64 x1.A) (z:=.agg [.int .i64 x1.Op,.int .i64 x1.A,.int .i64 x1.B,.int .i64 x1.C,.int .u64 x1.Imm]) r r r r r r<|aS r r<|aS r r<|nI<|xS<|rT<|bR<|xR<|MF (b:=(x1.A,true)) r ?_ r r ?_ r (by decide)
   all_goals first|(simp;done)|(simp;omega)|rfl|(simp [Me,Mc];done)
  ·refine sK<|bM<|xS<|sQ<|rG<|aS r r<|aS r r<|nI<|xS<|rT<|MF (b:=(0,false)) r ?_ r r ?_ r (by decide)
   all_goals first|(simp;done)|(simp;omega)|rfl|(simp [Me,Mc];done)
 ·refine rG<|bN (v:=.bool (x1.Op == 17)) r r r r r<|aS r r<|nI<|xS<|cD (c:=(x1.Op == 17)) r ?_ ?_
  ·refine sQ<|rG<|fA r r<|lO (v:=.int .i64 x1.A) (z:=.agg [.int .i64 x1.Op,.int .i64 x1.A,.int .i64 x1.B,.int .i64 x1.C,.int .u64 x1.Imm]) r r r r r r<|aS r r<|aS r r<|nI<|xS<|rT<|bR<|xR<|MF (b:=(x1.A,true)) r ?_ r r ?_ r (by decide)
   all_goals first|(simp;done)|(simp;omega)|rfl|(simp [Me,Mc];done)
  ·refine sK<|bM<|xS<|sQ<|rG<|aS r r<|aS r r<|nI<|xS<|rT<|MF (b:=(0,false)) r ?_ r r ?_ r (by decide)
   all_goals first|(simp;done)|(simp;omega)|rfl|(simp [Me,Mc];done)

def AhW : Mm:=(.seq (.reg [M 7 1,P 8 (.cvt .u64 (T 7)),P 9 (.bin .rem (T 8) (.c (.int .u64 64))),P 10 (.bin .shl (.c (.int .u64 1)) (T 9)),P 6 (.asg (T 10) none)] false) (.block 0 (.seq (.reg [M 22 1,P 23 (.call (.c (.clo 63 [])) [(T 22)]),P 24 (.un .not (T 23)),P 21 (.asg (T 24) none)] false) (.cond (T 21) .skip (.seq (.reg [M 26 2,P 25 (.asg (T 26) none)] false) (.cond (T 25) (.reg [M 27 0,M 28 1,⟨(some 29),(.bin .quo (T 28) (C 64)),none,[1]⟩,⟨(some 30),(.nilck (T 27)),none,[0]⟩,⟨(some 31),(.ixP 1 8 (T 30) (T 29)),none,[3,2]⟩,⟨(some 32),(.ld 1 false (T 31)),none,[4]⟩,M 33 6,⟨(some 34),(.bin .or (T 32) (T 33)),none,[5,6]⟩,⟨(some 35),(.nilck (T 27)),none,[0]⟩,⟨(some 36),(.ixP 1 8 (T 35) (T 29)),none,[8,2,0,1,2,3,4,5,6,7]⟩,⟨none,(.st 1 (T 36) (T 34)),none,[9,7,0,1,2,3,4,5,6,7]⟩] true) (.reg [M 11 0,M 12 1,⟨(some 13),(.bin .quo (T 12) (C 64)),none,[1]⟩,⟨(some 14),(.nilck (T 11)),none,[0]⟩,⟨(some 15),(.ixP 1 8 (T 14) (T 13)),none,[3,2]⟩,⟨(some 16),(.ld 1 false (T 15)),none,[4]⟩,M 17 6,⟨(some 18),(.bin .andNot (T 16) (T 17)),none,[5,6]⟩,⟨(some 19),(.nilck (T 11)),none,[0]⟩,⟨(some 20),(.ixP 1 8 (T 19) (T 13)),none,[8,2,0,1,2,3,4,5,6,7]⟩,⟨none,(.st 1 (T 20) (T 18)),none,[9,7,0,1,2,3,4,5,6,7]⟩] true)))))))
theorem AlD : (Tryz.f80.body.bind (Mo Tryz.prog Tryz.f80.ntmps)) = some AhW:=by kernel_rfl
theorem AlE : Tryz.f80.results.toList.mapM (My Tryz.prog) = some []:=by kernel_rfl
def Ru (a : LX × Int × Bool) : List D:=[MG a.1,.int .i64 a.2.1,.bool a.2.2]
def Rt (ds : List D) : LX × Int × Bool:=(Oa (ds.getD 0 .top),uI (ds.getD 1 .top),uBo (ds.getD 2 .top))
theorem RP (a : LX × Int × Bool) : Rt (Ru a) = a:=by simp [Rt,Ru,uI,uBo]
def Wf (b : LX) : D:=.tup []
def We (b : LX) : List D:=[MG b]
noncomputable def OU : Dw.Spec:=Ml [(0,(8,107))] .val Ru Rt (fun a=>NX a.1 a.2.1 a.2.2) Wf We
set_option maxHeartbeats 4000000 in
theorem VR : Mk Tryz.prog 80 OU:=by
 refine Mv (Mp (l:=[(63,Pm)]) (by simp [Wi])) Tryz.func80 (by decide) AlD AlE (np:=3) (by decide) RP (fun _=>r) (fun _=>r) (by decide)<|?_
 rintro ⟨s1,n2,in3⟩
 show TrE (specs [(63,Pm)]) AhW (Mz [(0,(8,107))] .val [] Wf We) ⟨[(0,.optr 8192 0 0 0),(1,.int .i64 n2),(2,.bool in3)],[(8192,some (0,⟨false,true,8,107,[.agg [.int .u64 s1.a0,.int .u64 s1.a1,.int .u64 s1.a2,.int .u64 s1.a3,.int .u64 s1.a4,.int .u64 s1.a5,.int .u64 s1.a6,.int .u64 s1.a7]]⟩))],262144⟩ (NX s1 n2 in3)
 refine Mq<|?_
 unfold AhW NX
 refine sQ<|rG<|mV r r<|cT r r<|bN (v:=.int .u64 ((IntKind.u64.wrap (n2)).tmod 64)) r r r r ⟨rfl,(by decide)⟩<|cK fun hq=>bN (v:=.int .u64 (IntKind.u64.wrap (1 * 2 ^ (Nat.min ((IntKind.u64.wrap (n2)).tmod 64).toNat IntKind.u64.bits)))) r r r r hq<|aS r r<|nI<|xS<|bK<|sQ<|rG<|mV r r<|bD fun r4 hr4=>cG n2 r r r So r r (by simp) r hr4 r<|uN (w:=.bool (!r4)) r r r r trivial<|aS r r<|nI<|xS<|cD (c:=(!r4)) r ?_ ?_
 ·refine sK<|bM<|Te (b:=s1) r ?_ r r ?_ r (by decide)
  all_goals first|(simp;done)|(simp;omega)|rfl|(simp [Me,Mc];done)
 ·refine sQ<|rG<|mV r r<|aS r r<|nI<|xS<|cD (c:=in3) r ?_ ?_
  ·refine rG<|mV r r<|mV r r<|bN (v:=.int .i64 (IntKind.i64.wrap (n2.tdiv 64))) r r r r ⟨rfl,(by decide)⟩<|nC r r r<|cK fun hq=>Qz r r r hq<|bD fun s_e5 hs_e5=>SL (q:=s_e5) (l:=s1.toList) (en:=VB) (j:=(IntKind.i64.wrap (n2.tdiv 64)).toNat) (by simp) r r r hs_e5 r (fun _=>r)<|mV r r<|bN (v:=.int .u64 (IntKind.u64.wrap ((BitVec.ofInt IntKind.u64.bits s_e5 ||| BitVec.ofInt IntKind.u64.bits (IntKind.u64.wrap (1 * 2 ^ (Nat.min ((IntKind.u64.wrap (n2)).tmod 64).toNat IntKind.u64.bits)))).toNat))) r r r r r<|nC r r r<|cK fun hq=>Qz r r r hq<|bD fun s_o6 hs_o6=>AaF (q:=s_o6) (q':=IntKind.u64.wrap ((BitVec.ofInt IntKind.u64.bits s_e5 ||| BitVec.ofInt IntKind.u64.bits (IntKind.u64.wrap (1 * 2 ^ (Nat.min ((IntKind.u64.wrap (n2)).tmod 64).toNat IntKind.u64.bits)))).toNat)) (l:=s1.toList) (en:=VB) (j:=(IntKind.i64.wrap (n2.tdiv 64)).toNat) (z':=.agg [.int .u64 ((s1.set ((IntKind.i64.wrap (n2.tdiv 64)).toNat) (IntKind.u64.wrap ((BitVec.ofInt IntKind.u64.bits s_e5 ||| BitVec.ofInt IntKind.u64.bits (IntKind.u64.wrap (1 * 2 ^ (Nat.min ((IntKind.u64.wrap (n2)).tmod 64).toNat IntKind.u64.bits)))).toNat))).a0),.int .u64 ((s1.set ((IntKind.i64.wrap (n2.tdiv 64)).toNat) (IntKind.u64.wrap ((BitVec.ofInt IntKind.u64.bits s_e5 ||| BitVec.ofInt IntKind.u64.bits (IntKind.u64.wrap (1 * 2 ^ (Nat.min ((IntKind.u64.wrap (n2)).tmod 64).toNat IntKind.u64.bits)))).toNat))).a1),.int .u64 ((s1.set ((IntKind.i64.wrap (n2.tdiv 64)).toNat) (IntKind.u64.wrap ((BitVec.ofInt IntKind.u64.bits s_e5 ||| BitVec.ofInt IntKind.u64.bits (IntKind.u64.wrap (1 * 2 ^ (Nat.min ((IntKind.u64.wrap (n2)).tmod 64).toNat IntKind.u64.bits)))).toNat))).a2),.int .u64 ((s1.set ((IntKind.i64.wrap (n2.tdiv 64)).toNat) (IntKind.u64.wrap ((BitVec.ofInt IntKind.u64.bits s_e5 ||| BitVec.ofInt IntKind.u64.bits (IntKind.u64.wrap (1 * 2 ^ (Nat.min ((IntKind.u64.wrap (n2)).tmod 64).toNat IntKind.u64.bits)))).toNat))).a3),.int .u64 ((s1.set ((IntKind.i64.wrap (n2.tdiv 64)).toNat) (IntKind.u64.wrap ((BitVec.ofInt IntKind.u64.bits s_e5 ||| BitVec.ofInt IntKind.u64.bits (IntKind.u64.wrap (1 * 2 ^ (Nat.min ((IntKind.u64.wrap (n2)).tmod 64).toNat IntKind.u64.bits)))).toNat))).a4),.int .u64 ((s1.set ((IntKind.i64.wrap (n2.tdiv 64)).toNat) (IntKind.u64.wrap ((BitVec.ofInt IntKind.u64.bits s_e5 ||| BitVec.ofInt IntKind.u64.bits (IntKind.u64.wrap (1 * 2 ^ (Nat.min ((IntKind.u64.wrap (n2)).tmod 64).toNat IntKind.u64.bits)))).toNat))).a5),.int .u64 ((s1.set ((IntKind.i64.wrap (n2.tdiv 64)).toNat) (IntKind.u64.wrap ((BitVec.ofInt IntKind.u64.bits s_e5 ||| BitVec.ofInt IntKind.u64.bits (IntKind.u64.wrap (1 * 2 ^ (Nat.min ((IntKind.u64.wrap (n2)).tmod 64).toNat IntKind.u64.bits)))).toNat))).a6),.int .u64 ((s1.set ((IntKind.i64.wrap (n2.tdiv 64)).toNat) (IntKind.u64.wrap ((BitVec.ofInt IntKind.u64.bits s_e5 ||| BitVec.ofInt IntKind.u64.bits (IntKind.u64.wrap (1 * 2 ^ (Nat.min ((IntKind.u64.wrap (n2)).tmod 64).toNat IntKind.u64.bits)))).toNat))).a7)]) (by simp) r r r r r hs_o6 r r (congrArg (fun l=>D.agg (l.map VB)) (Oe s1 ((IntKind.i64.wrap (n2.tdiv 64)).toNat) (IntKind.u64.wrap ((BitVec.ofInt IntKind.u64.bits s_e5 ||| BitVec.ofInt IntKind.u64.bits (IntKind.u64.wrap (1 * 2 ^ (Nat.min ((IntKind.u64.wrap (n2)).tmod 64).toNat IntKind.u64.bits)))).toNat))).symm) r r<|Mj (by kernel_rfl)<|bM<|Te (b:=(s1.set ((IntKind.i64.wrap (n2.tdiv 64)).toNat) (IntKind.u64.wrap ((BitVec.ofInt IntKind.u64.bits s_e5 ||| BitVec.ofInt IntKind.u64.bits (IntKind.u64.wrap (1 * 2 ^ (Nat.min ((IntKind.u64.wrap (n2)).tmod 64).toNat IntKind.u64.bits)))).toNat)))) r ?_ r r ?_ r (by decide)
   all_goals first|(simp;done)|(simp;omega)|rfl|(simp [Me,Mc];done)
  ·refine rG<|mV r r<|mV r r<|bN (v:=.int .i64 (IntKind.i64.wrap (n2.tdiv 64))) r r r r ⟨rfl,(by decide)⟩<|nC r r r<|cK fun hq=>Qz r r r hq<|bD fun s_e7 hs_e7=>SL (q:=s_e7) (l:=s1.toList) (en:=VB) (j:=(IntKind.i64.wrap (n2.tdiv 64)).toNat) (by simp) r r r hs_e7 r (fun _=>r)<|mV r r<|bN (v:=.int .u64 (IntKind.u64.wrap ((BitVec.ofInt IntKind.u64.bits s_e7 &&& ~~~ BitVec.ofInt IntKind.u64.bits (IntKind.u64.wrap (1 * 2 ^ (Nat.min ((IntKind.u64.wrap (n2)).tmod 64).toNat IntKind.u64.bits)))).toNat))) r r r r r<|nC r r r<|cK fun hq=>Qz r r r hq<|bD fun s_o8 hs_o8=>AaF (q:=s_o8) (q':=IntKind.u64.wrap ((BitVec.ofInt IntKind.u64.bits s_e7 &&& ~~~ BitVec.ofInt IntKind.u64.bits (IntKind.u64.wrap (1 * 2 ^ (Nat.min ((IntKind.u64.wrap (n2)).tmod 64).toNat IntKind.u64.bits)))).toNat)) (l:=s1.toList) (en:=VB) (j:=(IntKind.i64.wrap (n2.tdiv 64)).toNat) (z':=.agg [.int .u64 ((s1.set ((IntKind.i64.wrap (n2.tdiv 64)).toNat) (IntKind.u64.wrap ((BitVec.ofInt IntKind.u64.bits s_e7 &&& ~~~ BitVec.ofInt IntKind.u64.bits (IntKind.u64.wrap (1 * 2 ^ (Nat.min ((IntKind.u64.wrap (n2)).tmod 64).toNat IntKind.u64.bits)))).toNat))).a0),.int .u64 ((s1.set ((IntKind.i64.wrap (n2.tdiv 64)).toNat) (IntKind.u64.wrap ((BitVec.ofInt IntKind.u64.bits s_e7 &&& ~~~ BitVec.ofInt IntKind.u64.bits (IntKind.u64.wrap (1 * 2 ^ (Nat.min ((IntKind.u64.wrap (n2)).tmod 64).toNat IntKind.u64.bits)))).toNat))).a1),.int .u64 ((s1.set ((IntKind.i64.wrap (n2.tdiv 64)).toNat) (IntKind.u64.wrap ((BitVec.ofInt IntKind.u64.bits s_e7 &&& ~~~ BitVec.ofInt IntKind.u64.bits (IntKind.u64.wrap (1 * 2 ^ (Nat.min ((IntKind.u64.wrap (n2)).tmod 64).toNat IntKind.u64.bits)))).toNat))).a2),.int .u64 ((s1.set ((IntKind.i64.wrap (n2.tdiv 64)).toNat) (IntKind.u64.wrap ((BitVec.ofInt IntKind.u64.bits s_e7 &&& ~~~ BitVec.ofInt IntKind.u64.bits (IntKind.u64.wrap (1 * 2 ^ (Nat.min ((IntKind.u64.wrap (n2)).tmod 64).toNat IntKind.u64.bits)))).toNat))).a3),.int .u64 ((s1.set ((IntKind.i64.wrap (n2.tdiv 64)).toNat) (IntKind.u64.wrap ((BitVec.ofInt IntKind.u64.bits s_e7 &&& ~~~ BitVec.ofInt IntKind.u64.bits (IntKind.u64.wrap (1 * 2 ^ (Nat.min ((IntKind.u64.wrap (n2)).tmod 64).toNat IntKind.u64.bits)))).toNat))).a4),.int .u64 ((s1.set ((IntKind.i64.wrap (n2.tdiv 64)).toNat) (IntKind.u64.wrap ((BitVec.ofInt IntKind.u64.bits s_e7 &&& ~~~ BitVec.ofInt IntKind.u64.bits (IntKind.u64.wrap (1 * 2 ^ (Nat.min ((IntKind.u64.wrap (n2)).tmod 64).toNat IntKind.u64.bits)))).toNat))).a5),.int .u64 ((s1.set ((IntKind.i64.wrap (n2.tdiv 64)).toNat) (IntKind.u64.wrap ((BitVec.ofInt IntKind.u64.bits s_e7 &&& ~~~ BitVec.ofInt IntKind.u64.bits (IntKind.u64.wrap (1 * 2 ^ (Nat.min ((IntKind.u64.wrap (n2)).tmod 64).toNat IntKind.u64.bits)))).toNat))).a6),.int .u64 ((s1.set ((IntKind.i64.wrap (n2.tdiv 64)).toNat) (IntKind.u64.wrap ((BitVec.ofInt IntKind.u64.bits s_e7 &&& ~~~ BitVec.ofInt IntKind.u64.bits (IntKind.u64.wrap (1 * 2 ^ (Nat.min ((IntKind.u64.wrap (n2)).tmod 64).toNat IntKind.u64.bits)))).toNat))).a7)]) (by simp) r r r r r hs_o8 r r (congrArg (fun l=>D.agg (l.map VB)) (Oe s1 ((IntKind.i64.wrap (n2.tdiv 64)).toNat) (IntKind.u64.wrap ((BitVec.ofInt IntKind.u64.bits s_e7 &&& ~~~ BitVec.ofInt IntKind.u64.bits (IntKind.u64.wrap (1 * 2 ^ (Nat.min ((IntKind.u64.wrap (n2)).tmod 64).toNat IntKind.u64.bits)))).toNat))).symm) r r<|Mj (by kernel_rfl)<|bM<|Te (b:=(s1.set ((IntKind.i64.wrap (n2.tdiv 64)).toNat) (IntKind.u64.wrap ((BitVec.ofInt IntKind.u64.bits s_e7 &&& ~~~ BitVec.ofInt IntKind.u64.bits (IntKind.u64.wrap (1 * 2 ^ (Nat.min ((IntKind.u64.wrap (n2)).tmod 64).toNat IntKind.u64.bits)))).toNat)))) r ?_ r r ?_ r (by decide)
   all_goals first|(simp;done)|(simp;omega)|rfl|(simp [Me,Mc];done)

def AhN : Mm:=(.seq (.reg [P 2 (.asg (.c .top) none)] false) (.seq (.reg [P 6 (.bld [(.int .u64 0),(.int .u64 0),(.int .u64 0),(.int .u64 0),(.int .u64 0),(.int .u64 0),(.int .u64 0),(.int .u64 0)] []),P 7 (.box (T 6) 8 107),P 3 (.asg (T 7) none)] false) (.seq (.seq (.reg [M 8 0,P 9 (.len false (T 8)),P 10 (.mv (C 0))] false) (.block 0 (.loop (.seq (.reg [P 11 (.bin .lss (T 10) (T 9))] false) (.seq (.cond (T 11) .skip (.exit 0)) (.seq (.block 1 (.seq (.reg [P 12 (.ixA 1 (T 8) (T 10)),P 13 (.ld 1 false (T 12)),P 5 (.asg (T 13) none)] false) (.reg [M 14 3,M 15 5,P 16 (.call (.c (.clo 80 [])) [(T 14),(T 15),(.c (.bool true))])] false))) (.reg [P 17 (.bin .add (T 10) (C 1)),M 10 17] false))))))) (.seq (.reg [M 18 3,P 2 (.asg (T 18) none)] false) .ret))))
theorem Alj : (Tryz.f68.body.bind (Mo Tryz.prog Tryz.f68.ntmps)) = some AhN:=by kernel_rfl
theorem Alk : Tryz.f68.results.toList.mapM (My Tryz.prog) = some [(.t 2)]:=by kernel_rfl
def UL (a : (List Int)) : List D:=[.sl (a.map LS)]
def UK (ds : List D) : (List Int):=(uL uI) (ds.getD 0 .top)
theorem Ov (a : (List Int)) : UK (UL a) = a:=by simp [UK,UL,Nt (u:=uI) (en:=LS) (fun _=>rfl)]
def Aao (b : LX) : D:=MG b
def Aan (_b : LX) : List D:=[]
noncomputable def NJ : Dw.Spec:=Ml [] (.ptr 8 107) UL UK (fun a=>NG a) Aao Aan
set_option maxHeartbeats 4000000 in
theorem Sn : Mk Tryz.prog 68 NJ:=by
 refine Mv (Mp (l:=[(80,OU)]) (by simp [VR])) Tryz.func68 (by decide) Alj Alk (np:=1) (by decide) Ov (fun _=>r) (fun _=>r) (by decide)<|?_
 intro l1
 show TrE (specs [(80,OU)]) AhN (Mz [] (.ptr 8 107) [(.t 2)] Aao Aan) ⟨[(0,.sl (l1.map LS))],[],262144⟩ (NG l1)
 refine Mq<|?_
 unfold AhN NG
 refine sQ<|rG<|aS r r<|nI<|xS<|sQ<|rG<|bL (cs:=[.int .u64 0,.int .u64 0,.int .u64 0,.int .u64 0,.int .u64 0,.int .u64 0,.int .u64 0,.int .u64 0]) (ps:=[]) r r r r<|bX r r r r r<|aS r r<|nI<|xS<|sQ<|sQ<|rG<|mV r r<|lS r r<|mV r r<|nI<|xS<|bK<|lP (E:=fun (s : LX × Int) (g : Nat)=>[(3,.optr 7 g 0 0),(8,.sl (l1.map LS)),(9,.int .i64 (l1.length : Int)),(10,.int .i64 s.2)]) (O:=fun s g=>[(7,some (g,⟨false,true,8,107,[.agg [.int .u64 s.1.a0,.int .u64 s.1.a1,.int .u64 s.1.a2,.int .u64 s.1.a3,.int .u64 s.1.a4,.int .u64 s.1.a5,.int .u64 s.1.a6,.int .u64 s.1.a7]]⟩))]) (body:=fun s=>Sm l1 s.1 s.2) (s:=((LX.mk 0 0 0 0 0 0 0 0),0)) _ ((hE ⟨rfl,r,r,r,trivial⟩ ⟨rfl,trivial⟩))<|?_
 rintro ⟨x2,x3⟩ v7x1 nn
 try dsimp only
 unfold Sm
 refine sQ<|rG<|bN (v:=.bool (decide (x3 < (l1.length : Int)))) r r r r r<|nI<|xS<|sQ<|cD (c:=(decide (x3 < (l1.length : Int)))) r ?_ ?_
 ·exact sK<|xS<|sQ<|bK<|sQ<|rG<|bD fun x_x4 hx_x4=>iS (en:=LS) r r r hx_x4 r<|lF (v:=.int .i64 x_x4) r r r r<|aS r r<|nI<|xS<|rG<|mV r r<|mV r r<|bD fun r5 hr5=>cV (x2,x_x4,true) r r r RP r r (by simp) r hr5<|nI<|bM<|xS<|rG<|bN (v:=.int .i64 (IntKind.i64.wrap (x3 + 1))) r r r r r<|mV r r<|nI<|xL (s:=(r5,IntKind.i64.wrap (x3 + 1))) _ ((hE ⟨rfl,r,r,r,trivial⟩ ⟨rfl,trivial⟩))
 ·refine eT<|xE<|lE<|bH<|xS<|sQ<|rG<|mV r r<|aS r r<|nI<|xS<|rT<|AcY (b:=x2) r ?_ r ?_ r r ?_ r
  all_goals first|(simp;done)|(simp;omega)|rfl|(simp [Me,Mc];done)

def AhP : Mm:=(.seq (.reg [⟨(some 2),(.asg (.c .nils) (some ⟨1,3⟩)),none,[]⟩] false) (.seq (.reg [⟨(some 3),(.asg (.c .nils) (some ⟨1,3⟩)),none,[]⟩] false) (.seq (.seq (.reg [M 6 0,P 7 (.mv (C 0))] false) (.block 0 (.loop (.seq (.reg [P 8 (.bin .lss (T 7) (C 8))] false) (.seq (.cond (T 8) .skip (.exit 0)) (.seq (.block 1 (.seq (.reg [M 9 7,P 10 (.nilck (T 6)),⟨(some 11),(.ixP 1 8 (T 10) (T 7)),none,[1]⟩,⟨(some 12),(.ld 1 false (T 11)),none,[2]⟩,⟨(some 4),(.asg (T 9) none),none,[0,0]⟩,⟨(some 5),(.asg (T 12) none),none,[3,4,0,1,2,3,4]⟩] true) (.block 2 (.loop (.seq (.seq (.reg [M 13 5,P 14 (.bin .neq (T 13) (.c (.int .u64 0)))] false) (.cond (T 14) .skip (.exit 2))) (.seq (.block 3 (.reg [M 19 3,M 20 4,P 21 (.bin .mul (C 64) (T 20)),M 22 5,P 23 (.call (.c (.clo 81 [])) [(T 22)]),P 24 (.bin .add (T 21) (T 23)),⟨(some 25),(.bldS 1 3 (.int .i64 0) 1 [⟨0,(T 24)⟩]),none,[]⟩,P 26 (.app 1 3 8 (T 19) (T 25)),⟨(some 3),(.asg (T 26) (some ⟨1,3⟩)),none,[]⟩] false)) (.reg [M 15 5,M 16 5,P 17 (.bin .sub (T 16) (.c (.int .u64 1))),P 18 (.bin .and (T 15) (T 17)),P 5 (.asg (T 18) none)] false))))))) (.reg [P 27 (.bin .add (T 7) (C 1)),M 7 27] false))))))) (.seq (.reg [M 28 3,⟨(some 2),(.asg (T 28) (some ⟨1,3⟩)),none,[]⟩] false) .ret))))
theorem Alo : (Tryz.f71.body.bind (Mo Tryz.prog Tryz.f71.ntmps)) = some AhP:=by kernel_rfl
theorem Alp : Tryz.f71.results.toList.mapM (My Tryz.prog) = some [(.t 2)]:=by kernel_rfl
def QU (a : LX) : List D:=[MG a]
def QT (ds : List D) : LX:=Oa (ds.getD 0 .top)
theorem Ok (a : LX) : QT (QU a) = a:=by simp [QT,QU]
def VQ (b : (List Int) × LX) : D:=.sl (b.1.map LS)
def VP (b : (List Int) × LX) : List D:=[MG b.2]
noncomputable def MV : Dw.Spec:=Ml [(0,(8,107))] (.row 1 3) QU QT (fun a=>Nd a) VQ VP
set_option maxHeartbeats 4000000 in
theorem PA : Mk Tryz.prog 71 MV:=by
 refine Mv (Mp (l:=[(81,AdU)]) (by simp [AiN])) Tryz.func71 (by decide) Alo Alp (np:=1) (by decide) Ok (fun _=>r) (fun _=>r) (by decide)<|?_
 intro s1
 show TrE (specs [(81,AdU)]) AhP (Mz [(0,(8,107))] (.row 1 3) [(.t 2)] VQ VP) ⟨[(0,.optr 8192 0 0 0)],[(8192,some (0,⟨false,true,8,107,[.agg [.int .u64 s1.a0,.int .u64 s1.a1,.int .u64 s1.a2,.int .u64 s1.a3,.int .u64 s1.a4,.int .u64 s1.a5,.int .u64 s1.a6,.int .u64 s1.a7]]⟩))],262144⟩ (Nd s1)
 refine Mq<|?_
 unfold AhP Nd
 refine sQ<|rG<|aN (α:=Int) r LS r<|nI<|xS<|sQ<|rG<|aN (α:=Int) r LS r<|nI<|xS<|sQ<|sQ<|rG<|mV r r<|mV r r<|nI<|xS<|bK<|lP (E:=fun (s : (List Int) × Int) (g : Nat)=>[(3,.osl 3 g 0 s.1.length),(6,.optr 8192 0 0 0),(7,.int .i64 s.2)]) (O:=fun s g=>[(3,some (g,⟨false,false,1,3,s.1.map LS⟩)),(8192,some (0,⟨false,true,8,107,[.agg [.int .u64 s1.a0,.int .u64 s1.a1,.int .u64 s1.a2,.int .u64 s1.a3,.int .u64 s1.a4,.int .u64 s1.a5,.int .u64 s1.a6,.int .u64 s1.a7]]⟩))]) (body:=fun s=>Py s1 s.1 s.2) (s:=(([] : List Int),0)) _ ((hE ⟨rfl,r,r,trivial⟩ ⟨rfl,r,trivial⟩))<|?_
 rintro ⟨l2,x3⟩ v3x1 nn
 try dsimp only
 unfold Py
 refine sQ<|rG<|bN (v:=.bool (decide (x3 < 8))) r r r r r<|nI<|xS<|sQ<|cD (c:=(decide (x3 < 8))) r ?_ ?_
 ·refine sK<|xS<|sQ<|bK<|sQ<|rG<|mV r r<|nC r r r<|cK fun hq=>Qz r r r hq<|bD fun s_e4 hs_e4=>SL (q:=s_e4) (l:=s1.toList) (en:=VB) (j:=x3.toNat) (by simp) r r r hs_e4 r (fun _=>r)<|aS r r<|aS r r<|Mj (by kernel_rfl)<|xS<|bK<|lP (E:=fun (s : (List Int) × Int) (g : Nat)=>[(3,.osl 3 g 0 s.1.length),(4,.int .i64 x3),(5,.int .u64 s.2),(6,.optr 8192 0 0 0),(7,.int .i64 x3)]) (O:=fun s g=>[(3,some (g,⟨false,false,1,3,s.1.map LS⟩)),(8192,some (0,⟨false,true,8,107,[.agg [.int .u64 s1.a0,.int .u64 s1.a1,.int .u64 s1.a2,.int .u64 s1.a3,.int .u64 s1.a4,.int .u64 s1.a5,.int .u64 s1.a6,.int .u64 s1.a7]]⟩))]) (body:=fun s=>Pz x3 s.1 s.2) (s:=(l2,s_e4)) _ ((hE ⟨rfl,r,r,r,r,trivial⟩ ⟨rfl,r,trivial⟩))<|?_
  rintro ⟨l5,x6⟩ v3x2 nn
  try dsimp only
  unfold Pz
  refine sQ<|sQ<|rG<|mV r r<|bN (v:=.bool (x6 != 0)) r r r r r<|nI<|xS<|cD (c:=(x6 != 0)) r ?_ ?_
  ·exact sK<|xS<|sQ<|bK<|rG<|mV r r<|mV r r<|bN (v:=.int .i64 (IntKind.i64.wrap (64 * x3))) r r r r r<|mV r r<|bD fun r7 hr7=>cG x6 r r r AfM r r (by simp) r hr7 r<|bN (v:=.int .i64 (IntKind.i64.wrap ((IntKind.i64.wrap (64 * x3)) + r7))) r r r r r<|bS ([IntKind.i64.wrap ((IntKind.i64.wrap (64 * x3)) + r7)] : List Int) LS r r r (by simp) r r r<|cK fun hq=>aP (l5) (([IntKind.i64.wrap ((IntKind.i64.wrap (64 * x3)) + r7)] : List Int)) LS r r r r r r r (by simp) (Mu _ _ r) r r (by simp) (Md _ _ r) (fun _=>r) r hq<|aO (l:=l5 ++ ([IntKind.i64.wrap ((IntKind.i64.wrap (64 * x3)) + r7)] : List Int)) (en:=LS) r r r r<|nI<|bM<|xS<|rG<|mV r r<|mV r r<|bN (v:=.int .u64 (IntKind.u64.wrap (x6 - 1))) r r r r r<|bN (v:=.int .u64 (IntKind.u64.wrap ((BitVec.ofInt IntKind.u64.bits x6 &&& BitVec.ofInt IntKind.u64.bits (IntKind.u64.wrap (x6 - 1))).toNat))) r r r r r<|aS r r<|nI<|xL (s:=(l5 ++ ([IntKind.i64.wrap ((IntKind.i64.wrap (64 * x3)) + r7)] : List Int),IntKind.u64.wrap ((BitVec.ofInt IntKind.u64.bits x6 &&& BitVec.ofInt IntKind.u64.bits (IntKind.u64.wrap (x6 - 1))).toNat))) _ ((hE ⟨rfl,r,r,r,r,trivial⟩ ⟨rfl,r,trivial⟩))
  ·exact eT<|xE<|lE<|bH<|bM<|xS<|rG<|bN (v:=.int .i64 (IntKind.i64.wrap (x3 + 1))) r r r r r<|mV r r<|nI<|xL (s:=(l5,IntKind.i64.wrap (x3 + 1))) _ ((hE ⟨rfl,r,r,trivial⟩ ⟨rfl,r,trivial⟩))
 ·refine eT<|xE<|lE<|bH<|xS<|sQ<|rG<|mV r r<|aO (l:=l2) (en:=LS) r r r r<|nI<|xS<|rT<|MC (b:=(l2,s1)) r ?_ r r ?_ r ?_ (congrArg D.sl (Md _ _ r)) r
  all_goals first|(simp;done)|(simp;omega)|rfl|(simp [Me,Mc];done)

def AhT : Mm:=(.seq (.reg [⟨(some 4),(.asg (.c .nils) (some ⟨1,3⟩)),none,[]⟩] false) (.seq (.reg [M 6 0,P 7 (.call (.c (.clo 68 [])) [(T 6)]),P 5 (.asg (T 7) none)] false) (.seq (.reg [M 8 5,M 9 1,P 10 (.call (.c (.clo 80 [])) [(T 8),(T 9),(.c (.bool false))])] false) (.seq (.reg [M 11 5,P 12 (.call (.c (.clo 71 [])) [(T 11)]),⟨(some 4),(.asg (T 12) (some ⟨1,3⟩)),none,[]⟩] false) .ret))))
theorem Alx : (Tryz.f77.body.bind (Mo Tryz.prog Tryz.f77.ntmps)) = some AhT:=by kernel_rfl
theorem Aly : Tryz.f77.results.toList.mapM (My Tryz.prog) = some [(.t 4)]:=by kernel_rfl
def UJ (a : (List Int) × Int) : List D:=[.sl (a.1.map LS),.int .i64 a.2]
def UI (ds : List D) : (List Int) × Int:=((uL uI) (ds.getD 0 .top),uI (ds.getD 1 .top))
theorem Zt (a : (List Int) × Int) : UI (UJ a) = a:=by simp [UI,UJ,uI,Nt (u:=uI) (en:=LS) (fun _=>rfl)]
def Wc (b : (List Int)) : D:=.sl (b.map LS)
def Aal (_b : (List Int)) : List D:=[]
noncomputable def Wd : Dw.Spec:=Ml [] .val UJ UI (fun a=>Qa a.1 a.2) Wc Aal
set_option maxHeartbeats 4000000 in
theorem Adx : Mk Tryz.prog 77 Wd:=by
 refine Mv (Mp (l:=[(68,NJ),(80,OU),(71,MV)]) (by simp [Sn,VR,PA])) Tryz.func77 (by decide) Alx Aly (np:=2) (by decide) Zt (fun _=>r) (fun _=>r) (by decide)<|?_
 rintro ⟨s1,n2⟩
 show TrE (specs [(68,NJ),(80,OU),(71,MV)]) AhT (Mz [] .val [(.t 4)] Wc Aal) ⟨[(0,.sl (s1.map LS)),(1,.int .i64 n2)],[],262144⟩ (Qa s1 n2)
 refine Mq<|?_
 unfold AhT Qa
 refine sQ<|rG<|aN (α:=Int) r LS r<|nI<|xS<|sQ<|rG<|mV r r<|bD fun r3 hr3=>cP s1 r r r Ov r r (by simp) r hr3<|aS r r<|nI<|xS<|sQ<|rG<|mV r r<|mV r r<|bD fun r4 hr4=>cV (r3,n2,false) r r r RP r r (by simp) r hr4<|nI<|xS<|sQ<|rG<|mV r r<|bD fun r5 hr5=>cR (l:=r5.1) (en:=LS) r4 r r r Ok r r (by simp) r hr5 r<|aO (l:=r5.1) (en:=LS) r r r r<|nI<|xS<|rT<|Nl (b:=r5.1) r ?_ r r ?_ (by first | rfl | (simp only [Mw,MB]; rfl) | simp [Wc])
 all_goals first|(simp;done)|(simp;omega)|rfl|(simp [Me,Mc];done)

def AhV : Mm:=(.seq (.reg [P 1 (.box (T 0) 5 54),⟨(some 2),(.asg (.c .nils) (some ⟨1,3⟩)),none,[]⟩] false) (.seq (.seq (.reg [P 3 (.fldA 0 (T 1)),P 4 (.ld 1 false (T 3))] false) (.block 0 (.seq (.seq (.reg [P 6 (.bin .eql (T 4) (C 15)),P 5 (.asg (T 6) none)] false) (.cond (T 5) .skip (.reg [P 7 (.bin .eql (T 4) (C 17)),P 5 (.asg (T 7) none)] false))) (.cond (T 5) (.seq (.reg [P 8 (.fldA 2 (T 1)),P 9 (.ld 1 false (T 8)),⟨(some 10),(.bldS 1 3 (.int .i64 0) 1 [⟨0,(T 9)⟩]),none,[]⟩,⟨(some 2),(.asg (T 10) (some ⟨1,3⟩)),none,[]⟩] false) .ret) .skip)))) (.seq (.reg [⟨(some 2),(.asg (.c .nils) (some ⟨1,3⟩)),none,[]⟩] false) .ret)))
theorem AlB : (Tryz.f79.body.bind (Mo Tryz.prog Tryz.f79.ntmps)) = some AhV:=by kernel_rfl
theorem AlC : Tryz.f79.results.toList.mapM (My Tryz.prog) = some [(.t 2)]:=by kernel_rfl
def Wn (a : LU) : List D:=[LW a]
def Wm (ds : List D) : LU:=SS (ds.getD 0 .top)
theorem Xl (a : LU) : Wm (Wn a) = a:=by simp [Wm,Wn]
def AbC (b : (List Int)) : D:=.sl (b.map LS)
def AbB (_b : (List Int)) : List D:=[]
noncomputable def Yr : Dw.Spec:=Ml [] (.row 1 3) Wn Wm (fun a=>Ry a) AbC AbB
set_option maxHeartbeats 4000000 in
theorem Aec : Mk Tryz.prog 79 Yr:=by
 refine Mv (Nb) Tryz.func79 (by decide) AlB AlC (np:=1) (by decide) Xl (fun _=>r) (fun _=>r) (by decide)<|?_
 intro x1
 show TrE (specs []) AhV (Mz [] (.row 1 3) [(.t 2)] AbC AbB) ⟨[(0,.agg [.int .i64 x1.Op,.int .i64 x1.A,.int .i64 x1.B,.int .i64 x1.C,.int .u64 x1.Imm])],[],262144⟩ (Ry x1)
 refine Mq<|?_
 unfold AhV Ry
 refine sQ<|rG<|bX r r r r r<|aN (α:=Int) r LS r<|nI<|xS<|sQ<|sQ<|rG<|fA r r<|lO (v:=.int .i64 x1.Op) (z:=.agg [.int .i64 x1.Op,.int .i64 x1.A,.int .i64 x1.B,.int .i64 x1.C,.int .u64 x1.Imm]) r r r r r r<|nI<|xS<|bK<|sQ<|sQ<|rG<|bN (v:=.bool (x1.Op == 15)) r r r r r<|aS r r<|nI<|xS<|cD (c:=(x1.Op == 15)) r ?_ ?_
 ·refine sK<|xS<|cD (c:=(x1.Op == 15)) r ?_ ?_
  ·refine sQ<|rG<|fA r r<|lO (v:=.int .i64 x1.B) (z:=.agg [.int .i64 x1.Op,.int .i64 x1.A,.int .i64 x1.B,.int .i64 x1.C,.int .u64 x1.Imm]) r r r r r r<|bS ([x1.B] : List Int) LS r r r (by simp) r r r<|aO (l:=([x1.B] : List Int)) (en:=LS) r r r r<|nI<|xS<|rT<|bR<|xR<|MC (b:=([x1.B] : List Int)) r ?_ r r ?_ r ?_ (congrArg D.sl (Md _ _ r)) r
   all_goals first|(simp;done)|(simp;omega)|rfl|(simp [Me,Mc];done)
  ·refine sK<|bM<|xS<|sQ<|rG<|aN (α:=Int) r LS r<|nI<|xS<|rT<|MC (b:=([] : List Int)) r ?_ r r ?_ r ?_ (congrArg D.sl (Md _ _ r)) r
   all_goals first|(simp;done)|(simp;omega)|rfl|(simp [Me,Mc];done)
 ·refine rG<|bN (v:=.bool (x1.Op == 17)) r r r r r<|aS r r<|nI<|xS<|cD (c:=(x1.Op == 17)) r ?_ ?_
  ·refine sQ<|rG<|fA r r<|lO (v:=.int .i64 x1.B) (z:=.agg [.int .i64 x1.Op,.int .i64 x1.A,.int .i64 x1.B,.int .i64 x1.C,.int .u64 x1.Imm]) r r r r r r<|bS ([x1.B] : List Int) LS r r r (by simp) r r r<|aO (l:=([x1.B] : List Int)) (en:=LS) r r r r<|nI<|xS<|rT<|bR<|xR<|MC (b:=([x1.B] : List Int)) r ?_ r r ?_ r ?_ (congrArg D.sl (Md _ _ r)) r
   all_goals first|(simp;done)|(simp;omega)|rfl|(simp [Me,Mc];done)
  ·refine sK<|bM<|xS<|sQ<|rG<|aN (α:=Int) r LS r<|nI<|xS<|rT<|MC (b:=([] : List Int)) r ?_ r r ?_ r ?_ (congrArg D.sl (Md _ _ r)) r
   all_goals first|(simp;done)|(simp;omega)|rfl|(simp [Me,Mc];done)

def AhU : Mm:=(.seq (.reg [⟨(some 2),(.asg (.c .nils) (some ⟨1,3⟩)),none,[]⟩] false) (.seq (.reg [M 3 0,P 4 (.call (.c (.clo 68 [])) [(T 3)]),P 5 (.call (.c (.clo 71 [])) [(T 4)]),⟨(some 2),(.asg (T 5) (some ⟨1,3⟩)),none,[]⟩] false) .ret))
theorem Alz : (Tryz.f78.body.bind (Mo Tryz.prog Tryz.f78.ntmps)) = some AhU:=by kernel_rfl
theorem AlA : Tryz.f78.results.toList.mapM (My Tryz.prog) = some [(.t 2)]:=by kernel_rfl
def SP (a : (List Int)) : List D:=[.sl (a.map LS)]
def Yo (ds : List D) : (List Int):=(uL uI) (ds.getD 0 .top)
theorem Zs (a : (List Int)) : Yo (SP a) = a:=by simp [Yo,SP,Nt (u:=uI) (en:=LS) (fun _=>rfl)]
def Adh (b : (List Int)) : D:=.sl (b.map LS)
def Adg (_b : (List Int)) : List D:=[]
noncomputable def AaG : Dw.Spec:=Ml [] (.row 1 3) SP Yo (fun a=>Si a) Adh Adg
set_option maxHeartbeats 4000000 in
theorem AeU : Mk Tryz.prog 78 AaG:=by
 refine Mv (Mp (l:=[(68,NJ),(71,MV)]) (by simp [Sn,PA])) Tryz.func78 (by decide) Alz AlA (np:=1) (by decide) Zs (fun _=>r) (fun _=>r) (by decide)<|?_
 intro l1
 show TrE (specs [(68,NJ),(71,MV)]) AhU (Mz [] (.row 1 3) [(.t 2)] Adh Adg) ⟨[(0,.sl (l1.map LS))],[],262144⟩ (Si l1)
 refine Mq<|?_
 unfold AhU Si
 refine sQ<|rG<|aN (α:=Int) r LS r<|nI<|xS<|sQ<|rG<|mV r r<|bD fun r2 hr2=>cP l1 r r r Ov r r (by simp) r hr2<|bD fun r3 hr3=>cR (l:=r3.1) (en:=LS) r2 r r r Ok r r (by simp) r hr3 r<|aO (l:=r3.1) (en:=LS) r r r r<|nI<|xS<|rT<|MC (b:=r3.1) r ?_ r r ?_ r ?_ (congrArg D.sl (Md _ _ r)) r
 all_goals first|(simp;done)|(simp;omega)|rfl|(simp [Me,Mc];done)

def AhO : Mm:=(.seq (.reg [P 4 (.asg (.c (.int .u64 0)) none)] false) (.seq (.reg [M 5 0,M 6 1,P 7 (.bin .or (T 5) (T 6)),P 4 (.asg (T 7) none)] false) .ret))
theorem Alm : (Tryz.f70.body.bind (Mo Tryz.prog Tryz.f70.ntmps)) = some AhO:=by kernel_rfl
theorem Aln : Tryz.f70.results.toList.mapM (My Tryz.prog) = some [(.t 4)]:=by kernel_rfl
def TJ (a : Int × Int) : List D:=[.int .u64 a.1,.int .u64 a.2]
def TI (ds : List D) : Int × Int:=(uI (ds.getD 0 .top),uI (ds.getD 1 .top))
theorem YL (a : Int × Int) : TI (TJ a) = a:=by simp [TI,TJ,uI]
def Zv (b : Int) : D:=.int .u64 b
def Zu (_b : Int) : List D:=[]
noncomputable def Vy : Dw.Spec:=Ml [] .ground TJ TI (fun a=>Qu a.1 a.2) Zv Zu
set_option maxHeartbeats 4000000 in
theorem Adb : Mk Tryz.prog 70 Vy:=by
 refine Mv (Nb) Tryz.func70 (by decide) Alm Aln (np:=2) (by decide) YL (fun _=>r) (fun _=>r) (by decide)<|?_
 rintro ⟨x1,y2⟩
 show TrE (specs []) AhO (Mz [] .ground [(.t 4)] Zv Zu) ⟨[(0,.int .u64 x1),(1,.int .u64 y2)],[],262144⟩ (Qu x1 y2)
 refine Mq<|?_
 unfold AhO Qu
 refine sQ<|rG<|aS r r<|nI<|xS<|sQ<|rG<|mV r r<|mV r r<|bN (v:=.int .u64 (IntKind.u64.wrap ((BitVec.ofInt IntKind.u64.bits x1 ||| BitVec.ofInt IntKind.u64.bits y2).toNat))) r r r r r<|aS r r<|nI<|xS<|rT<|Mg (b:=IntKind.u64.wrap ((BitVec.ofInt IntKind.u64.bits x1 ||| BitVec.ofInt IntKind.u64.bits y2).toNat)) r ?_ r r ?_ r
 all_goals first|(simp;done)|(simp;omega)|rfl|(simp [Me,Mc];done)

def Afb : Mm:=(.seq (.reg [P 6 (.asg (.c .top) none)] false) (.seq (.reg [P 9 (.bld [(.int .u64 0),(.int .u64 0),(.int .u64 0),(.int .u64 0),(.int .u64 0),(.int .u64 0),(.int .u64 0),(.int .u64 0)] []),P 10 (.box (T 9) 8 107),P 7 (.asg (T 10) none)] false) (.seq (.seq (.reg [P 11 (.mv (C 0))] false) (.block 0 (.loop (.seq (.reg [P 12 (.bin .lss (T 11) (C 8))] false) (.seq (.cond (T 12) .skip (.exit 0)) (.seq (.block 1 (.seq (.reg [M 13 11,P 8 (.asg (T 13) none)] false) (.reg [M 14 7,M 15 8,M 16 2,M 17 0,M 18 8,⟨(some 19),(.nilck (T 17)),none,[3]⟩,⟨(some 20),(.ixP 1 8 (T 19) (T 18)),none,[5,4]⟩,⟨(some 21),(.ld 1 false (T 20)),none,[6]⟩,M 22 1,M 23 8,⟨(some 24),(.nilck (T 22)),none,[8]⟩,⟨(some 25),(.ixP 1 8 (T 24) (T 23)),none,[10,9]⟩,⟨(some 26),(.ld 1 false (T 25)),none,[11]⟩,⟨(some 27),(.call (T 16) [(T 21),(T 26)]),none,[2,7,12]⟩,⟨(some 28),(.nilck (T 14)),none,[0]⟩,⟨(some 29),(.ixP 1 8 (T 28) (T 15)),none,[14,1,0,1,2,3,4,5,6,7,8,9,10,11,12,13]⟩,⟨none,(.st 1 (T 29) (T 27)),none,[15,13,13,0,1,2,3,4,5,6,7,8,9,10,11,12,13]⟩] true))) (.reg [P 30 (.bin .add (T 11) (C 1)),M 11 30] false))))))) (.seq (.reg [M 31 7,P 6 (.asg (T 31) none)] false) .ret))))
theorem Agi : (Tryz.f69.body.bind (Mo Tryz.prog Tryz.f69.ntmps)) = some Afb:=by kernel_rfl
theorem Agj : Tryz.f69.results.toList.mapM (My Tryz.prog) = some [(.t 6)]:=by kernel_rfl
def OP (a : LX × LX) : List D:=[MG a.1,MG a.2,.clo 70 []]
def OO (ds : List D) : LX × LX:=(Oa (ds.getD 0 .top),Oa (ds.getD 1 .top))
theorem Ri (a : LX × LX) : OO (OP a) = a:=by simp [OO,OP]
def RJ (b : LX × LX × LX) : D:=MG b.1
def RI (b : LX × LX × LX) : List D:=[MG b.2.1,MG b.2.2]
noncomputable def NV : Dw.Spec:=Ml [(0,(8,107)),(1,(8,107))] (.ptr 8 107) OP OO (fun a=>Ni a.1 a.2) RJ RI
set_option maxHeartbeats 4000000 in
theorem Wh : Mk Tryz.prog 69 NV:=by
 refine Mv (Mp (l:=[(70,Vy)]) (by simp [Adb])) Tryz.func69 (by decide) Agi Agj (np:=3) (by decide) Ri (fun _=>r) (fun _=>r) (by decide)<|?_
 rintro ⟨s1,t2⟩
 show TrE (specs [(70,Vy)]) Afb (Mz [(0,(8,107)),(1,(8,107))] (.ptr 8 107) [(.t 6)] RJ RI) ⟨[(0,.optr 8192 0 0 0),(1,.optr 8193 1 0 0),(2,.clo 70 [])],[(8192,some (0,⟨false,true,8,107,[.agg [.int .u64 s1.a0,.int .u64 s1.a1,.int .u64 s1.a2,.int .u64 s1.a3,.int .u64 s1.a4,.int .u64 s1.a5,.int .u64 s1.a6,.int .u64 s1.a7]]⟩)),(8193,some (1,⟨false,true,8,107,[.agg [.int .u64 t2.a0,.int .u64 t2.a1,.int .u64 t2.a2,.int .u64 t2.a3,.int .u64 t2.a4,.int .u64 t2.a5,.int .u64 t2.a6,.int .u64 t2.a7]]⟩))],262144⟩ (Ni s1 t2)
 refine Mq<|?_
 unfold Afb Ni
 refine sQ<|rG<|aS r r<|nI<|xS<|sQ<|rG<|bL (cs:=[.int .u64 0,.int .u64 0,.int .u64 0,.int .u64 0,.int .u64 0,.int .u64 0,.int .u64 0,.int .u64 0]) (ps:=[]) r r r r<|bX r r r r r<|aS r r<|nI<|xS<|sQ<|sQ<|rG<|mV r r<|nI<|xS<|bK<|lP (E:=fun (s : LX × Int) (g : Nat)=>[(0,.optr 8192 0 0 0),(1,.optr 8193 1 0 0),(2,.clo 70 []),(7,.optr 10 g 0 0),(11,.int .i64 s.2)]) (O:=fun s g=>[(10,some (g,⟨false,true,8,107,[.agg [.int .u64 s.1.a0,.int .u64 s.1.a1,.int .u64 s.1.a2,.int .u64 s.1.a3,.int .u64 s.1.a4,.int .u64 s.1.a5,.int .u64 s.1.a6,.int .u64 s.1.a7]]⟩)),(8192,some (0,⟨false,true,8,107,[.agg [.int .u64 s1.a0,.int .u64 s1.a1,.int .u64 s1.a2,.int .u64 s1.a3,.int .u64 s1.a4,.int .u64 s1.a5,.int .u64 s1.a6,.int .u64 s1.a7]]⟩)),(8193,some (1,⟨false,true,8,107,[.agg [.int .u64 t2.a0,.int .u64 t2.a1,.int .u64 t2.a2,.int .u64 t2.a3,.int .u64 t2.a4,.int .u64 t2.a5,.int .u64 t2.a6,.int .u64 t2.a7]]⟩))]) (body:=fun s=>Nq s1 t2 s.1 s.2) (s:=((LX.mk 0 0 0 0 0 0 0 0),0)) _ ((hE ⟨rfl,r,r,r,r,trivial⟩ ⟨rfl,r,r,trivial⟩))<|?_
 rintro ⟨x3,x4⟩ v10x1 nn
 try dsimp only
 unfold Nq
 refine sQ<|rG<|bN (v:=.bool (decide (x4 < 8))) r r r r r<|nI<|xS<|sQ<|cD (c:=(decide (x4 < 8))) r ?_ ?_
 ·exact sK<|xS<|sQ<|bK<|sQ<|rG<|mV r r<|aS r r<|nI<|xS<|rG<|mV r r<|mV r r<|mV r r<|mV r r<|mV r r<|nC r r r<|cK fun hq=>Qz r r r hq<|bD fun s_e5 hs_e5=>SL (q:=s_e5) (l:=s1.toList) (en:=VB) (j:=x4.toNat) (by simp) r r r hs_e5 r (fun _=>r)<|mV r r<|mV r r<|nC r r r<|cK fun hq=>Qz r r r hq<|bD fun t_e6 ht_e6=>SL (q:=t_e6) (l:=t2.toList) (en:=VB) (j:=x4.toNat) (by simp) r r r ht_e6 r (fun _=>r)<|bD fun r7 hr7=>cG (s_e5,t_e6) r r r YL r r (by simp) r hr7 r<|nC r r r<|cK fun hq=>Qz r r r hq<|bD fun x_o8 hx_o8=>AdT (q:=x_o8) (q':=r7) (l:=x3.toList) (en:=VB) (j:=x4.toNat) (z':=.agg [.int .u64 ((x3.set x4.toNat r7).a0),.int .u64 ((x3.set x4.toNat r7).a1),.int .u64 ((x3.set x4.toNat r7).a2),.int .u64 ((x3.set x4.toNat r7).a3),.int .u64 ((x3.set x4.toNat r7).a4),.int .u64 ((x3.set x4.toNat r7).a5),.int .u64 ((x3.set x4.toNat r7).a6),.int .u64 ((x3.set x4.toNat r7).a7)]) (by simp) r r r r r hx_o8 r r (congrArg (fun l=>D.agg (l.map VB)) (Oe x3 x4.toNat r7).symm)<|Mj (by kernel_rfl)<|bM<|xS<|rG<|bN (v:=.int .i64 (IntKind.i64.wrap (x4 + 1))) r r r r r<|mV r r<|nI<|xL (s:=((x3.set x4.toNat r7),IntKind.i64.wrap (x4 + 1))) _ ((hE ⟨rfl,r,r,r,r,trivial⟩ ⟨rfl,r,r,trivial⟩))
 ·refine eT<|xE<|lE<|bH<|xS<|sQ<|rG<|mV r r<|aS r r<|nI<|xS<|rT<|AcY (b:=(x3,s1,t2)) r ?_ r ?_ r r ?_ r
  all_goals first|(simp;done)|(simp;omega)|rfl|(simp [Me,Mc];done)

def Ahz : Mm:=(.seq (.reg [⟨(some 4),(.asg (.c .nils) (some ⟨1,3⟩)),none,[]⟩] false) (.seq (.reg [M 5 0,P 6 (.call (.c (.clo 68 [])) [(T 5)]),M 7 1,P 8 (.call (.c (.clo 68 [])) [(T 7)]),P 9 (.call (.c (.clo 69 [])) [(T 6),(T 8),(.c (.clo 70 []))]),P 10 (.call (.c (.clo 71 [])) [(T 9)]),⟨(some 4),(.asg (T 10) (some ⟨1,3⟩)),none,[]⟩] false) .ret))
theorem AkH : (Tryz.f54.body.bind (Mo Tryz.prog Tryz.f54.ntmps)) = some Ahz:=by kernel_rfl
theorem AkI : Tryz.f54.results.toList.mapM (My Tryz.prog) = some [(.t 4)]:=by kernel_rfl
def QC (a : (List Int) × (List Int)) : List D:=[.sl (a.1.map LS),.sl (a.2.map LS)]
def Vz (ds : List D) : (List Int) × (List Int):=((uL uI) (ds.getD 0 .top),(uL uI) (ds.getD 1 .top))
theorem TD (a : (List Int) × (List Int)) : Vz (QC a) = a:=by simp [Vz,QC,Nt (u:=uI) (en:=LS) (fun _=>rfl)]
def Xi (b : (List Int)) : D:=.sl (b.map LS)
def AaX (_b : (List Int)) : List D:=[]
noncomputable def RO : Dw.Spec:=Ml [] .val QC Vz (fun a=>OT a.1 a.2) Xi AaX
set_option maxHeartbeats 4000000 in
theorem Aam : Mk Tryz.prog 54 RO:=by
 refine Mv (Mp (l:=[(68,NJ),(290885,NV),(71,MV)]) (by simp [Sn,Wh,PA])) Tryz.func54 (by decide) AkH AkI (np:=2) (by decide) TD (fun _=>r) (fun _=>r) (by decide)<|?_
 rintro ⟨a1,b2⟩
 show TrE (specs [(68,NJ),(290885,NV),(71,MV)]) Ahz (Mz [] .val [(.t 4)] Xi AaX) ⟨[(0,.sl (a1.map LS)),(1,.sl (b2.map LS))],[],262144⟩ (OT a1 b2)
 refine Mq<|?_
 unfold Ahz OT
 refine sQ<|rG<|aN (α:=Int) r LS r<|nI<|xS<|sQ<|rG<|mV r r<|bD fun r3 hr3=>cP a1 r r r Ov r r (by simp) r hr3<|mV r r<|bD fun r4 hr4=>cP b2 r r r Ov r r (by simp) rfl hr4<|bD fun r5 hr5=>cP (r3,r4) rfl rfl (show _ = some NV from by kernel_rfl) Ri rfl rfl (by simp) r hr5<|bD fun r6 hr6=>cR (l:=r6.1) (en:=LS) r5.1 r r r Ok r r (by simp) r hr6 r<|aO (l:=r6.1) (en:=LS) r r r r<|nI<|xS<|rT<|Nl (b:=r6.1) r ?_ r r ?_ (by first | rfl | (simp only [Mw,MB]; rfl) | simp [Xi])
 all_goals first|(simp;done)|(simp;omega)|rfl|(simp [Me,Mc];done)

end Go.Proofs.YtfpgidpffhmadaaGreatDoor
