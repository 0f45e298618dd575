/-
  Programs on typed data, and the proofs that the code does what they say; written by a program (dx.py).
-/
import Derived.Test.YtcelninhkmhjkaaDoorProg
import Derived.Test.YtcelninhkmhjkaaDoorDc
import Derived.KernelRfl
import Derived.Test.YtcelninhkmhjkaaDoorDxP
import Derived.Test.YtcelninhkmhjkaaDoorDxF2
import Derived.Test.YtcelninhkmhjkaaDoorDxF3
import Derived.Test.YtcelninhkmhjkaaDoorDxF4
import Derived.Test.YtcelninhkmhjkaaDoorDxF5
namespace Go.Proofs.YtcelninhkmhjkaaDoor
open Go Go.Dw Go.Proofs
set_option maxRecDepth 100000
open Go.Dw renaming Ym → mV,VP → bN,PJ → lO,TU → bD,VS → cK,VU → nI,VX → xS,Yo → rG,Yq → sQ,Ru → aO,VO → aS,VV → oF,OZ → cV,Nj → cG,Qz → cR,PK → sV,YW → sE,SP → iS,Rv → iO,QY → lS,Rx → lW,TV → fA,Zv → eX,TW → lF,SE → sP,OA → pT,NL → pF,Yn → uN,VT → nW,VR → bX,Rt → aN,XE → aL,JG → mS,VY → cD,TY → bK,Yp → rT,Wc → sK,VZ → eT,VW → xC,TX → xL,PY → xR,SF → lR,So → hE,OB → lE,Pa → bH,NM → bM,PX → bR,Pb → xE,Wa → lP,QZ → sC,Wb → bC,rf → r
def Afv : Ka:=(.seq (.reg [P 3 (.box (T 0) 3 27),P 4 (.box (T 1) 1 30),⟨(some 6),(.asg (.c .nils) (some ⟨1,3⟩)),none,[]⟩] false) (.seq (.reg [⟨(some 7),(.asg (.c .nils) (some ⟨1,3⟩)),none,[]⟩] false) (.seq (.reg [P 11 (.ld 3 true (T 3)),M 12 2,P 13 (.call (.c (.clo 60 [])) [(T 11),(T 12)]),⟨(some 8),(.asg (T 13) (some ⟨1,3⟩)),none,[]⟩] false) (.seq (.seq (.reg [P 9 (.asg (C 0) none)] false) (.block 0 (.loop (.seq (.seq (.reg [M 14 9,M 15 8,P 16 (.len false (T 15)),P 17 (.bin .lss (T 14) (T 16))] false) (.cond (T 17) .skip (.exit 0))) (.seq (.block 1 (.seq (.reg [M 20 8,M 21 9,P 22 (.ixA 1 (T 20) (T 21)),P 23 (.ld 1 false (T 22)),P 10 (.asg (T 23) none)] false) (.reg [M 24 7,P 25 (.fldA 2 (T 3)),⟨(some 26),(.ld 1 false (T 25)),none,[1]⟩,M 27 10,⟨(some 28),(.ixA 5 (T 26) (T 27)),none,[2,3]⟩,⟨(some 29),(.ld 5 true (T 28)),none,[4]⟩,P 30 (.fldA 0 (T 4)),⟨(some 31),(.ld 1 false (T 30)),none,[6]⟩,M 32 10,⟨(some 33),(.ixA 1 (T 31) (T 32)),none,[7,8]⟩,⟨(some 34),(.ld 1 false (T 33)),none,[9]⟩,⟨(some 35),(.call (.c (.clo 75 [])) [(T 29),(T 34)]),none,[5,10]⟩,P 36 (.fldA 0 (T 4)),⟨(some 37),(.ld 1 false (T 36)),none,[12]⟩,M 38 2,⟨(some 39),(.ixA 1 (T 37) (T 38)),none,[13,14]⟩,⟨(some 40),(.ld 1 false (T 39)),none,[15]⟩,⟨(some 41),(.call (.c (.clo 65 [])) [(T 35),(T 40)]),none,[11,16,11]⟩,⟨(some 42),(.call (.c (.clo 27 [])) [(T 24),(T 41)]),none,[0,17,17]⟩,⟨(some 7),(.asg (T 42) (some ⟨1,3⟩)),none,[18,18,0,1,2,3,4,5,6,7,8,9,10,11,12,13,14,15,16,17,18]⟩] true))) (.reg [M 18 9,P 19 (.bin .add (T 18) (C 1)),P 9 (.asg (T 19) none)] false)))))) (.seq (.reg [M 43 7,⟨(some 6),(.asg (T 43) (some ⟨1,3⟩)),none,[]⟩] false) .ret)))))
theorem AiG : (Tryd.f76.body.bind (Kb Tryd.prog Tryd.f76.ntmps)) = some Afv:=by kernel_rfl
theorem AiH : Tryd.f76.results.toList.mapM (Kn Tryd.prog) = some [(.t 6)]:=by kernel_rfl
def Tq (a : JO × JR × Int) : List D:=[Kv a.1,KJ a.2.1,.int .i64 a.2.2]
def Tp (ds : List D) : JO × JR × Int:=(LA (ds.getD 0 .top),MA (ds.getD 1 .top),uI (ds.getD 2 .top))
theorem Yi (a : JO × JR × Int) : Tp (Tq a) = a:=by simp [Tp,Tq,uI]
def YI (b : (List Int)) : D:=.sl (b.map JJ)
def YH (_b : (List Int)) : List D:=[]
noncomputable def UW : Dw.Spec:=JZ [] (.row 1 3) Tq Tp (fun a=>Pu a.1 a.2.1 a.2.2) YI YH
set_option maxHeartbeats 4000000 in
theorem Abv : JY Tryd.prog 76 UW:=by
 refine Ki (Ke (l:=[(60,Sz),(75,UO),(65,WR),(27,Oy)]) (by simp [ZY,Abq,AbV,VA])) Tryd.func76 (by decide) AiG AiH (np:=3) (by decide) Yi (fun _=>r) (fun _=>r) (by decide)<|?_
 rintro ⟨f1,l2,k3⟩
 show TrE (specs [(60,Sz),(75,UO),(65,WR),(27,Oy)]) Afv (Kp [] (.row 1 3) [(.t 6)] YI YH) ⟨[(0,.agg [.int .i64 f1.Params,.sl (f1.Slots.map JP),.sl (f1.Code.map JM)]),(1,.agg [.sl (l2.Out.map (eL JJ))]),(2,.int .i64 k3)],[],262144⟩ (Pu f1 l2 k3)
 refine Kc<|?_
 unfold Afv Pu
 refine sQ<|rG<|bX r r r r r<|bX r r r r r<|aN (α:=Int) r JJ r<|nI<|xS<|sQ<|rG<|aN (α:=Int) r JJ r<|nI<|xS<|sQ<|rG<|lO (v:=.agg [.int .i64 f1.Params,.sl (f1.Slots.map JP),.sl (f1.Code.map JM)]) (z:=.agg [.int .i64 f1.Params,.sl (f1.Slots.map JP),.sl (f1.Code.map JM)]) r r r r r r<|mV r r<|bD fun r4 hr4=>cR (l:=r4) (en:=JJ) (f1,k3) r r r WT r r (by simp) r hr4 r<|aO (l:=r4) (en:=JJ) r r r r<|nI<|xS<|sQ<|sQ<|rG<|aS r r<|nI<|xS<|bK<|lP (E:=fun (s : (List Int) × Int) (g : Nat × Nat × Nat × Nat)=>[(2,.int .i64 k3),(3,.optr 3 g.1 0 0),(4,.optr 4 g.2.1 0 0),(7,.osl 7 g.2.2.1 0 s.1.length),(8,.osl 8 g.2.2.2 0 r4.length),(9,.int .i64 s.2)]) (O:=fun s g=>[(3,some (g.1,⟨false,true,3,27,[.agg [.int .i64 f1.Params,.sl (f1.Slots.map JP),.sl (f1.Code.map JM)]]⟩)),(4,some (g.2.1,⟨false,true,1,30,[.agg [.sl (l2.Out.map (eL JJ))]]⟩)),(7,some (g.2.2.1,⟨false,false,1,3,s.1.map JJ⟩)),(8,some (g.2.2.2,⟨false,false,1,3,r4.map JJ⟩))]) (body:=fun s=>NH r4 f1 l2 k3 s.1 s.2) (s:=(([] : List Int),0)) (_,_,_,_) ((hE ⟨rfl,r,r,r,r,r,trivial⟩ ⟨rfl,r,r,r,trivial⟩))<|?_
 rintro ⟨out5,i6⟩ ⟨v3x1,v4x1,v7x1,v8x1⟩ nn
 try dsimp only
 unfold NH
 refine sQ<|sQ<|rG<|mV r r<|mV r r<|lW r r<|bN (v:=.bool (decide (i6 < (r4.length : Int)))) r r r r r<|nI<|xS<|cD (c:=(decide (i6 < (r4.length : Int)))) r ?_ ?_
 ·exact sK<|xS<|sQ<|bK<|sQ<|rG<|mV r r<|mV r r<|cK fun hq=>iO (l:=r4) (en:=JJ) r r r r r hq<|bD fun next_e7 hnext_e7=>lO (v:=.int .i64 next_e7) (z:=JJ next_e7) r r r (LR hnext_e7) r r<|aS r r<|nI<|xS<|rG<|mV r r<|fA r r<|lO (v:=.sl (f1.Code.map JM)) (z:=.agg [.int .i64 f1.Params,.sl (f1.Slots.map JP),.sl (f1.Code.map JM)]) r r r r r r<|mV r r<|bD fun x_x8 hx_x8=>iS (en:=JM) r r r hx_x8 r<|lF (v:=.agg [.int .i64 x_x8.Op,.int .i64 x_x8.A,.int .i64 x_x8.B,.int .i64 x_x8.C,.int .u64 x_x8.Imm]) r r r r<|fA r r<|lO (v:=.sl (l2.Out.map (eL JJ))) (z:=.agg [.sl (l2.Out.map (eL JJ))]) r r r r r r<|mV r r<|bD fun x_x9 hx_x9=>iS (en:=(eL JJ)) r r r hx_x9 r<|lF (v:=.sl (x_x9.map JJ)) r r r r<|bD fun r10 hr10=>cR (l:=r10) (en:=JJ) (x_x8,x_x9) r r r YU r r (by simp) r hr10 r<|fA r r<|lO (v:=.sl (l2.Out.map (eL JJ))) (z:=.agg [.sl (l2.Out.map (eL JJ))]) r r r r r r<|mV r r<|bD fun x_x11 hx_x11=>iS (en:=(eL JJ)) r r r hx_x11 r<|lF (v:=.sl (x_x11.map JJ)) r r r r<|bD fun r12 hr12=>cR (l:=r12) (en:=JJ) (r10,x_x11) r r r Zj r r (by simp) (by first | rfl | (simp only [Kg,Kk]; rfl) | simp [RZ]) hr12 r<|bD fun r13 hr13=>cR (l:=r13) (en:=JJ) (out5,r12) r r r Qv r r (by simp) (by first | rfl | (simp only [Kg,Kk]; rfl) | simp [Nh]) hr13 r<|aO (l:=r13) (en:=JJ) r r r r<|Kf (by kernel_rfl)<|bM<|xS<|rG<|mV r r<|bN (v:=.int .i64 (IntKind.i64.wrap (i6 + 1))) r r r r r<|aS r r<|nI<|xL (s:=(r13,IntKind.i64.wrap (i6 + 1))) (_,_,_,_) ((hE ⟨rfl,r,r,r,r,r,trivial⟩ ⟨rfl,r,r,r,trivial⟩))
 ·refine eT<|xE<|lE<|bH<|xS<|sQ<|rG<|mV r r<|aO (l:=out5) (en:=JJ) r r r r<|nI<|xS<|rT<|Kt (b:=out5) r ?_ r r ?_ r ?_ (congrArg D.sl (JS _ _ r)) r
  all_goals first|(simp;done)|(simp;omega)|rfl|(simp [JT,JQ];done)

def AeU : Ka:=(.seq (.reg [P 2 (.box (T 0) 3 27),P 3 (.box (T 1) 1 30),P 4 (.asg (C 0) none),P 5 (.asg (C 0) none),P 6 (.asg (.c (.bool false)) none)] false) (.seq (.seq (.reg [P 9 (.ld 3 true (T 2)),P 10 (.ld 1 true (T 3)),P 11 (.call (.c (.clo 64 [])) [(T 9),(T 10)]),P 12 (.un .not (T 11))] false) (.cond (T 12) (.seq (.reg [P 4 (.asg (C 0) none),P 5 (.asg (C 0) none),P 6 (.asg (.c (.bool false)) none)] false) .ret) .skip)) (.seq (.seq (.reg [P 7 (.asg (C 0) none)] false) (.block 0 (.loop (.seq (.seq (.reg [M 13 7,P 14 (.fldA 2 (T 2)),P 15 (.ld 1 false (T 14)),P 16 (.len false (T 15)),P 17 (.bin .lss (T 13) (T 16))] false) (.cond (T 17) .skip (.exit 0))) (.seq (.block 1 (.seq (.reg [P 20 (.ld 3 true (T 2)),P 21 (.ld 1 true (T 3)),M 22 7,P 23 (.call (.c (.clo 76 [])) [(T 20),(T 21),(T 22)]),⟨(some 8),(.asg (T 23) (some ⟨1,3⟩)),none,[]⟩] false) (.seq (.reg [M 24 8,P 25 (.len false (T 24)),P 26 (.bin .gtr (T 25) (C 0))] false) (.cond (T 26) (.seq (.reg [M 27 7,M 28 8,⟨(some 29),(.ixA 1 (T 28) (C 0)),none,[1]⟩,⟨(some 30),(.ld 1 false (T 29)),none,[2]⟩,⟨(some 4),(.asg (T 27) none),none,[0,0]⟩,⟨(some 5),(.asg (T 30) none),none,[3,4,0,1,2,3,4]⟩,⟨(some 6),(.asg (.c (.bool true)) none),none,[5,0,1,2,3,4,5]⟩] true) .ret) .skip)))) (.reg [M 18 7,P 19 (.bin .add (T 18) (C 1)),P 7 (.asg (T 19) none)] false)))))) (.seq (.reg [P 4 (.asg (C 0) none),P 5 (.asg (C 0) none),P 6 (.asg (.c (.bool false)) none)] false) .ret))))
theorem AhE : (Tryd.f41.body.bind (Kb Tryd.prog Tryd.f41.ntmps)) = some AeU:=by kernel_rfl
theorem AhF : Tryd.f41.results.toList.mapM (Kn Tryd.prog) = some [(.t 4),(.t 5),(.t 6)]:=by kernel_rfl
def UU (a : JO × JR) : List D:=[Kv a.1,KJ a.2]
def UT (ds : List D) : JO × JR:=(LA (ds.getD 0 .top),MA (ds.getD 1 .top))
theorem Zo (a : JO × JR) : UT (UU a) = a:=by simp [UT,UU]
def Aag (b : Int × Int × Bool) : D:=.tup [.int .i64 b.1,.int .i64 b.2.1,.bool b.2.2]
def Aaf (_b : Int × Int × Bool) : List D:=[]
noncomputable def WY : Dw.Spec:=JZ [] .ground UU UT (fun a=>Rr a.1 a.2) Aag Aaf
set_option maxHeartbeats 4000000 in
theorem AbY : JY Tryd.prog 41 WY:=by
 refine Ki (Ke (l:=[(64,Rf),(76,UW)]) (by simp [Zp,Abv])) Tryd.func41 (by decide) AhE AhF (np:=2) (by decide) Zo (fun _=>r) (fun _=>r) (by decide)<|?_
 rintro ⟨f1,l2⟩
 show TrE (specs [(64,Rf),(76,UW)]) AeU (Kp [] .ground [(.t 4),(.t 5),(.t 6)] Aag Aaf) ⟨[(0,.agg [.int .i64 f1.Params,.sl (f1.Slots.map JP),.sl (f1.Code.map JM)]),(1,.agg [.sl (l2.Out.map (eL JJ))])],[],262144⟩ (Rr f1 l2)
 refine Kc<|?_
 unfold AeU Rr
 refine sQ<|rG<|bX r r r r r<|bX r r r r r<|aS r r<|aS r r<|aS r r<|nI<|xS<|sQ<|sQ<|rG<|lO (v:=.agg [.int .i64 f1.Params,.sl (f1.Slots.map JP),.sl (f1.Code.map JM)]) (z:=.agg [.int .i64 f1.Params,.sl (f1.Slots.map JP),.sl (f1.Code.map JM)]) r r r r r r<|lO (v:=.agg [.sl (l2.Out.map (eL JJ))]) (z:=.agg [.sl (l2.Out.map (eL JJ))]) r r r r r r<|bD fun r3 hr3=>cG (f1,l2) r r r VL r r (by simp) r hr3 r<|uN (w:=.bool (!r3)) r r r r trivial<|nI<|xS<|cD (c:=(!r3)) r ?_ ?_
 ·refine sQ<|rG<|aS r r<|aS r r<|aS r r<|nI<|xS<|rT<|xR<|Le (b:=(0,0,false)) r ?_ r r ?_ r (by decide)
  all_goals first|(simp;done)|(simp;omega)|rfl|(simp [JT,JQ];done)
 ·refine sK<|xS<|sQ<|sQ<|rG<|aS r r<|nI<|xS<|bK<|lP (E:=fun (s : Int) (g : Nat × Nat)=>[(2,.optr 2 g.1 0 0),(3,.optr 3 g.2 0 0),(7,.int .i64 s)]) (O:=fun s g=>[(2,some (g.1,⟨false,true,3,27,[.agg [.int .i64 f1.Params,.sl (f1.Slots.map JP),.sl (f1.Code.map JM)]]⟩)),(3,some (g.2,⟨false,true,1,30,[.agg [.sl (l2.Out.map (eL JJ))]]⟩))]) (body:=fun s=>SL f1 l2 s) (s:=0) (_,_) ((hE ⟨rfl,r,r,trivial⟩ ⟨rfl,r,trivial⟩))<|?_
  rintro k4 ⟨v2x1,v3x1⟩ nn
  try dsimp only
  unfold SL
  refine sQ<|sQ<|rG<|mV r r<|fA r r<|lO (v:=.sl (f1.Code.map JM)) (z:=.agg [.int .i64 f1.Params,.sl (f1.Slots.map JP),.sl (f1.Code.map JM)]) r r r r r r<|lS r r<|bN (v:=.bool (decide (k4 < (f1.Code.length : Int)))) r r r r r<|nI<|xS<|cD (c:=(decide (k4 < (f1.Code.length : Int)))) r ?_ ?_
  ·refine sK<|xS<|sQ<|bK<|sQ<|rG<|lO (v:=.agg [.int .i64 f1.Params,.sl (f1.Slots.map JP),.sl (f1.Code.map JM)]) (z:=.agg [.int .i64 f1.Params,.sl (f1.Slots.map JP),.sl (f1.Code.map JM)]) r r r r r r<|lO (v:=.agg [.sl (l2.Out.map (eL JJ))]) (z:=.agg [.sl (l2.Out.map (eL JJ))]) r r r r r r<|mV r r<|bD fun r5 hr5=>cR (l:=r5) (en:=JJ) (f1,l2,k4) r r r Yi r r (by simp) r hr5 r<|aO (l:=r5) (en:=JJ) r r r r<|nI<|xS<|sQ<|rG<|mV r r<|lW r r<|bN (v:=.bool (decide ((r5.length : Int) > 0))) r r r r r<|nI<|xS<|cD (c:=(decide ((r5.length : Int) > 0))) r ?_ ?_
   ·refine sQ<|rG<|mV r r<|mV r r<|cK fun hq=>iO (l:=r5) (en:=JJ) r r r r r hq<|bD fun m_e6 hm_e6=>lO (v:=.int .i64 m_e6) (z:=JJ m_e6) r r r (LR hm_e6) r r<|aS r r<|aS r r<|aS r r<|Kf (by kernel_rfl)<|xS<|rT<|bR<|xR<|lR<|bR<|xR<|Le (b:=(k4,m_e6,true)) r ?_ r r ?_ r (by decide)
    all_goals first|(simp;done)|(simp;omega)|rfl|(simp [JT,JQ];done)
   ·exact sK<|bM<|xS<|rG<|mV r r<|bN (v:=.int .i64 (IntKind.i64.wrap (k4 + 1))) r r r r r<|aS r r<|nI<|xL (s:=IntKind.i64.wrap (k4 + 1)) (_,_) ((hE ⟨rfl,r,r,trivial⟩ ⟨rfl,r,trivial⟩))
  ·refine eT<|xE<|lE<|bH<|xS<|sQ<|rG<|aS r r<|aS r r<|aS r r<|nI<|xS<|rT<|Le (b:=(0,0,false)) r ?_ r r ?_ r (by decide)
   all_goals first|(simp;done)|(simp;omega)|rfl|(simp [JT,JQ];done)

def AeL : Ka:=(.seq (.reg [P 2 (.box (T 0) 3 27),P 3 (.box (T 1) 1 30),P 4 (.asg (C 0) none)] false) (.seq (.seq (.reg [P 9 (.ld 3 true (T 2)),P 10 (.ld 1 true (T 3)),P 11 (.call (.c (.clo 41 [])) [(T 9),(T 10)]),M 8 11,P 12 (.ext (T 8) 0),P 13 (.ext (T 8) 1),P 14 (.ext (T 8) 2),P 5 (.asg (T 12) none),P 6 (.asg (T 13) none),P 7 (.asg (T 14) none)] false) (.seq (.reg [M 15 7,M 16 15,⟨(some 17),(.ld 3 true (T 2)),(some ⟨16,false⟩),[]⟩,⟨(some 18),(.ld 1 true (T 3)),(some ⟨16,false⟩),[]⟩,⟨(some 19),(.call (.c (.clo 64 [])) [(T 17),(T 18)]),(some ⟨16,false⟩),[]⟩,⟨(some 20),(.un .not (T 19)),(some ⟨16,false⟩),[]⟩,P 21 (.pick (T 16) (.c (.bool true)) (T 20))] false) (.cond (T 21) (.seq (.reg [P 4 (.asg (C 11) none)] false) .ret) .skip))) (.seq (.reg [P 4 (.asg (C 0) none)] false) .ret)))
theorem Ahm : (Tryd.f23.body.bind (Kb Tryd.prog Tryd.f23.ntmps)) = some AeL:=by kernel_rfl
theorem Ahn : Tryd.f23.results.toList.mapM (Kn Tryd.prog) = some [(.t 4)]:=by kernel_rfl
def US (a : JO × JR) : List D:=[Kv a.1,KJ a.2]
def UR (ds : List D) : JO × JR:=(LA (ds.getD 0 .top),MA (ds.getD 1 .top))
theorem Zn (a : JO × JR) : UR (US a) = a:=by simp [UR,US]
def Aae (b : Int) : D:=.int .i64 b
def Aad (_b : Int) : List D:=[]
noncomputable def WX : Dw.Spec:=JZ [] .ground US UR (fun a=>Rq a.1 a.2) Aae Aad
set_option maxHeartbeats 4000000 in
theorem AbX : JY Tryd.prog 23 WX:=by
 refine Ki (Ke (l:=[(41,WY),(64,Rf)]) (by simp [AbY,Zp])) Tryd.func23 (by decide) Ahm Ahn (np:=2) (by decide) Zn (fun _=>r) (fun _=>r) (by decide)<|?_
 rintro ⟨f1,l2⟩
 show TrE (specs [(41,WY),(64,Rf)]) AeL (Kp [] .ground [(.t 4)] Aae Aad) ⟨[(0,.agg [.int .i64 f1.Params,.sl (f1.Slots.map JP),.sl (f1.Code.map JM)]),(1,.agg [.sl (l2.Out.map (eL JJ))])],[],262144⟩ (Rq f1 l2)
 refine Kc<|?_
 unfold AeL Rq
 refine sQ<|rG<|bX r r r r r<|bX r r r r r<|aS r r<|nI<|xS<|sQ<|sQ<|rG<|lO (v:=.agg [.int .i64 f1.Params,.sl (f1.Slots.map JP),.sl (f1.Code.map JM)]) (z:=.agg [.int .i64 f1.Params,.sl (f1.Slots.map JP),.sl (f1.Code.map JM)]) r r r r r r<|lO (v:=.agg [.sl (l2.Out.map (eL JJ))]) (z:=.agg [.sl (l2.Out.map (eL JJ))]) r r r r r r<|bD fun r3 hr3=>cG (f1,l2) r r r Zo r r (by simp) r hr3 r<|mV r r<|eX (v:=.int .i64 r3.1) r r r<|eX (v:=.int .i64 r3.2.1) r r r<|eX (v:=.bool r3.2.2) r r r<|aS r r<|aS r r<|aS r r<|nI<|xS<|sQ<|rG<|mV r r<|mV r r<|sP 16 (b:=r3.2.2) r ?_ ?_
 ·refine oF r<|oF r<|oF r<|oF r<|pT r r r r<|nI<|xS<|KT r<|sQ<|rG<|aS r r<|nI<|xS<|rT<|xR<|JX (b:=11) r ?_ r r ?_ r
  all_goals first|(simp;done)|(simp;omega)|rfl|(simp [JT,JQ];done)
 ·refine lO (v:=.agg [.int .i64 f1.Params,.sl (f1.Slots.map JP),.sl (f1.Code.map JM)]) (z:=.agg [.int .i64 f1.Params,.sl (f1.Slots.map JP),.sl (f1.Code.map JM)]) r r r r r r<|lO (v:=.agg [.sl (l2.Out.map (eL JJ))]) (z:=.agg [.sl (l2.Out.map (eL JJ))]) r r r r r r<|bD fun r4 hr4=>cG (f1,l2) r r r VL r r (by simp) r hr4 r<|uN (w:=.bool (!r4)) r r r r trivial<|pF r r r r<|nI<|xS<|cD (c:=(!r4)) r ?_ ?_
  ·refine sQ<|rG<|aS r r<|nI<|xS<|rT<|xR<|JX (b:=11) r ?_ r r ?_ r
   all_goals first|(simp;done)|(simp;omega)|rfl|(simp [JT,JQ];done)
  ·refine sK<|xS<|sQ<|rG<|aS r r<|nI<|xS<|rT<|JX (b:=0) r ?_ r r ?_ r
   all_goals first|(simp;done)|(simp;omega)|rfl|(simp [JT,JQ];done)

def Afz : Ka:=(.seq (.reg [P 3 (.box (T 0) 3 27),P 4 (.box (T 1) 1 30),⟨(some 6),(.asg (.c .nils) (some ⟨1,36⟩)),none,[]⟩,P 7 (.asg (C 0) none)] false) (.seq (.seq (.reg [P 16 (.ld 3 true (T 3)),P 17 (.ld 1 true (T 4)),P 18 (.call (.c (.clo 23 [])) [(T 16),(T 17)]),P 8 (.asg (T 18) none)] false) (.seq (.reg [M 19 8,P 20 (.bin .neq (T 19) (C 0))] false) (.cond (T 20) (.seq (.reg [M 21 8,⟨(some 6),(.asg (.c .nils) (some ⟨1,36⟩)),none,[]⟩,P 7 (.asg (T 21) none)] false) .ret) .skip))) (.seq (.reg [P 22 (.fldA 1 (T 3)),P 23 (.ld 1 false (T 22)),P 24 (.len false (T 23)),P 25 (.mkS 1 36 24 .nils (T 24) (T 24)),⟨(some 9),(.asg (T 25) (some ⟨1,36⟩)),none,[]⟩] false) (.seq (.seq (.reg [P 10 (.asg (C 0) none)] false) (.block 0 (.loop (.seq (.seq (.reg [M 26 10,P 27 (.fldA 2 (T 3)),P 28 (.ld 1 false (T 27)),P 29 (.len false (T 28)),P 30 (.bin .lss (T 26) (T 29))] false) (.cond (T 30) .skip (.exit 0))) (.seq (.block 1 (.seq (.reg [P 33 (.fldA 2 (T 3)),P 34 (.ld 1 false (T 33)),M 35 10,P 36 (.ixA 5 (T 34) (T 35)),P 37 (.ld 5 true (T 36)),P 11 (.new (.agg [(.int .i64 0),(.int .i64 0),(.int .i64 0),(.int .i64 0),(.int .u64 0)]) 5 66),⟨none,(.st 5 (T 11) (T 37)),none,[]⟩] false) (.seq (.reg [P 39 (.ld 5 true (T 11)),P 40 (.call (.c (.clo 62 [])) [(T 39)]),M 38 40,P 41 (.ext (T 38) 0),P 42 (.ext (T 38) 1),P 12 (.asg (T 41) none),P 13 (.asg (T 42) none)] false) (.seq (.seq (.reg [P 43 (.fldA 0 (T 11)),P 44 (.ld 1 false (T 43)),P 45 (.bin .eql (T 44) (C 17)),M 46 45,⟨(some 47),(.fldA 1 (T 11)),(some ⟨46,true⟩),[]⟩,⟨(some 48),(.ld 1 false (T 47)),(some ⟨46,true⟩),[]⟩,⟨(some 49),(.fldA 2 (T 11)),(some ⟨46,true⟩),[]⟩,⟨(some 50),(.ld 1 false (T 49)),(some ⟨46,true⟩),[]⟩,⟨(some 51),(.bin .eql (T 48) (T 50)),(some ⟨46,true⟩),[]⟩,P 52 (.pick (T 46) (T 51) (.c (.bool false)))] false) (.cond (T 52) (.exit 1) .skip)) (.seq (.reg [P 14 (.asg (C 0) none)] false) (.block 2 (.loop (.seq (.seq (.reg [M 53 14,P 54 (.fldA 0 (T 4)),P 55 (.ld 1 false (T 54)),M 56 10,P 57 (.ixA 1 (T 55) (T 56)),P 58 (.ld 1 false (T 57)),P 59 (.len false (T 58)),P 60 (.bin .lss (T 53) (T 59)),M 61 60,⟨(some 62),(.mv (T 13)),(some ⟨61,true⟩),[]⟩,P 63 (.pick (T 61) (T 62) (.c (.bool false)))] false) (.cond (T 63) .skip (.exit 2))) (.seq (.block 3 (.seq (.reg [P 66 (.fldA 0 (T 4)),P 67 (.ld 1 false (T 66)),M 68 10,P 69 (.ixA 1 (T 67) (T 68)),P 70 (.ld 1 false (T 69)),M 71 14,P 72 (.ixA 1 (T 70) (T 71)),P 73 (.ld 1 false (T 72)),P 15 (.asg (T 73) none)] false) (.seq (.seq (.reg [M 74 15,M 75 12,P 76 (.bin .eql (T 74) (T 75)),M 77 76,⟨(some 78),(.mv (T 2)),(some ⟨77,false⟩),[]⟩,⟨(some 79),(.un .not (T 78)),(some ⟨77,false⟩),[]⟩,⟨(some 80),(.mv (T 79)),(some ⟨77,false⟩),[]⟩,⟨(some 81),(.fldA 0 (T 11)),(some ⟨80,true⟩),[]⟩,⟨(some 82),(.ld 1 false (T 81)),(some ⟨80,true⟩),[]⟩,⟨(some 83),(.bin .eql (T 82) (C 17)),(some ⟨80,true⟩),[]⟩,⟨(some 84),(.pick (T 80) (T 83) (.c (.bool false))),(some ⟨77,false⟩),[]⟩,⟨(some 85),(.mv (T 84)),(some ⟨77,false⟩),[]⟩,⟨(some 86),(.fldA 2 (T 11)),(some ⟨85,true⟩),[]⟩,⟨(some 87),(.ld 1 false (T 86)),(some ⟨85,true⟩),[]⟩,⟨(some 88),(.mv (T 15)),(some ⟨85,true⟩),[]⟩,⟨(some 89),(.bin .eql (T 87) (T 88)),(some ⟨85,true⟩),[]⟩,⟨(some 90),(.pick (T 85) (T 89) (.c (.bool false))),(some ⟨77,false⟩),[]⟩,P 91 (.pick (T 77) (.c (.bool true)) (T 90))] false) (.cond (T 91) (.exit 3) .skip)) (.reg [M 92 9,M 93 12,M 94 9,M 95 15,M 96 9,M 97 12,⟨(some 98),(.ixA 1 (T 96) (T 97)),none,[4,5]⟩,⟨(some 99),(.ld 1 false (T 98)),none,[6]⟩,M 100 15,⟨(some 101),(.call (.c (.clo 44 [])) [(T 99),(T 100)]),none,[7,8]⟩,M 102 9,M 103 15,⟨(some 104),(.ixA 1 (T 102) (T 103)),none,[10,11]⟩,⟨(some 105),(.ld 1 false (T 104)),none,[12]⟩,M 106 12,⟨(some 107),(.call (.c (.clo 44 [])) [(T 105),(T 106)]),none,[13,14,9]⟩,⟨(some 108),(.ixA 1 (T 92) (T 93)),none,[0,1,0,1,4,5,6,7,8,9,13,15]⟩,⟨none,(.st 1 (T 108) (T 101)),none,[16,9,15,0,1,4,5,6,7,8,9,13,15]⟩,⟨(some 109),(.ixA 1 (T 94) (T 95)),none,[2,3,0,1,2,3,4,5,6,7,8,9,10,11,12,13,14,15,16,17]⟩,⟨none,(.st 1 (T 109) (T 107)),none,[18,15,17,0,1,2,3,4,5,6,7,8,9,10,11,12,13,14,15,16,17]⟩] true)))) (.reg [M 64 14,P 65 (.bin .add (T 64) (C 1)),P 14 (.asg (T 65) none)] false)))))))))) (.reg [M 31 10,P 32 (.bin .add (T 31) (C 1)),P 10 (.asg (T 32) none)] false)))))) (.seq (.reg [M 110 9,⟨(some 6),(.asg (T 110) (some ⟨1,36⟩)),none,[]⟩,P 7 (.asg (C 0) none)] false) .ret)))))
theorem AiO : (Tryd.f83.body.bind (Kb Tryd.prog Tryd.f83.ntmps)) = some Afz:=by kernel_rfl
theorem AiP : Tryd.f83.results.toList.mapM (Kn Tryd.prog) = some [(.t 6),(.t 7)]:=by kernel_rfl
def Vc (a : JO × JR × Bool) : List D:=[Kv a.1,KJ a.2.1,.bool a.2.2]
def Vb (ds : List D) : JO × JR × Bool:=(LA (ds.getD 0 .top),MA (ds.getD 1 .top),uBo (ds.getD 2 .top))
theorem VN (a : JO × JR × Bool) : Vb (Vc a) = a:=by simp [Vb,Vc,uBo]
def TC (b : (List (List Int)) × Int) : D:=.tup [.sl (b.1.map (eL JJ)),.int .i64 b.2]
def Aal (_b : (List (List Int)) × Int) : List D:=[]
noncomputable def Rg : Dw.Spec:=JZ [] .val Vc Vb (fun a=>PW a.1 a.2.1 a.2.2) TC Aal
set_option maxHeartbeats 4000000 in
theorem Zt : JY Tryd.prog 83 Rg:=by
 refine Ki (Ke (l:=[(23,WX),(62,PH),(44,PU)]) (by simp [AbX,Yb,XY])) Tryd.func83 (by decide) AiO AiP (np:=3) (by decide) VN (fun _=>r) (fun _=>r) (by decide)<|?_
 rintro ⟨f1,l2,strict3⟩
 show TrE (specs [(23,WX),(62,PH),(44,PU)]) Afz (Kp [] .val [(.t 6),(.t 7)] TC Aal) ⟨[(0,.agg [.int .i64 f1.Params,.sl (f1.Slots.map JP),.sl (f1.Code.map JM)]),(1,.agg [.sl (l2.Out.map (eL JJ))]),(2,.bool strict3)],[],262144⟩ (PW f1 l2 strict3)
 refine Kc<|?_
 unfold Afz PW
 refine sQ<|rG<|bX r r r r r<|bX r r r r r<|aN (α:=(List Int)) r (eL JJ) r<|aS r r<|nI<|xS<|sQ<|sQ<|rG<|lO (v:=.agg [.int .i64 f1.Params,.sl (f1.Slots.map JP),.sl (f1.Code.map JM)]) (z:=.agg [.int .i64 f1.Params,.sl (f1.Slots.map JP),.sl (f1.Code.map JM)]) r r r r r r<|lO (v:=.agg [.sl (l2.Out.map (eL JJ))]) (z:=.agg [.sl (l2.Out.map (eL JJ))]) r r r r r r<|bD fun r4 hr4=>cG (f1,l2) r r r Zn r r (by simp) r hr4 r<|aS r r<|nI<|xS<|sQ<|rG<|mV r r<|bN (v:=.bool (r4 != 0)) r r r r r<|nI<|xS<|cD (c:=(r4 != 0)) r ?_ ?_
 ·refine sQ<|rG<|mV r r<|aN (α:=(List Int)) r (eL JJ) r<|aS r r<|nI<|xS<|rT<|xR<|LC (b:=(([] : List (List Int)),r4)) r ?_ r r ?_ (by first | rfl | (simp only [Kg,Kk]; rfl) | simp [TC]) (by decide)
  all_goals first|(simp;done)|(simp;omega)|rfl|(simp [JT,JQ];done)
 ·refine sK<|xS<|sQ<|rG<|fA r r<|lO (v:=.sl (f1.Slots.map JP)) (z:=.agg [.int .i64 f1.Params,.sl (f1.Slots.map JP),.sl (f1.Code.map JM)]) r r r r r r<|lS r r<|cK fun hq=>Ry (α:=Int) r r r hq r<|aO (l:=List.replicate (f1.Slots.length : Int).toNat ([] : (List Int))) (en:=(fun _=>D.nils)) r r r r<|nI<|Ll (E:=[(2,.bool strict3),(3,.optr 3 _ 0 0),(4,.optr 4 _ 0 0),(9,.osl 9 _ 0 ((List.replicate (f1.Slots.length : Int).toNat ([] : (List Int))).length))]) (O:=[(3,some (_,⟨false,true,3,27,[.agg [.int .i64 f1.Params,.sl (f1.Slots.map JP),.sl (f1.Code.map JM)]]⟩)),(4,some (_,⟨false,true,1,30,[.agg [.sl (l2.Out.map (eL JJ))]]⟩)),(9,some (_,⟨false,false,1,36,(List.replicate (f1.Slots.length : Int).toNat ([] : (List Int))).map (eL JJ)⟩))]) ((Aax (g:=9) r (Abu (l:=List.replicate (f1.Slots.length : Int).toNat ([] : (List Int))) JJ (fun _ h=>List.eq_of_mem_replicate h)) (hE ⟨rfl,r,r,r,trivial⟩ ⟨rfl,r,r,trivial⟩))) fun nn=>sQ<|sQ<|rG<|aS r r<|nI<|xS<|bK<|lP (E:=fun (s : (List (List Int)) × Int) (g : Nat × Nat × Nat)=>[(2,.bool strict3),(3,.optr 3 g.1 0 0),(4,.optr 4 g.2.1 0 0),(9,.osl 9 g.2.2 0 s.1.length),(10,.int .i64 s.2)]) (O:=fun s g=>[(3,some (g.1,⟨false,true,3,27,[.agg [.int .i64 f1.Params,.sl (f1.Slots.map JP),.sl (f1.Code.map JM)]]⟩)),(4,some (g.2.1,⟨false,true,1,30,[.agg [.sl (l2.Out.map (eL JJ))]]⟩)),(9,some (g.2.2,⟨false,false,1,36,s.1.map (eL JJ)⟩))]) (body:=fun s=>SN f1 l2 strict3 s.1 s.2) (s:=(List.replicate (f1.Slots.length : Int).toNat ([] : (List Int)),0)) (_,_,_) ((hE ⟨rfl,r,r,r,r,trivial⟩ ⟨rfl,r,r,trivial⟩))<|?_
  rintro ⟨out5,k6⟩ ⟨v3x1,v4x1,v9x1⟩ nn
  try dsimp only
  unfold SN
  refine sQ<|sQ<|rG<|mV r r<|fA r r<|lO (v:=.sl (f1.Code.map JM)) (z:=.agg [.int .i64 f1.Params,.sl (f1.Slots.map JP),.sl (f1.Code.map JM)]) r r r r r r<|lS r r<|bN (v:=.bool (decide (k6 < (f1.Code.length : Int)))) r r r r r<|nI<|xS<|cD (c:=(decide (k6 < (f1.Code.length : Int)))) r ?_ ?_
  ·refine sK<|xS<|bC (E:=fun (s : Int × Int × Int × Int × Int × (List (List Int))) (g : Nat × Nat × Nat)=>[(2,.bool strict3),(3,.optr 3 g.1 0 0),(4,.optr 4 g.2.1 0 0),(9,.osl 9 g.2.2 0 s.2.2.2.2.2.length),(10,.int .i64 k6)]) (O:=fun s g=>[(3,some (g.1,⟨false,true,3,27,[.agg [.int .i64 f1.Params,.sl (f1.Slots.map JP),.sl (f1.Code.map JM)]]⟩)),(4,some (g.2.1,⟨false,true,1,30,[.agg [.sl (l2.Out.map (eL JJ))]]⟩)),(9,some (g.2.2,⟨false,false,1,36,s.2.2.2.2.2.map (eL JJ)⟩))]) (j:=fun s=>NI k6 s.1 s.2.1 s.2.2.1 s.2.2.2.1 s.2.2.2.2.1 s.2.2.2.2.2) ?_ ?_
   ·refine sQ<|rG<|fA r r<|lO (v:=.sl (f1.Code.map JM)) (z:=.agg [.int .i64 f1.Params,.sl (f1.Slots.map JP),.sl (f1.Code.map JM)]) r r r r r r<|mV r r<|bD fun x_x13 hx_x13=>iS (en:=JM) r r r hx_x13 r<|lF (v:=.agg [.int .i64 x_x13.Op,.int .i64 x_x13.A,.int .i64 x_x13.B,.int .i64 x_x13.C,.int .u64 x_x13.Imm]) r r r r<|nW r<|sV (z':=.agg [.int .i64 x_x13.Op,.int .i64 x_x13.A,.int .i64 x_x13.B,.int .i64 x_x13.C,.int .u64 x_x13.Imm]) r r r r r r r r r<|nI<|xS<|sQ<|rG<|lO (v:=.agg [.int .i64 x_x13.Op,.int .i64 x_x13.A,.int .i64 x_x13.B,.int .i64 x_x13.C,.int .u64 x_x13.Imm]) (z:=.agg [.int .i64 x_x13.Op,.int .i64 x_x13.A,.int .i64 x_x13.B,.int .i64 x_x13.C,.int .u64 x_x13.Imm]) r r r r r r<|bD fun r14 hr14=>cG x_x13 r r r TP r r (by simp) r hr14 r<|mV r r<|eX (v:=.int .i64 r14.1) r r r<|eX (v:=.bool r14.2) r r r<|aS r r<|aS r r<|nI<|xS<|sC (E:=fun (s : Unit) (g : Nat × Nat × Nat × Nat)=>[(2,.bool strict3),(3,.optr 3 g.1 0 0),(4,.optr 4 g.2.1 0 0),(9,.osl 9 g.2.2.1 0 out5.length),(10,.int .i64 k6),(11,.optr 11 g.2.2.2 0 0),(12,.int .i64 r14.1),(13,.bool r14.2)]) (O:=fun s g=>[(3,some (g.1,⟨false,true,3,27,[.agg [.int .i64 f1.Params,.sl (f1.Slots.map JP),.sl (f1.Code.map JM)]]⟩)),(4,some (g.2.1,⟨false,true,1,30,[.agg [.sl (l2.Out.map (eL JJ))]]⟩)),(9,some (g.2.2.1,⟨false,false,1,36,out5.map (eL JJ)⟩)),(11,some (g.2.2.2,⟨false,true,5,66,[.agg [.int .i64 x_x13.Op,.int .i64 x_x13.A,.int .i64 x_x13.B,.int .i64 x_x13.C,.int .u64 x_x13.Imm]]⟩))]) (j:=fun s=>OP l2 k6 r14 strict3 x_x13 out5) ?_ ?_
    ·refine sQ<|rG<|fA r r<|lO (v:=.int .i64 x_x13.Op) (z:=.agg [.int .i64 x_x13.Op,.int .i64 x_x13.A,.int .i64 x_x13.B,.int .i64 x_x13.C,.int .u64 x_x13.Imm]) r r r r r r<|bN (v:=.bool (x_x13.Op == 17)) r r r r r<|mV r r<|sP 46 (b:=(x_x13.Op == 17)) r ?_ ?_
     ·refine fA r r<|lO (v:=.int .i64 x_x13.A) (z:=.agg [.int .i64 x_x13.Op,.int .i64 x_x13.A,.int .i64 x_x13.B,.int .i64 x_x13.C,.int .u64 x_x13.Imm]) r r r r r r<|fA r r<|lO (v:=.int .i64 x_x13.B) (z:=.agg [.int .i64 x_x13.Op,.int .i64 x_x13.A,.int .i64 x_x13.B,.int .i64 x_x13.C,.int .u64 x_x13.Imm]) r r r r r r<|bN (v:=.bool (x_x13.A == x_x13.B)) r r r r r<|pT r r r r<|nI<|xS<|cD (c:=(x_x13.A == x_x13.B)) r ?_ ?_
      ·exact eT<|Ma<|Aam (s:=(x_x13.Op,x_x13.A,x_x13.B,x_x13.C,x_x13.Imm,out5)) (_,_,_) ((hE ⟨rfl,r,r,r,r,trivial⟩ ⟨rfl,r,r,trivial⟩))
      ·exact sK<|xC (s:=()) (_,_,_,_) ((hE ⟨rfl,r,r,r,r,r,r,r,trivial⟩ ⟨rfl,r,r,r,trivial⟩))
     ·exact oF r<|oF r<|oF r<|oF r<|oF r<|pF r r r r<|nI<|xS<|Lf r<|sK<|xC (s:=()) (_,_,_,_) ((hE ⟨rfl,r,r,r,r,r,r,r,trivial⟩ ⟨rfl,r,r,r,trivial⟩))
    ·rintro ⟨⟩ ⟨v3x2,v4x2,v9x2,v11x2⟩ nn
     try dsimp only
     unfold OP
     refine sQ<|rG<|aS r r<|nI<|xS<|bK<|lP (E:=fun (s : (List (List Int)) × Int) (g : Nat × Nat × Nat × Nat)=>[(2,.bool strict3),(3,.optr 3 g.1 0 0),(4,.optr 4 g.2.1 0 0),(9,.osl 9 g.2.2.1 0 s.1.length),(10,.int .i64 k6),(11,.optr 11 g.2.2.2 0 0),(12,.int .i64 r14.1),(13,.bool r14.2),(14,.int .i64 s.2)]) (O:=fun s g=>[(3,some (g.1,⟨false,true,3,27,[.agg [.int .i64 f1.Params,.sl (f1.Slots.map JP),.sl (f1.Code.map JM)]]⟩)),(4,some (g.2.1,⟨false,true,1,30,[.agg [.sl (l2.Out.map (eL JJ))]]⟩)),(9,some (g.2.2.1,⟨false,false,1,36,s.1.map (eL JJ)⟩)),(11,some (g.2.2.2,⟨false,true,5,66,[.agg [.int .i64 x_x13.Op,.int .i64 x_x13.A,.int .i64 x_x13.B,.int .i64 x_x13.C,.int .u64 x_x13.Imm]]⟩))]) (body:=fun s=>Qw l2 k6 r14 strict3 x_x13 s.1 s.2) (s:=(out5,0)) (_,_,_,_) ((hE ⟨rfl,r,r,r,r,r,r,r,r,trivial⟩ ⟨rfl,r,r,r,trivial⟩))<|?_
     rintro ⟨out15,i16⟩ ⟨v3x3,v4x3,v9x3,v11x3⟩ nn
     try dsimp only
     unfold Qw
     refine sC (E:=fun (s : Unit) (g : Nat × Nat × Nat × Nat)=>[(2,.bool strict3),(3,.optr 3 g.1 0 0),(4,.optr 4 g.2.1 0 0),(9,.osl 9 g.2.2.1 0 out15.length),(10,.int .i64 k6),(11,.optr 11 g.2.2.2 0 0),(12,.int .i64 r14.1),(13,.bool r14.2),(14,.int .i64 i16),(62,.bool r14.2)]) (O:=fun s g=>[(3,some (g.1,⟨false,true,3,27,[.agg [.int .i64 f1.Params,.sl (f1.Slots.map JP),.sl (f1.Code.map JM)]]⟩)),(4,some (g.2.1,⟨false,true,1,30,[.agg [.sl (l2.Out.map (eL JJ))]]⟩)),(9,some (g.2.2.1,⟨false,false,1,36,out15.map (eL JJ)⟩)),(11,some (g.2.2.2,⟨false,true,5,66,[.agg [.int .i64 x_x13.Op,.int .i64 x_x13.A,.int .i64 x_x13.B,.int .i64 x_x13.C,.int .u64 x_x13.Imm]]⟩))]) (j:=fun s=>SO l2 k6 i16 r14 out15 strict3 x_x13) ?_ ?_
     ·refine sQ<|rG<|mV r r<|fA r r<|lO (v:=.sl (l2.Out.map (eL JJ))) (z:=.agg [.sl (l2.Out.map (eL JJ))]) r r r r r r<|mV r r<|bD fun x_x17 hx_x17=>iS (en:=(eL JJ)) r r r hx_x17 r<|lF (v:=.sl (x_x17.map JJ)) r r r r<|lS r r<|bN (v:=.bool (decide (i16 < (x_x17.length : Int)))) r r r r r<|mV r r<|sP 61 (b:=(decide (i16 < (x_x17.length : Int)))) r ?_ ?_
      ·refine mV r r<|pT r r r r<|nI<|xS<|cD (c:=r14.2) r ?_ ?_
       ·exact sK<|xC (s:=()) (_,_,_,_) ((hE ⟨rfl,r,r,r,r,r,r,r,r,r,trivial⟩ ⟨rfl,r,r,r,trivial⟩))
       ·exact eT<|Ma<|lE<|bH<|Ot (s:=(x_x13.Op,x_x13.A,x_x13.B,x_x13.C,x_x13.Imm,out15)) (_,_,_) ((hE ⟨rfl,r,r,r,r,trivial⟩ ⟨rfl,r,r,trivial⟩))
      ·exact oF r<|pF r r r r<|nI<|xS<|Lf r<|eT<|Ma<|lE<|bH<|Ot (s:=(x_x13.Op,x_x13.A,x_x13.B,x_x13.C,x_x13.Imm,out15)) (_,_,_) ((hE ⟨rfl,r,r,r,r,trivial⟩ ⟨rfl,r,r,trivial⟩))
     ·rintro ⟨⟩ ⟨v3x4,v4x4,v9x4,v11x4⟩ nn
      try dsimp only
      unfold SO
      refine sQ<|bK<|sQ<|rG<|fA r r<|lO (v:=.sl (l2.Out.map (eL JJ))) (z:=.agg [.sl (l2.Out.map (eL JJ))]) r r r r r r<|mV r r<|bD fun x_x18 hx_x18=>iS (en:=(eL JJ)) r r r hx_x18 r<|lF (v:=.sl (x_x18.map JJ)) r r r r<|mV r r<|bD fun x_x19 hx_x19=>iS (en:=JJ) r r r hx_x19 r<|lF (v:=.int .i64 x_x19) r r r r<|aS r r<|nI<|xS<|sC (E:=fun (s : Bool × Bool × Bool × Bool) (g : Nat × Nat × Nat × Nat)=>[(2,.bool strict3),(3,.optr 3 g.1 0 0),(4,.optr 4 g.2.1 0 0),(9,.osl 9 g.2.2.1 0 out15.length),(10,.int .i64 k6),(11,.optr 11 g.2.2.2 0 0),(12,.int .i64 r14.1),(13,.bool r14.2),(14,.int .i64 i16),(15,.int .i64 x_x19),(62,.bool r14.2),(78,.bool strict3),(79,.bool (!strict3)),(80,.bool s.1),(84,.bool s.2.1),(85,.bool s.2.2.1),(90,.bool s.2.2.2)]) (O:=fun s g=>[(3,some (g.1,⟨false,true,3,27,[.agg [.int .i64 f1.Params,.sl (f1.Slots.map JP),.sl (f1.Code.map JM)]]⟩)),(4,some (g.2.1,⟨false,true,1,30,[.agg [.sl (l2.Out.map (eL JJ))]]⟩)),(9,some (g.2.2.1,⟨false,false,1,36,out15.map (eL JJ)⟩)),(11,some (g.2.2.2,⟨false,true,5,66,[.agg [.int .i64 x_x13.Op,.int .i64 x_x13.A,.int .i64 x_x13.B,.int .i64 x_x13.C,.int .u64 x_x13.Imm]]⟩))]) (j:=fun s=>MQ r14 out15 x_x19 i16 s.1 s.2.1 s.2.2.1 s.2.2.2) ?_ ?_
      ·refine sQ<|rG<|mV r r<|mV r r<|bN (v:=.bool (x_x19 == r14.1)) r r r r r<|mV r r<|sP 77 (b:=(x_x19 == r14.1)) r ?_ ?_
       ·exact oF r<|oF r<|oF r<|oF r<|oF r<|oF r<|oF r<|oF r<|oF r<|oF r<|oF r<|oF r<|oF r<|pT r r r r<|nI<|xS<|KT r<|eT<|Ma<|bH<|xS<|rG<|mV r r<|bN (v:=.int .i64 (IntKind.i64.wrap (i16 + 1))) r r r r r<|aS r r<|nI<|xL (s:=(out15,IntKind.i64.wrap (i16 + 1))) (_,_,_,_) ((hE ⟨rfl,r,r,r,r,r,r,r,r,trivial⟩ ⟨rfl,r,r,r,trivial⟩))
       ·refine mV r r<|uN (w:=.bool (!strict3)) r r r r trivial<|mV r r<|sP 80 (b:=(!strict3)) r ?_ ?_
        ·refine fA r r<|lO (v:=.int .i64 x_x13.Op) (z:=.agg [.int .i64 x_x13.Op,.int .i64 x_x13.A,.int .i64 x_x13.B,.int .i64 x_x13.C,.int .u64 x_x13.Imm]) r r r r r r<|bN (v:=.bool (x_x13.Op == 17)) r r r r r<|pT r r r r<|mV r r<|sP 85 (b:=(x_x13.Op == 17)) r ?_ ?_
         ·refine fA r r<|lO (v:=.int .i64 x_x13.B) (z:=.agg [.int .i64 x_x13.Op,.int .i64 x_x13.A,.int .i64 x_x13.B,.int .i64 x_x13.C,.int .u64 x_x13.Imm]) r r r r r r<|mV r r<|bN (v:=.bool (x_x13.B == x_x19)) r r r r r<|pT r r r r<|pF r r r r<|nI<|xS<|cD (c:=(x_x13.B == x_x19)) r ?_ ?_
          ·exact eT<|Ma<|bH<|xS<|rG<|mV r r<|bN (v:=.int .i64 (IntKind.i64.wrap (i16 + 1))) r r r r r<|aS r r<|nI<|xL (s:=(out15,IntKind.i64.wrap (i16 + 1))) (_,_,_,_) ((hE ⟨rfl,r,r,r,r,r,r,r,r,trivial⟩ ⟨rfl,r,r,r,trivial⟩))
          ·exact sK<|xC (s:=(true,(x_x13.Op == 17),true,(x_x13.B == x_x19))) (_,_,_,_) ((hE ⟨rfl,r,r,r,r,r,r,r,r,r,r,r,r,r,r,r,r,trivial⟩ ⟨rfl,r,r,r,trivial⟩))
         ·exact oF r<|oF r<|oF r<|oF r<|pF r r r r<|pF r r r r<|nI<|xS<|Lf r<|sK<|xC (s:=(true,(x_x13.Op == 17),false,false)) (_,_,_,_) ((hE ⟨rfl,r,r,r,r,r,r,r,r,r,r,r,r,r,r,r,r,trivial⟩ ⟨rfl,r,r,r,trivial⟩))
        ·exact oF r<|oF r<|oF r<|pF r r r r<|mV r r<|oF r<|oF r<|oF r<|oF r<|pF r r r r<|pF r r r r<|nI<|xS<|Lf r<|sK<|xC (s:=(false,false,false,false)) (_,_,_,_) ((hE ⟨rfl,r,r,r,r,r,r,r,r,r,r,r,r,r,r,r,r,trivial⟩ ⟨rfl,r,r,r,trivial⟩))
      ·rintro ⟨x20,x21,x22,x23⟩ ⟨v3x5,v4x5,v9x5,v11x5⟩ nn
       try dsimp only
       unfold MQ
       exact rG<|mV r r<|mV r r<|mV r r<|mV r r<|mV r r<|mV r r<|cK fun hq=>iO (l:=out15) (en:=(eL JJ)) r r r r r hq<|bD fun out_e24 hout_e24=>lO (v:=.sl (out_e24.map JJ)) (z:=(eL JJ) out_e24) r r r (LR hout_e24) r r<|mV r r<|bD fun r25 hr25=>cR (l:=r25) (en:=JJ) (out_e24,x_x19) r r r Qs r r (by simp) r hr25 r<|mV r r<|mV r r<|cK fun hq=>iO (l:=out15) (en:=(eL JJ)) r r r r r hq<|bD fun out_e26 hout_e26=>lO (v:=.sl (out_e26.map JJ)) (z:=(eL JJ) out_e26) r r r (LR hout_e26) r r<|mV r r<|bD fun r27 hr27=>cR (l:=r27) (en:=JJ) (out_e26,r14.1) r r r Qs r r (by simp) r hr27 r<|cK fun hq=>iO (l:=out15) (en:=(eL JJ)) r r r r r hq<|bD fun out_o28 hout_o28=>sE (l:=out15) (en:=(eL JJ)) (q':=r25) r r r r r r r (by simp) hout_o28 r r r (by simp [Lb,cells,setAt,eL]) r<|cK fun hq=>iO (l:=out15.set r14.1.toNat r25) (en:=(eL JJ)) (by simp) r r r r hq<|bD fun out_o29 hout_o29=>sE (l:=out15.set r14.1.toNat r25) (en:=(eL JJ)) (q':=r27) r r r r r r r (by simp) hout_o29 r r r (by simp [Lb,cells,setAt,eL]) r<|Kf (by kernel_rfl)<|bM<|xS<|rG<|mV r r<|bN (v:=.int .i64 (IntKind.i64.wrap (i16 + 1))) r r r r r<|aS r r<|nI<|xL (s:=((out15.set r14.1.toNat r25).set x_x19.toNat r27,IntKind.i64.wrap (i16 + 1))) (_,_,_,_) ((hE ⟨rfl,r,r,(Rm (q:=out15.length) r (by simp)),r,r,r,r,r,trivial⟩ ⟨rfl,r,r,r,trivial⟩))
   ·rintro ⟨x7,x8,x9,x10,x11,out12⟩ ⟨v3x6,v4x6,v9x6⟩ nn
    try dsimp only
    unfold NI
    exact rG<|mV r r<|bN (v:=.int .i64 (IntKind.i64.wrap (k6 + 1))) r r r r r<|aS r r<|nI<|xL (s:=(out12,IntKind.i64.wrap (k6 + 1))) (_,_,_) ((hE ⟨rfl,r,r,r,r,trivial⟩ ⟨rfl,r,r,trivial⟩))
  ·refine eT<|xE<|lE<|bH<|xS<|sQ<|rG<|mV r r<|aO (l:=out5) (en:=(eL JJ)) r r r r<|aS r r<|nI<|xS<|rT<|LC (b:=(out5,0)) r ?_ r r ?_ (by first | rfl | (simp only [Kg,Kk]; rfl) | simp [TC]) (by decide)
   all_goals first|(simp;done)|(simp;omega)|rfl|(simp [JT,JQ];done)

def AeZ : Ka:=(.seq (.reg [P 2 (.box (T 0) 3 27),P 3 (.box (T 1) 1 30),⟨(some 4),(.asg (.c .nils) (some ⟨1,36⟩)),none,[]⟩,P 5 (.asg (C 0) none)] false) (.seq (.reg [P 6 (.ld 3 true (T 2)),P 7 (.ld 1 true (T 3)),P 8 (.call (.c (.clo 83 [])) [(T 6),(T 7),(.c (.bool false))]),P 9 (.ext (T 8) 0),P 10 (.ext (T 8) 1),⟨(some 4),(.asg (T 9) (some ⟨1,36⟩)),none,[]⟩,P 5 (.asg (T 10) none)] false) .ret))
theorem AhO : (Tryd.f48.body.bind (Kb Tryd.prog Tryd.f48.ntmps)) = some AeZ:=by kernel_rfl
theorem AhP : Tryd.f48.results.toList.mapM (Kn Tryd.prog) = some [(.t 4),(.t 5)]:=by kernel_rfl
def Va (a : JO × JR) : List D:=[Kv a.1,KJ a.2]
def UZ (ds : List D) : JO × JR:=(LA (ds.getD 0 .top),MA (ds.getD 1 .top))
theorem Zq (a : JO × JR) : UZ (Va a) = a:=by simp [UZ,Va]
def Aak (b : (List (List Int)) × Int) : D:=.tup [.sl (b.1.map (eL JJ)),.int .i64 b.2]
def Aaj (_b : (List (List Int)) × Int) : List D:=[]
noncomputable def WZ : Dw.Spec:=JZ [] .val Va UZ (fun a=>Tw a.1 a.2) Aak Aaj
set_option maxHeartbeats 4000000 in
theorem AbZ : JY Tryd.prog 48 WZ:=by
 refine Ki (Ke (l:=[(83,Rg)]) (by simp [Zt])) Tryd.func48 (by decide) AhO AhP (np:=2) (by decide) Zq (fun _=>r) (fun _=>r) (by decide)<|?_
 rintro ⟨f1,l2⟩
 show TrE (specs [(83,Rg)]) AeZ (Kp [] .val [(.t 4),(.t 5)] Aak Aaj) ⟨[(0,.agg [.int .i64 f1.Params,.sl (f1.Slots.map JP),.sl (f1.Code.map JM)]),(1,.agg [.sl (l2.Out.map (eL JJ))])],[],262144⟩ (Tw f1 l2)
 refine Kc<|?_
 unfold AeZ Tw
 refine sQ<|rG<|bX r r r r r<|bX r r r r r<|aN (α:=(List Int)) r (eL JJ) r<|aS r r<|nI<|xS<|sQ<|rG<|lO (v:=.agg [.int .i64 f1.Params,.sl (f1.Slots.map JP),.sl (f1.Code.map JM)]) (z:=.agg [.int .i64 f1.Params,.sl (f1.Slots.map JP),.sl (f1.Code.map JM)]) r r r r r r<|lO (v:=.agg [.sl (l2.Out.map (eL JJ))]) (z:=.agg [.sl (l2.Out.map (eL JJ))]) r r r r r r<|bD fun r3 hr3=>cV (f1,l2,false) r r r VN r r (by simp) r hr3<|eX (v:=.sl (r3.1.map (eL JJ))) r r r<|eX (v:=.int .i64 r3.2) r r r<|aL r r<|aS r r<|nI<|xS<|rT<|LC (b:=(r3.1,r3.2)) r ?_ r r ?_ r (by decide)
 all_goals first|(simp;done)|(simp;omega)|rfl|(simp [JT,JQ];done)

def AfA : Ka:=(.seq (.reg [P 2 (.box (T 0) 5 66),P 4 (.asg (.c (.bool false)) none)] false) (.seq (.reg [P 4 (.asg (.c (.bool false)) none)] false) .ret))
theorem AiQ : (Tryd.f84.body.bind (Kb Tryd.prog Tryd.f84.ntmps)) = some AfA:=by kernel_rfl
theorem AiR : Tryd.f84.results.toList.mapM (Kn Tryd.prog) = some [(.t 4)]:=by kernel_rfl
def PT (a : JL × Int) : List D:=[JM a.1,.int .i64 a.2]
def PS (ds : List D) : JL × Int:=(QB (ds.getD 0 .top),uI (ds.getD 1 .top))
theorem Uh (a : JL × Int) : PS (PT a) = a:=by simp [PS,PT,uI]
def UC (b : Bool) : D:=.bool b
def UB (_b : Bool) : List D:=[]
noncomputable def QO : Dw.Spec:=JZ [] .ground PT PS (fun a=>NT a.1 a.2) UC UB
set_option maxHeartbeats 4000000 in
theorem Zf : JY Tryd.prog 84 QO:=by
 refine Ki (KI) Tryd.func84 (by decide) AiQ AiR (np:=2) (by decide) Uh (fun _=>r) (fun _=>r) (by decide)<|?_
 rintro ⟨p1,p2⟩
 show TrE (specs []) AfA (Kp [] .ground [(.t 4)] UC UB) ⟨[(0,.agg [.int .i64 p1.Op,.int .i64 p1.A,.int .i64 p1.B,.int .i64 p1.C,.int .u64 p1.Imm]),(1,.int .i64 p2)],[],262144⟩ (NT p1 p2)
 refine Kc<|?_
 unfold AfA NT
 refine sQ<|rG<|bX r r r r r<|aS r r<|nI<|xS<|sQ<|rG<|aS r r<|nI<|xS<|rT<|JX (b:=false) r ?_ r r ?_ r
 all_goals first|(simp;done)|(simp;omega)|rfl|(simp [JT,JQ];done)

def NF (a : JO × JR) : List D:=[Kv a.1,KJ a.2,.clo 84 []]
def ND (ds : List D) : JO × JR:=(LA (ds.getD 0 .top),MA (ds.getD 1 .top))
theorem QE (a : JO × JR) : ND (NF a) = a:=by simp [ND,NF]
def Ow (b : (List (List Int)) × Int) : D:=.tup [.sl (b.1.map (eL JJ)),.int .i64 b.2]
def Re (_b : (List (List Int)) × Int) : List D:=[]
noncomputable def Mz : Dw.Spec:=JZ [] .val NF ND (fun a=>LX a.1 a.2) Ow Re
noncomputable def Np : Dw.Spec:=Jg (specs []) 1 [(.t 2)] AbA
theorem UD : JY Tryd.prog 106 Np:=Jz (KI) Tryd.func106 (by decide) Ads Adt (by decide)
set_option maxHeartbeats 4000000 in
theorem Wu : JY Tryd.prog 81 Mz:=by
 refine Ki (Ke (l:=[(22,OE),(106,Np),(100,MC),(84,QO),(107,Mi)]) (by simp [Wv,UD,Tg,Zf,Sq])) Tryd.func81 (by decide) Aee Aef (np:=3) (by decide) QE (fun _=>r) (fun _=>r) (by decide)<|?_
 rintro ⟨f1,l2⟩
 show TrE (specs [(22,OE),(106,Np),(100,MC),(84,QO),(107,Mi)]) AcJ (Kp [] .val [(.t 6),(.t 7)] Ow Re) ⟨[(0,.agg [.int .i64 f1.Params,.sl (f1.Slots.map JP),.sl (f1.Code.map JM)]),(1,.agg [.sl (l2.Out.map (eL JJ))]),(2,.clo 84 [])],[],262144⟩ (LX f1 l2)
 refine Kc<|?_
 unfold AcJ LX
 refine sQ<|rG<|bX r r r r r<|bX r r r r r<|aN (α:=(List Int)) r (eL JJ) r<|aS r r<|nI<|xS<|sQ<|sQ<|rG<|lO (v:=.agg [.int .i64 f1.Params,.sl (f1.Slots.map JP),.sl (f1.Code.map JM)]) (z:=.agg [.int .i64 f1.Params,.sl (f1.Slots.map JP),.sl (f1.Code.map JM)]) r r r r r r<|lO (v:=.agg [.sl (l2.Out.map (eL JJ))]) (z:=.agg [.sl (l2.Out.map (eL JJ))]) r r r r r r<|bD fun r3 hr3=>cG (f1,l2) r r r Sr r r (by simp) r hr3 r<|aS r r<|nI<|xS<|sQ<|rG<|mV r r<|bN (v:=.bool (r3 != 0)) r r r r r<|nI<|xS<|cD (c:=(r3 != 0)) r ?_ ?_
 ·refine sQ<|rG<|mV r r<|aN (α:=(List Int)) r (eL JJ) r<|aS r r<|nI<|xS<|rT<|xR<|LC (b:=(([] : List (List Int)),r3)) r ?_ r r ?_ (by first | rfl | (simp only [Kg,Kk]; rfl) | simp [Ow]) (by decide)
  all_goals first|(simp;done)|(simp;omega)|rfl|(simp [JT,JQ];done)
 ·refine sK<|xS<|sQ<|rG<|fA r r<|lO (v:=.sl (f1.Slots.map JP)) (z:=.agg [.int .i64 f1.Params,.sl (f1.Slots.map JP),.sl (f1.Code.map JM)]) r r r r r r<|lS r r<|JF (E:=fun (g : Nat × Nat)=>[(2,.clo 84 []),(3,.optr 1003 g.1 0 0),(4,.optr 1004 g.2 0 0),(24,.int .i64 (f1.Slots.length : Int))]) (O:=fun g=>[(1003,some (g.1,⟨false,true,3,27,[.agg [.int .i64 f1.Params,.sl (f1.Slots.map JP),.sl (f1.Code.map JM)]]⟩)),(1004,some (g.2,⟨false,true,1,30,[.agg [.sl (l2.Out.map (eL JJ))]]⟩))]) (_,_) ((Jx (fun g=>bif Nat.ble 4096 g then g + 20000 else g + 1000) (by rfl) (hE ⟨rfl,r,r,r,trivial⟩ ⟨rfl,r,trivial⟩)))<|?_
  rintro ⟨v1003x1,v1004x1⟩ nn
  try dsimp only
  refine JD (ES:=fun (s : (List (List Bool))) (g : Nat × Nat × Nat)=>[(2,.clo 84 []),(3,.optr 3 g.1 0 0),(4,.optr 4 g.2.1 0 0),(25,.osl 4697 g.2.2 0 s.length)]) (OS:=fun s g=>[(3,some (g.1,⟨false,true,3,27,[.agg [.int .i64 f1.Params,.sl (f1.Slots.map JP),.sl (f1.Code.map JM)]]⟩)),(4,some (g.2.1,⟨false,true,1,30,[.agg [.sl (l2.Out.map (eL JJ))]]⟩)),(4697,some (g.2.2,⟨false,false,1,81,s.map (eR 1 4 D.bool)⟩))]) (j:=fun s=>Lr f1 l2 s) (ds:=[.int .i64 (f1.Slots.length : Int)]) (caps:=[]) (E:=[(0,.int .i64 (f1.Slots.length : Int))]) r r r r r r r r ?_ ?_
  ·unfold AbA
   refine sQ<|rG<|aN (α:=(List Bool)) r (eL D.bool) r<|nI<|xS<|sQ<|rG<|mV r r<|cK fun hq=>Ry (α:=Bool) r r r hq r<|aO (l:=List.replicate (f1.Slots.length : Int).toNat ([] : (List Bool))) (en:=(fun _=>D.nils)) r r r r<|nI<|Ll (E:=[(0,.int .i64 (f1.Slots.length : Int)),(3,.osl 4099 _ 0 ((List.replicate (f1.Slots.length : Int).toNat ([] : (List Bool))).length))]) (O:=[(1003,some (v1003x1,⟨false,true,3,27,[.agg [.int .i64 f1.Params,.sl (f1.Slots.map JP),.sl (f1.Code.map JM)]]⟩)),(1004,some (v1004x1,⟨false,true,1,30,[.agg [.sl (l2.Out.map (eL JJ))]]⟩)),(4099,some (_,⟨false,false,1,81,(List.replicate (f1.Slots.length : Int).toNat ([] : (List Bool))).map (eR 1 4 D.bool)⟩))]) ((Jo (g:=3) (g2:=4099) r r r (Jv (l:=List.replicate (f1.Slots.length : Int).toNat ([] : (List Bool))) (s':=1) (ty':=4) D.bool (by decide) (fun _ h=>List.eq_of_mem_replicate h)) (hE ⟨rfl,r,trivial⟩ ⟨rfl,r,r,trivial⟩))) fun nn=>sQ<|sQ<|rG<|mV r r<|lW r r<|mV r r<|nI<|xS<|bK<|lP (E:=fun (s : (List (List Bool)) × Int) (g : Nat)=>[(0,.int .i64 (f1.Slots.length : Int)),(3,.osl 4099 g 0 s.1.length),(8,.int .i64 ((List.replicate (f1.Slots.length : Int).toNat ([] : (List Bool))).length : Int)),(9,.int .i64 s.2)]) (O:=fun s g=>[(1003,some (v1003x1,⟨false,true,3,27,[.agg [.int .i64 f1.Params,.sl (f1.Slots.map JP),.sl (f1.Code.map JM)]]⟩)),(1004,some (v1004x1,⟨false,true,1,30,[.agg [.sl (l2.Out.map (eL JJ))]]⟩)),(4099,some (g,⟨false,false,1,81,s.1.map (eR 1 4 D.bool)⟩))]) (body:=fun s=>Mk f1 l2 s.1 s.2) (s:=(List.replicate (f1.Slots.length : Int).toNat ([] : (List Bool)),0)) _ ((hE ⟨rfl,r,r,r,trivial⟩ ⟨rfl,r,r,trivial⟩))<|?_
   rintro ⟨m5,x6⟩ v4099x2 nn
   try dsimp only
   unfold Mk
   refine sQ<|rG<|bN (v:=.bool (decide (x6 < ((List.replicate (f1.Slots.length : Int).toNat ([] : (List Bool))).length : Int)))) r r r r r<|nI<|xS<|sQ<|cD (c:=(decide (x6 < ((List.replicate (f1.Slots.length : Int).toNat ([] : (List Bool))).length : Int)))) r ?_ ?_
   ·exact sK<|xS<|sQ<|bK<|sQ<|rG<|mV rfl rfl<|aS rfl rfl<|nI<|xS<|rG<|mV rfl rfl<|mV rfl rfl<|mV rfl rfl<|cK fun hq=>mS (q:=false) D.bool rfl rfl rfl rfl hq rfl<|cK fun hq=>iO (l:=m5) (en:=(eR 1 4 D.bool)) rfl rfl rfl rfl rfl hq<|bD fun o7 ho7=>Jm (l:=m5) (q:=o7) (q':=List.replicate (f1.Slots.length : Int).toNat false) D.bool rfl rfl rfl rfl (.inl rfl) ho7 rfl rfl ⟨⟨rfl,rfl,by simp,Js fun _=>rfl⟩,trivial,rfl⟩ (congrArg (fun z=>[D.row _ _ z]) (JS _ _ rfl)) rfl<|nI<|bM<|xS<|rG<|bN (v:=.int .i64 (IntKind.i64.wrap (x6 + 1))) rfl rfl rfl rfl rfl<|mV rfl rfl<|nI<|xL (s:=(m5.set x6.toNat (List.replicate (f1.Slots.length : Int).toNat false),IntKind.i64.wrap (x6 + 1))) _ ((hE ⟨rfl,(Rm (q:=m5.length) rfl (by simp)),r,r,trivial⟩ ⟨rfl,r,r,trivial⟩))
   ·exact eT<|xE<|lE<|bH<|xS<|sQ<|rG<|mV r r<|Ji r r r<|nI<|xS<|rT<|JA (d:=.osl 4099 _ 0 m5.length) (s:=m5) (_,_,_) r (by first | rfl | (simp [Jf,Jc,rdA,raw,strip,Jd,S.ge,S.go,look,Jj,cells,Je]; done)) r ((Jy (E1:=[(2,.clo 84 []),(3,.optr 1003 v1003x1 0 0),(4,.optr 1004 v1004x1 0 0),(25,.osl 4099 _ 0 m5.length)]) (O1:=[(1003,some (v1003x1,⟨false,true,3,27,[.agg [.int .i64 f1.Params,.sl (f1.Slots.map JP),.sl (f1.Code.map JM)]]⟩)),(1004,some (v1004x1,⟨false,true,1,30,[.agg [.sl (l2.Out.map (eL JJ))]]⟩)),(4099,some (_,⟨false,false,1,81,m5.map (eR 1 4 D.bool)⟩))]) (hE ⟨rfl,r,r,r,trivial⟩ ⟨rfl,r,r,trivial⟩) (fun _=>Jx (fun g=>bif Nat.ble 24096 g then g - 20000 else bif (Nat.ble 1000 g && Nat.blt g 4096) then g - 1000 else bif Nat.beq g 4099 then 4697 else g) (by rfl) (hE ⟨rfl,r,r,r,trivial⟩ ⟨rfl,r,r,trivial⟩))))
  ·rintro x4 ⟨v3x3,v4x3,v4697x3⟩ nn
   try dsimp only
   unfold Lr
   refine Ji r r r<|nI<|xS<|sQ<|sQ<|rG<|fA r r<|lO (v:=.sl (f1.Code.map JM)) (z:=.agg [.int .i64 f1.Params,.sl (f1.Slots.map JP),.sl (f1.Code.map JM)]) r r r r r r<|lS r r<|mV r r<|nI<|xS<|bK<|lP (E:=fun (s : (List (List Bool)) × Int) (g : Nat × Nat)=>[(2,.clo 84 []),(4,.optr 4 g.1 0 0),(9,.osl 4697 g.2 0 s.1.length),(27,.sl (f1.Code.map JM)),(28,.int .i64 (f1.Code.length : Int)),(29,.int .i64 s.2)]) (O:=fun s g=>[(4,some (g.1,⟨false,true,1,30,[.agg [.sl (l2.Out.map (eL JJ))]]⟩)),(4697,some (g.2,⟨false,false,1,81,s.1.map (eR 1 4 D.bool)⟩))]) (body:=fun s=>Ml f1 l2 s.1 s.2) (s:=(x4,0)) (_,_) ((hE ⟨rfl,r,r,r,r,r,trivial⟩ ⟨rfl,r,trivial⟩))<|?_
   rintro ⟨x8,x9⟩ ⟨v4x4,v4697x4⟩ nn
   try dsimp only
   unfold Ml
   refine sQ<|rG<|bN (v:=.bool (decide (x9 < (f1.Code.length : Int)))) r r r r r<|nI<|xS<|sQ<|cD (c:=(decide (x9 < (f1.Code.length : Int)))) r ?_ ?_
   ·refine sK<|xS<|sQ<|bK<|sQ<|rG<|mV r r<|bD fun x_x10 hx_x10=>iS (en:=JM) r r r hx_x10 r<|lF (v:=.agg [.int .i64 x_x10.Op,.int .i64 x_x10.A,.int .i64 x_x10.B,.int .i64 x_x10.C,.int .u64 x_x10.Imm]) r r r r<|nW r<|aS r r<|sV (z':=.agg [.int .i64 x_x10.Op,.int .i64 x_x10.A,.int .i64 x_x10.B,.int .i64 x_x10.C,.int .u64 x_x10.Imm]) r r r r r r r r r<|nI<|xS<|sQ<|rG<|lO (v:=.agg [.int .i64 x_x10.Op,.int .i64 x_x10.A,.int .i64 x_x10.B,.int .i64 x_x10.C,.int .u64 x_x10.Imm]) (z:=.agg [.int .i64 x_x10.Op,.int .i64 x_x10.A,.int .i64 x_x10.B,.int .i64 x_x10.C,.int .u64 x_x10.Imm]) r r r r r r<|bD fun r11 hr11=>cG x_x10 r r r Qf r r (by simp) r hr11 r<|mV r r<|eX (v:=.int .i64 r11.1) r r r<|eX (v:=.bool r11.2) r r r<|aS r r<|aS r r<|nI<|xS<|sC (E:=fun (s : Bool × Bool) (g : Nat × Nat × Nat)=>[(2,.clo 84 []),(4,.optr 4 g.1 0 0),(9,.osl 4697 g.2.2 0 x8.length),(10,.int .i64 x9),(11,.optr 11 g.2.1 0 0),(12,.int .i64 r11.1),(27,.sl (f1.Code.map JM)),(28,.int .i64 (f1.Code.length : Int)),(29,.int .i64 x9),(42,.optr 11 g.2.1 0 0),(43,.int .i64 x_x10.Op),(44,.bool (x_x10.Op == 17)),(45,.bool s.1),(51,.bool s.2)]) (O:=fun s g=>[(4,some (g.1,⟨false,true,1,30,[.agg [.sl (l2.Out.map (eL JJ))]]⟩)),(11,some (g.2.1,⟨false,true,5,66,[.agg [.int .i64 x_x10.Op,.int .i64 x_x10.A,.int .i64 x_x10.B,.int .i64 x_x10.C,.int .u64 x_x10.Imm]]⟩)),(4697,some (g.2.2,⟨false,false,1,81,x8.map (eR 1 4 D.bool)⟩))]) (j:=fun s=>KZ l2 x9 r11 x_x10 x8 s.1 s.2) ?_ ?_
    ·refine sQ<|rG<|mV r r<|uN (w:=.bool (!r11.2)) r r r r trivial<|mV r r<|sP 41 (b:=(!r11.2)) r ?_ ?_
     ·exact oF r<|oF r<|oF r<|oF r<|oF r<|oF r<|oF r<|oF r<|oF r<|oF r<|pT r r r r<|nI<|xS<|KT r<|eT<|Ma<|bH<|xS<|rG<|bN (v:=.int .i64 (IntKind.i64.wrap (x9 + 1))) r r r r r<|mV r r<|nI<|xL (s:=(x8,IntKind.i64.wrap (x9 + 1))) (_,_) ((hE ⟨rfl,r,r,r,r,r,trivial⟩ ⟨rfl,r,trivial⟩))
     ·refine fA r r<|lO (v:=.int .i64 x_x10.Op) (z:=.agg [.int .i64 x_x10.Op,.int .i64 x_x10.A,.int .i64 x_x10.B,.int .i64 x_x10.C,.int .u64 x_x10.Imm]) r r r r r r<|bN (v:=.bool (x_x10.Op == 17)) r r r r r<|mV r r<|sP 45 (b:=(x_x10.Op == 17)) r ?_ ?_
      ·refine fA r r<|lO (v:=.int .i64 x_x10.A) (z:=.agg [.int .i64 x_x10.Op,.int .i64 x_x10.A,.int .i64 x_x10.B,.int .i64 x_x10.C,.int .u64 x_x10.Imm]) r r r r r r<|fA r r<|lO (v:=.int .i64 x_x10.B) (z:=.agg [.int .i64 x_x10.Op,.int .i64 x_x10.A,.int .i64 x_x10.B,.int .i64 x_x10.C,.int .u64 x_x10.Imm]) r r r r r r<|bN (v:=.bool (x_x10.A == x_x10.B)) r r r r r<|pT r r r r<|pF r r r r<|nI<|xS<|cD (c:=(x_x10.A == x_x10.B)) r ?_ ?_
       ·exact eT<|Ma<|bH<|xS<|rG<|bN (v:=.int .i64 (IntKind.i64.wrap (x9 + 1))) r r r r r<|mV r r<|nI<|xL (s:=(x8,IntKind.i64.wrap (x9 + 1))) (_,_) ((hE ⟨rfl,r,r,r,r,r,trivial⟩ ⟨rfl,r,trivial⟩))
       ·exact sK<|xC (s:=(true,(x_x10.A == x_x10.B))) (_,_,_) ((hE ⟨rfl,r,r,r,r,r,r,r,r,r,r,r,r,r,trivial⟩ ⟨rfl,r,r,trivial⟩))
      ·exact oF r<|oF r<|oF r<|oF r<|oF r<|pF r r r r<|pF r r r r<|nI<|xS<|Lf r<|sK<|xC (s:=(false,false)) (_,_,_) ((hE ⟨rfl,r,r,r,r,r,r,r,r,r,r,r,r,r,trivial⟩ ⟨rfl,r,r,trivial⟩))
    ·rintro ⟨x12,x13⟩ ⟨v4x5,v11x5,v4697x5⟩ nn
     try dsimp only
     unfold KZ
     refine sQ<|rG<|fA r r<|lO (v:=.sl (l2.Out.map (eL JJ))) (z:=.agg [.sl (l2.Out.map (eL JJ))]) r r r r r r<|mV r r<|bD fun x_x14 hx_x14=>iS (en:=(eL JJ)) r r r hx_x14 r<|lF (v:=.sl (x_x14.map JJ)) r r r r<|lS r r<|mV r r<|nI<|xS<|bK<|lP (E:=fun (s : (List (List Bool)) × Int) (g : Nat × Nat × Nat)=>[(2,.clo 84 []),(4,.optr 4 g.1 0 0),(9,.osl 4697 g.2.2 0 s.1.length),(11,.optr 11 g.2.1 0 0),(12,.int .i64 r11.1),(27,.sl (f1.Code.map JM)),(28,.int .i64 (f1.Code.length : Int)),(29,.int .i64 x9),(42,.optr 11 g.2.1 0 0),(43,.int .i64 x_x10.Op),(44,.bool (x_x10.Op == 17)),(45,.bool x12),(51,.bool x13),(57,.sl (x_x14.map JJ)),(58,.int .i64 (x_x14.length : Int)),(59,.int .i64 s.2)]) (O:=fun s g=>[(4,some (g.1,⟨false,true,1,30,[.agg [.sl (l2.Out.map (eL JJ))]]⟩)),(11,some (g.2.1,⟨false,true,5,66,[.agg [.int .i64 x_x10.Op,.int .i64 x_x10.A,.int .i64 x_x10.B,.int .i64 x_x10.C,.int .u64 x_x10.Imm]]⟩)),(4697,some (g.2.2,⟨false,false,1,81,s.1.map (eR 1 4 D.bool)⟩))]) (body:=fun s=>Mm x_x14 r11 x_x10 x9 s.1 s.2) (s:=(x8,0)) (_,_,_) ((hE ⟨rfl,r,r,r,r,r,r,r,r,r,r,r,r,r,r,r,trivial⟩ ⟨rfl,r,r,trivial⟩))<|?_
     rintro ⟨x15,x16⟩ ⟨v4x6,v11x6,v4697x6⟩ nn
     try dsimp only
     unfold Mm
     refine sQ<|rG<|bN (v:=.bool (decide (x16 < (x_x14.length : Int)))) r r r r r<|nI<|xS<|sQ<|cD (c:=(decide (x16 < (x_x14.length : Int)))) r ?_ ?_
     ·refine sK<|xS<|sQ<|bK<|sQ<|rG<|bD fun x_x17 hx_x17=>iS (en:=JJ) r r r hx_x17 r<|lF (v:=.int .i64 x_x17) r r r r<|aS r r<|nI<|xS<|sC (E:=fun (s : Bool) (g : Nat × Nat × Nat)=>[(2,.clo 84 []),(4,.optr 4 g.1 0 0),(9,.osl 4697 g.2.2 0 x15.length),(11,.optr 11 g.2.1 0 0),(12,.int .i64 r11.1),(15,.int .i64 x_x17),(27,.sl (f1.Code.map JM)),(28,.int .i64 (f1.Code.length : Int)),(29,.int .i64 x9),(42,.optr 11 g.2.1 0 0),(43,.int .i64 x_x10.Op),(44,.bool (x_x10.Op == 17)),(45,.bool x12),(51,.bool x13),(57,.sl (x_x14.map JJ)),(58,.int .i64 (x_x14.length : Int)),(59,.int .i64 x16),(72,.bool s)]) (O:=fun s g=>[(4,some (g.1,⟨false,true,1,30,[.agg [.sl (l2.Out.map (eL JJ))]]⟩)),(11,some (g.2.1,⟨false,true,5,66,[.agg [.int .i64 x_x10.Op,.int .i64 x_x10.A,.int .i64 x_x10.B,.int .i64 x_x10.C,.int .u64 x_x10.Imm]]⟩)),(4697,some (g.2.2,⟨false,false,1,81,x15.map (eR 1 4 D.bool)⟩))]) (j:=fun s=>Kz x15 r11 x_x17 x16 s) ?_ ?_
      ·refine rG<|mV r r<|mV r r<|bN (v:=.bool (x_x17 != r11.1)) r r r r r<|mV r r<|sP 66 (b:=(x_x17 != r11.1)) r ?_ ?_
       ·exact mV r r<|lO (v:=.agg [.int .i64 x_x10.Op,.int .i64 x_x10.A,.int .i64 x_x10.B,.int .i64 x_x10.C,.int .u64 x_x10.Imm]) (z:=.agg [.int .i64 x_x10.Op,.int .i64 x_x10.A,.int .i64 x_x10.B,.int .i64 x_x10.C,.int .u64 x_x10.Imm]) r r r r r r<|mV r r<|bD fun r19 hr19=>cG (x_x10,x_x17) r r r Uh r r (by simp) r hr19 r<|uN (w:=.bool (!r19)) r r r r trivial<|pT r r r r<|nI<|xC (s:=(!r19)) (_,_,_) ((hE ⟨rfl,r,r,r,r,r,r,r,r,r,r,r,r,r,r,r,r,r,trivial⟩ ⟨rfl,r,r,trivial⟩))
       ·exact oF r<|oF r<|oF r<|oF r<|oF r<|pF r r r r<|nI<|xC (s:=false) (_,_,_) ((hE ⟨rfl,r,r,r,r,r,r,r,r,r,r,r,r,r,r,r,r,r,trivial⟩ ⟨rfl,r,r,trivial⟩))
      ·rintro x18 ⟨v4x7,v11x7,v4697x7⟩ nn
       try dsimp only
       unfold Kz
       refine cD (c:=x18) r ?_ ?_
       ·exact JH fun row20 hrow20=>JH fun row21 hrow21=>JI fun hnrow20=>Jp (E:=[(2,.clo 84 []),(4,.optr 4 _ 0 0),(9,.osl 4697 _ 0 x15.length),(11,.optr 11 _ 0 0),(12,.int .i64 r11.1),(15,.int .i64 x_x17),(27,.sl (f1.Code.map JM)),(28,.int .i64 (f1.Code.length : Int)),(29,.int .i64 x9),(42,.optr 11 _ 0 0),(43,.int .i64 x_x10.Op),(44,.bool (x_x10.Op == 17)),(45,.bool x12),(51,.bool x13),(57,.sl (x_x14.map JJ)),(58,.int .i64 (x_x14.length : Int)),(59,.int .i64 x16)]) (O:=[(4,some (_,⟨false,true,1,30,[.agg [.sl (l2.Out.map (eL JJ))]]⟩)),(11,some (_,⟨false,true,5,66,[.agg [.int .i64 x_x10.Op,.int .i64 x_x10.A,.int .i64 x_x10.B,.int .i64 x_x10.C,.int .u64 x_x10.Imm]]⟩)),(4697,some (_,⟨false,false,1,81,((x15.map (eR 1 4 D.bool)).set r11.1.toNat (.hole 4718 _ row20.length)).set x_x17.toNat (.hole 4719 _ row21.length)⟩)),(4718,some (_,⟨false,false,1,4,row20.map D.bool⟩)),(4719,some (_,⟨false,false,1,4,row21.map D.bool⟩))]) (Jr (g:=4697) (i:=r11.1.toNat) (j:=x_x17.toNat) (t1:=622) (t2:=623) D.bool r hrow20 hrow21 hnrow20 (hE ⟨rfl,r,r,r,r,r,r,r,r,r,r,r,r,r,r,r,r,trivial⟩ ⟨rfl,r,r,r,r,trivial⟩)) fun nn=>mV r r<|mV r r<|cK fun hq=>Jk (by simp) r r r r (by simpa using hq)<|Jl (nm:=4718) (q:=row20.length) r r r (JB hrow20 hnrow20)<|mV r r<|mV r r<|mV r r<|cK fun hq=>Jk (by simp) r r r r (by simpa using hq)<|Jl (nm:=4719) (q:=row21.length) r r r (JC hrow21)<|mV r r<|cK fun hq=>iO (l:=row20) (en:=D.bool) r r r r r hq<|bD fun x_o22 hx_o22=>Jh (l:=row20) (en:=D.bool) (q:=x_o22) (q':=true) r r r r r hx_o22 r (fun _=>r) r r r ⟨trivial,trivial,r⟩<|cK fun hq=>iO (l:=row21) (en:=D.bool) r r r r r hq<|bD fun x_o23 hx_o23=>Jh (l:=row21) (en:=D.bool) (q:=x_o23) (q':=true) r r r r r hx_o23 r (fun _=>r) r r r ⟨trivial,trivial,r⟩<|Kf (by kernel_rfl)<|bM<|Ll (E:=[(2,.clo 84 []),(4,.optr 4 _ 0 0),(9,.osl 4697 _ 0 x15.length),(11,.optr 11 _ 0 0),(12,.int .i64 r11.1),(27,.sl (f1.Code.map JM)),(28,.int .i64 (f1.Code.length : Int)),(29,.int .i64 x9),(42,.optr 11 _ 0 0),(43,.int .i64 x_x10.Op),(44,.bool (x_x10.Op == 17)),(45,.bool x12),(51,.bool x13),(57,.sl (x_x14.map JJ)),(58,.int .i64 (x_x14.length : Int)),(59,.int .i64 x16)]) (O:=[(4,some (_,⟨false,true,1,30,[.agg [.sl (l2.Out.map (eL JJ))]]⟩)),(11,some (_,⟨false,true,5,66,[.agg [.int .i64 x_x10.Op,.int .i64 x_x10.A,.int .i64 x_x10.B,.int .i64 x_x10.C,.int .u64 x_x10.Imm]]⟩)),(4697,some (_,⟨false,false,1,81,((x15.set r11.1.toNat (row20.set x_x17.toNat true)).set x_x17.toNat (row21.set r11.1.toNat true)).map (eR 1 4 D.bool)⟩))]) ((Jn (g:=4697) (g1:=4718) (g2:=4719) (l:=x15) (en:=D.bool) (i:=r11.1.toNat) (j:=x_x17.toNat) (q1:=row20) (q2:=row21) (q1':=row20.set x_x17.toNat true) (q2':=row21.set r11.1.toNat true) hrow20 hrow21 hnrow20 r r r (by simp) (by simp) (fun _=>r) (hE ⟨rfl,r,(Rm (q:=x15.length) r (by simp)),r,r,r,r,r,r,r,r,r,r,r,r,r,trivial⟩ ⟨rfl,r,r,trivial⟩))) fun nn=>rG<|bN (v:=.int .i64 (IntKind.i64.wrap (x16 + 1))) r r r r r<|mV r r<|nI<|xL (s:=((x15.set r11.1.toNat (row20.set x_x17.toNat true)).set x_x17.toNat (row21.set r11.1.toNat true),IntKind.i64.wrap (x16 + 1))) (_,_,_) ((hE ⟨rfl,r,(Rm (q:=x15.length) r (by simp)),r,r,r,r,r,r,r,r,r,r,r,r,r,trivial⟩ ⟨rfl,r,r,trivial⟩))
       ·exact sK<|bM<|xS<|rG<|bN (v:=.int .i64 (IntKind.i64.wrap (x16 + 1))) r r r r r<|mV r r<|nI<|xL (s:=(x15,IntKind.i64.wrap (x16 + 1))) (_,_,_) ((hE ⟨rfl,r,r,r,r,r,r,r,r,r,r,r,r,r,r,r,trivial⟩ ⟨rfl,r,r,trivial⟩))
     ·exact eT<|xE<|lE<|bH<|bM<|xS<|rG<|bN (v:=.int .i64 (IntKind.i64.wrap (x9 + 1))) r r r r r<|mV r r<|nI<|xL (s:=(x15,IntKind.i64.wrap (x9 + 1))) (_,_) ((hE ⟨rfl,r,r,r,r,r,trivial⟩ ⟨rfl,r,trivial⟩))
   ·refine eT<|xE<|lE<|bH<|Ll (E:=[(9,.osl 4697 _ 0 x8.length)]) (O:=[(4697,some (_,⟨false,false,1,81,x8.map (eL D.bool)⟩))]) ((Jq (g:=4697) r (Jw (l:=x8) D.bool (fun _=>r)) (hE ⟨rfl,trivial⟩ ⟨rfl,trivial⟩))) fun nn=>sQ<|rG<|mV r r<|bD fun r24 hr24=>cV x8 r r r OU r r (by simp) (by first | rfl | (simp only [Kg,Kk]; rfl) | simp [LJ]) hr24<|aL r r<|aS r r<|nI<|xS<|rT<|LC (b:=(r24,0)) r ?_ r r ?_ r (by decide)
    all_goals first|(simp;done)|(simp;omega)|rfl|(simp [JT,JQ];done)

def Afa : Ka:=(.seq (.reg [P 2 (.box (T 0) 3 27),P 3 (.box (T 1) 1 30),⟨(some 4),(.asg (.c .nils) (some ⟨1,36⟩)),none,[]⟩,P 5 (.asg (C 0) none)] false) (.seq (.reg [P 6 (.ld 3 true (T 2)),P 7 (.ld 1 true (T 3)),P 8 (.call (.c (.clo 81 [])) [(T 6),(T 7),(.c (.clo 84 []))]),P 9 (.ext (T 8) 0),P 10 (.ext (T 8) 1),⟨(some 4),(.asg (T 9) (some ⟨1,36⟩)),none,[]⟩,P 5 (.asg (T 10) none)] false) .ret))
theorem AhQ : (Tryd.f49.body.bind (Kb Tryd.prog Tryd.f49.ntmps)) = some Afa:=by kernel_rfl
theorem AhR : Tryd.f49.results.toList.mapM (Kn Tryd.prog) = some [(.t 4),(.t 5)]:=by kernel_rfl
def QQ (a : JO × JR) : List D:=[Kv a.1,KJ a.2]
def QP (ds : List D) : JO × JR:=(LA (ds.getD 0 .top),MA (ds.getD 1 .top))
theorem Vk (a : JO × JR) : QP (QQ a) = a:=by simp [QP,QQ]
def Wt (b : (List (List Int)) × Int) : D:=.tup [.sl (b.1.map (eL JJ)),.int .i64 b.2]
def Ws (_b : (List (List Int)) × Int) : List D:=[]
noncomputable def Sp : Dw.Spec:=JZ [] .val QQ QP (fun a=>NB a.1 a.2) Wt Ws
set_option maxHeartbeats 4000000 in
theorem Aao : JY Tryd.prog 49 Sp:=by
 refine Ki (Ke (l:=[(348241,Mz)]) (by simp [Wu])) Tryd.func49 (by decide) AhQ AhR (np:=2) (by decide) Vk (fun _=>r) (fun _=>r) (by decide)<|?_
 rintro ⟨f1,l2⟩
 show TrE (specs [(348241,Mz)]) Afa (Kp [] .val [(.t 4),(.t 5)] Wt Ws) ⟨[(0,.agg [.int .i64 f1.Params,.sl (f1.Slots.map JP),.sl (f1.Code.map JM)]),(1,.agg [.sl (l2.Out.map (eL JJ))])],[],262144⟩ (NB f1 l2)
 refine Kc<|?_
 unfold Afa NB
 refine sQ<|rG<|bX rfl rfl rfl rfl rfl<|bX rfl rfl rfl rfl rfl<|aN (α:=(List Int)) rfl (eL JJ) rfl<|aS rfl rfl<|nI<|xS<|sQ<|rG<|lO (v:=.agg [.int .i64 f1.Params,.sl (f1.Slots.map JP),.sl (f1.Code.map JM)]) (z:=.agg [.int .i64 f1.Params,.sl (f1.Slots.map JP),.sl (f1.Code.map JM)]) rfl rfl rfl rfl rfl rfl<|lO (v:=.agg [.sl (l2.Out.map (eL JJ))]) (z:=.agg [.sl (l2.Out.map (eL JJ))]) rfl rfl rfl rfl rfl rfl<|bD fun r3 hr3=>cV (f1,l2) rfl rfl (show _ = some Mz from by kernel_rfl) QE rfl rfl (by simp) r hr3<|eX (v:=.sl (r3.1.map (eL JJ))) r r r<|eX (v:=.int .i64 r3.2) r r r<|aL r r<|aS r r<|nI<|xS<|rT<|LC (b:=(r3.1,r3.2)) r ?_ r r ?_ r (by decide)
 all_goals first|(simp;done)|(simp;omega)|rfl|(simp [JT,JQ];done)

def Afb : Ka:=(.seq (.reg [P 2 (.box (T 0) 3 27),P 3 (.box (T 1) 1 30),⟨(some 4),(.asg (.c .nils) (some ⟨1,36⟩)),none,[]⟩,P 5 (.asg (C 0) none)] false) (.seq (.reg [P 6 (.ld 3 true (T 2)),P 7 (.ld 1 true (T 3)),P 8 (.call (.c (.clo 83 [])) [(T 6),(T 7),(.c (.bool true))]),P 9 (.ext (T 8) 0),P 10 (.ext (T 8) 1),⟨(some 4),(.asg (T 9) (some ⟨1,36⟩)),none,[]⟩,P 5 (.asg (T 10) none)] false) .ret))
theorem AhS : (Tryd.f50.body.bind (Kb Tryd.prog Tryd.f50.ntmps)) = some Afb:=by kernel_rfl
theorem AhT : Tryd.f50.results.toList.mapM (Kn Tryd.prog) = some [(.t 4),(.t 5)]:=by kernel_rfl
def TS (a : JO × JR) : List D:=[Kv a.1,KJ a.2]
def TR (ds : List D) : JO × JR:=(LA (ds.getD 0 .top),MA (ds.getD 1 .top))
theorem YJ (a : JO × JR) : TR (TS a) = a:=by simp [TR,TS]
def Zs (b : (List (List Int)) × Int) : D:=.tup [.sl (b.1.map (eL JJ)),.int .i64 b.2]
def Zr (_b : (List (List Int)) × Int) : List D:=[]
noncomputable def VM : Dw.Spec:=JZ [] .val TS TR (fun a=>SA a.1 a.2) Zs Zr
set_option maxHeartbeats 4000000 in
theorem AbH : JY Tryd.prog 50 VM:=by
 refine Ki (Ke (l:=[(83,Rg)]) (by simp [Zt])) Tryd.func50 (by decide) AhS AhT (np:=2) (by decide) YJ (fun _=>r) (fun _=>r) (by decide)<|?_
 rintro ⟨f1,l2⟩
 show TrE (specs [(83,Rg)]) Afb (Kp [] .val [(.t 4),(.t 5)] Zs Zr) ⟨[(0,.agg [.int .i64 f1.Params,.sl (f1.Slots.map JP),.sl (f1.Code.map JM)]),(1,.agg [.sl (l2.Out.map (eL JJ))])],[],262144⟩ (SA f1 l2)
 refine Kc<|?_
 unfold Afb SA
 refine sQ<|rG<|bX r r r r r<|bX r r r r r<|aN (α:=(List Int)) r (eL JJ) r<|aS r r<|nI<|xS<|sQ<|rG<|lO (v:=.agg [.int .i64 f1.Params,.sl (f1.Slots.map JP),.sl (f1.Code.map JM)]) (z:=.agg [.int .i64 f1.Params,.sl (f1.Slots.map JP),.sl (f1.Code.map JM)]) r r r r r r<|lO (v:=.agg [.sl (l2.Out.map (eL JJ))]) (z:=.agg [.sl (l2.Out.map (eL JJ))]) r r r r r r<|bD fun r3 hr3=>cV (f1,l2,true) r r r VN r r (by simp) r hr3<|eX (v:=.sl (r3.1.map (eL JJ))) r r r<|eX (v:=.int .i64 r3.2) r r r<|aL r r<|aS r r<|nI<|xS<|rT<|LC (b:=(r3.1,r3.2)) r ?_ r r ?_ r (by decide)
 all_goals first|(simp;done)|(simp;omega)|rfl|(simp [JT,JQ];done)

end Go.Proofs.YtcelninhkmhjkaaDoor
