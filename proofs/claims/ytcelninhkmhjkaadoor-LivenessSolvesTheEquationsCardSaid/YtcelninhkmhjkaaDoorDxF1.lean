/-
  Programs on typed data, and the proofs that the code does what they say; written by a program (dx.py).
-/
import Derived.Test.YtcelninhkmhjkaaDoorProg
import Derived.Test.YtcelninhkmhjkaaDoorDc
import Derived.KernelRfl
import Derived.Test.YtcelninhkmhjkaaDoorSh
import Derived.Test.YtcelninhkmhjkaaDoorDxP
namespace Go.Proofs.YtcelninhkmhjkaaDoor
open Go Go.Dw Go.Proofs
set_option maxRecDepth 100000
open Go.Dw renaming Yo → mV,WO → bN,RK → lO,VU → bD,WS → cK,WU → nI,WY → xS,Yq → rG,Ys → sQ,Sk → aO,WN → aS,WV → oF,WQ → bL,VV → bS,Rv → cV,QZ → cG,Ru → cR,WM → aP,RL → sV,Ty → iS,Sl → iO,TA → lS,Sm → lW,VW → fA,Zy → eX,ZE → nC,Ug → lF,UA → sP,Qz → pT,Qe → pF,Zn → uN,AaD → cT,WT → nW,WR → bX,Sj → aN,Xr → aL,WZ → cD,Wa → bK,Yr → rT,Xc → sK,Xa → eT,WX → xC,VY → xL,Un → xR,Um → zR,VZ → lR,Uy → hE,QA → lE,Rx → bH,Qf → bM,Ul → bR,Ry → xE,Yn → cP,Xb → lP,TC → sC,rf → r
def AaO : Mj:=(.seq (.reg [P 2 (.asg (.c (.bool false)) none)] false) (.seq (.reg [M 3 0,P 4 (.bin .eql (T 3) (C 20)),M 5 4,⟨(some 6),(.mv (T 0)),(some ⟨5,false⟩),[]⟩,⟨(some 7),(.bin .eql (T 6) (C 23)),(some ⟨5,false⟩),[]⟩,P 8 (.pick (T 5) (.c (.bool true)) (T 7)),M 9 8,⟨(some 10),(.mv (T 0)),(some ⟨9,false⟩),[]⟩,⟨(some 11),(.bin .eql (T 10) (C 24)),(some ⟨9,false⟩),[]⟩,P 12 (.pick (T 9) (.c (.bool true)) (T 11)),P 2 (.asg (T 12) none)] false) .ret))
theorem Adj : (Tryd.f112.body.bind (Mm Tryd.prog Tryd.f112.ntmps)) = some AaO:=by kernel_rfl
theorem Adk : Tryd.f112.results.toList.mapM (MB Tryd.prog) = some [(.t 2)]:=by kernel_rfl
def Rt (a : Int) : List D:=[.int .i64 a]
def Rs (ds : List D) : Int:=uI (ds.getD 0 .top)
theorem Vm (a : Int) : Rs (Rt a) = a:=by simp [Rs,Rt,uI]
def VT (b : Bool) : D:=.bool b
def VS (_b : Bool) : List D:=[]
noncomputable def SH : Dw.Spec:=Mk [] .ground Rt Rs (fun a=>Qc a) VT VS
set_option maxHeartbeats 4000000 in
theorem Yz : Mi Tryd.prog 112 SH:=by
 refine MA (Nh) Tryd.func112 (by decide) Adj Adk (np:=1) (by decide) Vm (fun _=>r) (fun _=>r) (by decide)<|?_
 intro op1
 show TrE (specs []) AaO (MD [] .ground [(.t 2)] VT VS) ⟨[(0,.int .i64 op1)],[],262144⟩ (Qc op1)
 refine Mu<|?_
 unfold AaO Qc
 refine sQ<|rG<|aS r r<|nI<|xS<|sQ<|rG<|mV r r<|bN (v:=.bool (op1 == 20)) r r r r r<|mV r r<|sP 5 (b:=(op1 == 20)) r ?_ ?_
 ·refine oF r<|oF r<|pT r r r r<|mV r r<|oF r<|oF r<|pT r r r r<|aS r r<|nI<|xS<|rT<|Mq (b:=true) r ?_ r r ?_ r
  all_goals first|(simp;done)|(simp;omega)|rfl|(simp [Md,LZ];done)
 ·refine mV r r<|bN (v:=.bool (op1 == 23)) r r r r r<|pF r r r r<|mV r r<|sP 9 (b:=(op1 == 23)) r ?_ ?_
  ·refine oF r<|oF r<|pT r r r r<|aS r r<|nI<|xS<|rT<|Mq (b:=true) r ?_ r r ?_ r
   all_goals first|(simp;done)|(simp;omega)|rfl|(simp [Md,LZ];done)
  ·refine mV r r<|bN (v:=.bool (op1 == 24)) r r r r r<|pF r r r r<|aS r r<|nI<|xS<|rT<|Mq (b:=(op1 == 24)) r ?_ r r ?_ r
   all_goals first|(simp;done)|(simp;omega)|rfl|(simp [Md,LZ];done)

def Acq : Mj:=(.seq (.reg [P 2 (.box (T 0) 3 27),⟨(some 4),(.asg (.c .nils) (some ⟨1,3⟩)),none,[]⟩] false) (.seq (.seq (.reg [M 7 1,P 8 (.bin .lss (T 7) (C 0)),M 9 8,⟨(some 10),(.mv (T 1)),(some ⟨9,false⟩),[]⟩,⟨(some 11),(.fldA 2 (T 2)),(some ⟨9,false⟩),[]⟩,⟨(some 12),(.ld 1 false (T 11)),(some ⟨9,false⟩),[]⟩,⟨(some 13),(.len false (T 12)),(some ⟨9,false⟩),[]⟩,⟨(some 14),(.bin .geq (T 10) (T 13)),(some ⟨9,false⟩),[]⟩,P 15 (.pick (T 9) (.c (.bool true)) (T 14))] false) (.cond (T 15) (.seq (.reg [⟨(some 4),(.asg (.c .nils) (some ⟨1,3⟩)),none,[]⟩] false) .ret) .skip)) (.seq (.reg [⟨(some 5),(.asg (.c .nils) (some ⟨1,3⟩)),none,[]⟩] false) (.seq (.reg [P 16 (.fldA 2 (T 2)),P 17 (.ld 1 false (T 16)),M 18 1,P 19 (.ixA 5 (T 17) (T 18)),P 20 (.ld 5 true (T 19)),P 6 (.new (.agg [(.int .i64 0),(.int .i64 0),(.int .i64 0),(.int .i64 0),(.int .u64 0)]) 5 66),⟨none,(.st 5 (T 6) (T 20)),none,[]⟩] false) (.seq (.seq (.reg [P 21 (.fldA 0 (T 6)),P 22 (.ld 1 false (T 21)),P 23 (.call (.c (.clo 112 [])) [(T 22)]),P 24 (.un .not (T 23))] false) (.cond (T 24) (.reg [M 25 5,M 26 1,P 27 (.bin .add (T 26) (C 1)),⟨(some 28),(.bldS 1 3 (.int .i64 0) 1 [⟨0,(T 27)⟩]),none,[]⟩,P 29 (.app 1 3 8 (T 25) (T 28)),⟨(some 5),(.asg (T 29) (some ⟨1,3⟩)),none,[]⟩] false) .skip)) (.seq (.seq (.reg [P 30 (.fldA 0 (T 6)),P 31 (.ld 1 false (T 30))] false) (.block 0 (.seq (.reg [P 33 (.bin .eql (T 31) (C 20)),P 32 (.asg (T 33) none)] false) (.cond (T 32) (.reg [M 34 5,P 35 (.fldA 1 (T 6)),P 36 (.ld 1 false (T 35)),⟨(some 37),(.bldS 1 3 (.int .i64 0) 1 [⟨0,(T 36)⟩]),none,[]⟩,P 38 (.app 1 3 8 (T 34) (T 37)),⟨(some 5),(.asg (T 38) (some ⟨1,3⟩)),none,[]⟩] false) (.seq (.reg [P 40 (.bin .eql (T 31) (C 21)),P 39 (.asg (T 40) none)] false) (.cond (T 39) (.reg [M 41 5,P 42 (.fldA 2 (T 6)),P 43 (.ld 1 false (T 42)),⟨(some 44),(.bldS 1 3 (.int .i64 0) 1 [⟨0,(T 43)⟩]),none,[]⟩,P 45 (.app 1 3 8 (T 41) (T 44)),⟨(some 5),(.asg (T 45) (some ⟨1,3⟩)),none,[]⟩] false) .skip)))))) (.seq (.reg [M 46 5,P 47 (.call (.c (.clo 113 [])) [(T 46)])] false) (.seq (.reg [M 48 5,P 49 (.call (.c (.clo 114 [])) [(T 48)]),⟨(some 4),(.asg (T 49) (some ⟨1,3⟩)),none,[]⟩] false) .ret))))))))
theorem Afc : (Tryd.f88.body.bind (Mm Tryd.prog Tryd.f88.ntmps)) = some Acq:=by kernel_rfl
theorem Afd : Tryd.f88.results.toList.mapM (MB Tryd.prog) = some [(.t 4)]:=by kernel_rfl
def UK (a : LW × Int) : List D:=[MN a.1,.int .i64 a.2]
def UJ (ds : List D) : LW × Int:=(Qu (ds.getD 0 .top),uI (ds.getD 1 .top))
theorem Th (a : LW × Int) : UJ (UK a) = a:=by simp [UJ,UK,uI]
def YJ (b : (List Int)) : D:=.sl (b.map Ed)
def YI (_b : (List Int)) : List D:=[]
noncomputable def PI : Dw.Spec:=Mk [] (.row 1 3) UK UJ (fun a=>Qi a.1 a.2) YJ YI
set_option maxHeartbeats 4000000 in
theorem VD : Mi Tryd.prog 88 PI:=by
 refine MA (Mv (l:=[(112,SH),(113,Qd),(114,OW)]) (by simp [Yz,Wv,Vp])) Tryd.func88 (by decide) Afc Afd (np:=2) (by decide) Th (fun _=>r) (fun _=>r) (by decide)<|?_
 rintro ⟨f1,k2⟩
 show TrE (specs [(112,SH),(113,Qd),(114,OW)]) Acq (MD [] (.row 1 3) [(.t 4)] YJ YI) ⟨[(0,.agg [.int .i64 f1.Params,.sl (f1.Slots.map LY),.sl (f1.Code.map LU)]),(1,.int .i64 k2)],[],262144⟩ (Qi f1 k2)
 refine Mu<|?_
 unfold Acq Qi
 refine sQ<|rG<|bX r r r r r<|aN (α:=Int) r Ed r<|nI<|xS<|sC (E:=fun (s : Unit) (g : Nat)=>[(1,.int .i64 k2),(2,.optr 2 g 0 0)]) (O:=fun s g=>[(2,some (g,⟨false,true,3,27,[.agg [.int .i64 f1.Params,.sl (f1.Slots.map LY),.sl (f1.Code.map LU)]]⟩))]) (j:=fun s=>Ti f1 k2) ?_ ?_
 ·refine sQ<|rG<|mV r r<|bN (v:=.bool (decide (k2 < 0))) r r r r r<|mV r r<|sP 9 (b:=(decide (k2 < 0))) r ?_ ?_
  ·refine oF r<|oF r<|oF r<|oF r<|oF r<|pT r r r r<|nI<|xS<|Qg r<|sQ<|rG<|aN (α:=Int) r Ed r<|nI<|xS<|rT<|zR<|My (b:=([] : List Int)) r ?_ r r ?_ r ?_ (congrArg D.sl (LX _ _ r)) r
   all_goals first|(simp;done)|(simp;omega)|rfl|(simp [Md,LZ];done)
  ·refine mV r r<|fA r r<|lO (v:=.sl (f1.Code.map LU)) (z:=.agg [.int .i64 f1.Params,.sl (f1.Slots.map LY),.sl (f1.Code.map LU)]) r r r r r r<|lS r r<|bN (v:=.bool (decide (k2 ≥ (f1.Code.length : Int)))) r r r r r<|pF r r r r<|nI<|xS<|cD (c:=(decide (k2 ≥ (f1.Code.length : Int)))) r ?_ ?_
   ·refine sQ<|rG<|aN (α:=Int) r Ed r<|nI<|xS<|rT<|zR<|My (b:=([] : List Int)) r ?_ r r ?_ r ?_ (congrArg D.sl (LX _ _ r)) r
    all_goals first|(simp;done)|(simp;omega)|rfl|(simp [Md,LZ];done)
   ·exact sK<|xC (s:=()) _ ((hE ⟨rfl,r,trivial⟩ ⟨rfl,trivial⟩))
 ·rintro ⟨⟩ v2x1 nn
  try dsimp only
  unfold Ti
  refine sQ<|rG<|aN (α:=Int) r Ed r<|nI<|xS<|sQ<|rG<|fA r r<|lO (v:=.sl (f1.Code.map LU)) (z:=.agg [.int .i64 f1.Params,.sl (f1.Slots.map LY),.sl (f1.Code.map LU)]) r r r r r r<|mV r r<|bD fun x_x3 hx_x3=>iS (en:=LU) r r r hx_x3 r<|lF (v:=.agg [.int .i64 x_x3.Op,.int .i64 x_x3.A,.int .i64 x_x3.B,.int .i64 x_x3.C,.int .u64 x_x3.Imm]) r r r r<|nW r<|sV (z':=.agg [.int .i64 x_x3.Op,.int .i64 x_x3.A,.int .i64 x_x3.B,.int .i64 x_x3.C,.int .u64 x_x3.Imm]) r r r r r r r r r<|nI<|xS<|sC (E:=fun (s : (List Int)) (g : Nat × Nat)=>[(5,.osl 5 g.1 0 s.length),(6,.optr 6 g.2 0 0)]) (O:=fun s g=>[(5,some (g.1,⟨false,false,1,3,s.map Ed⟩)),(6,some (g.2,⟨false,true,5,66,[.agg [.int .i64 x_x3.Op,.int .i64 x_x3.A,.int .i64 x_x3.B,.int .i64 x_x3.C,.int .u64 x_x3.Imm]]⟩))]) (j:=fun s=>Rm x_x3 s) ?_ ?_
  ·refine sQ<|rG<|fA r r<|lO (v:=.int .i64 x_x3.Op) (z:=.agg [.int .i64 x_x3.Op,.int .i64 x_x3.A,.int .i64 x_x3.B,.int .i64 x_x3.C,.int .u64 x_x3.Imm]) r r r r r r<|bD fun r5 hr5=>cG x_x3.Op r r r Vm r r (by simp) r hr5 r<|uN (w:=.bool (!r5)) r r r r trivial<|nI<|xS<|cD (c:=(!r5)) r ?_ ?_
   ·exact rG<|mV r r<|mV r r<|bN (v:=.int .i64 (IntKind.i64.wrap (k2 + 1))) r r r r r<|bS ([IntKind.i64.wrap (k2 + 1)] : List Int) Ed r r r (by simp) r r r<|cK fun hq=>aP (([] : List Int)) (([IntKind.i64.wrap (k2 + 1)] : List Int)) Ed r r r r r r r (by simp) (Ml _ _ r) r r (by simp) (LX _ _ r) (fun _=>r) r hq<|aO (l:=([] : List Int) ++ ([IntKind.i64.wrap (k2 + 1)] : List Int)) (en:=Ed) r r r r<|nI<|xC (s:=([] : List Int) ++ ([IntKind.i64.wrap (k2 + 1)] : List Int)) (_,_) ((hE ⟨rfl,r,trivial⟩ ⟨rfl,r,trivial⟩))
   ·exact sK<|xC (s:=([] : List Int)) (_,_) ((hE ⟨rfl,r,trivial⟩ ⟨rfl,r,trivial⟩))
  ·rintro l4 ⟨v5x2,v6x2⟩ nn
   try dsimp only
   unfold Rm
   refine sQ<|sQ<|rG<|fA r r<|lO (v:=.int .i64 x_x3.Op) (z:=.agg [.int .i64 x_x3.Op,.int .i64 x_x3.A,.int .i64 x_x3.B,.int .i64 x_x3.C,.int .u64 x_x3.Imm]) r r r r r r<|nI<|xS<|bK<|sQ<|rG<|bN (v:=.bool (x_x3.Op == 20)) r r r r r<|aS r r<|nI<|xS<|cD (c:=(x_x3.Op == 20)) r ?_ ?_
   ·refine rG<|mV r r<|fA r r<|lO (v:=.int .i64 x_x3.A) (z:=.agg [.int .i64 x_x3.Op,.int .i64 x_x3.A,.int .i64 x_x3.B,.int .i64 x_x3.C,.int .u64 x_x3.Imm]) r r r r r r<|bS ([x_x3.A] : List Int) Ed r r r (by simp) r r r<|cK fun hq=>aP (l4) (([x_x3.A] : List Int)) Ed r r r r r r r (by simp) (Ml _ _ r) r r (by simp) (LX _ _ r) (fun _=>r) r hq<|aO (l:=l4 ++ ([x_x3.A] : List Int)) (en:=Ed) r r r r<|nI<|bM<|xS<|sQ<|rG<|mV r r<|cK fun hq=>Xs (l:=l4 ++ ([x_x3.A] : List Int)) (l':=Nk (l4 ++ ([x_x3.A] : List Int))) r r r r r r r hq r<|nI<|xS<|sQ<|rG<|mV r r<|cK fun hq=>VX (l:=Nk (l4 ++ ([x_x3.A] : List Int))) (l':=Lib.compact (Nk (l4 ++ ([x_x3.A] : List Int)))) r r r r r (by simp) r hq (TK _) r<|aO (l:=Lib.compact (Nk (l4 ++ ([x_x3.A] : List Int)))) (en:=Ed) r r r r<|nI<|xS<|rT<|My (b:=Lib.compact (Nk (l4 ++ ([x_x3.A] : List Int)))) r ?_ r r ?_ r ?_ (congrArg D.sl (LX _ _ r)) r
    all_goals first|(simp;done)|(simp;omega)|rfl|(simp [Md,LZ];done)
   ·refine sQ<|rG<|bN (v:=.bool (x_x3.Op == 21)) r r r r r<|aS r r<|nI<|xS<|cD (c:=(x_x3.Op == 21)) r ?_ ?_
    ·refine rG<|mV r r<|fA r r<|lO (v:=.int .i64 x_x3.B) (z:=.agg [.int .i64 x_x3.Op,.int .i64 x_x3.A,.int .i64 x_x3.B,.int .i64 x_x3.C,.int .u64 x_x3.Imm]) r r r r r r<|bS ([x_x3.B] : List Int) Ed r r r (by simp) r r r<|cK fun hq=>aP (l4) (([x_x3.B] : List Int)) Ed r r r r r r r (by simp) (Ml _ _ r) r r (by simp) (LX _ _ r) (fun _=>r) r hq<|aO (l:=l4 ++ ([x_x3.B] : List Int)) (en:=Ed) r r r r<|nI<|bM<|xS<|sQ<|rG<|mV r r<|cK fun hq=>Xs (l:=l4 ++ ([x_x3.B] : List Int)) (l':=Nk (l4 ++ ([x_x3.B] : List Int))) r r r r r r r hq r<|nI<|xS<|sQ<|rG<|mV r r<|cK fun hq=>VX (l:=Nk (l4 ++ ([x_x3.B] : List Int))) (l':=Lib.compact (Nk (l4 ++ ([x_x3.B] : List Int)))) r r r r r (by simp) r hq (TK _) r<|aO (l:=Lib.compact (Nk (l4 ++ ([x_x3.B] : List Int)))) (en:=Ed) r r r r<|nI<|xS<|rT<|My (b:=Lib.compact (Nk (l4 ++ ([x_x3.B] : List Int)))) r ?_ r r ?_ r ?_ (congrArg D.sl (LX _ _ r)) r
     all_goals first|(simp;done)|(simp;omega)|rfl|(simp [Md,LZ];done)
    ·refine sK<|bM<|xS<|sQ<|rG<|mV r r<|cK fun hq=>Xs (l:=l4) (l':=Nk l4) r r r r r r r hq r<|nI<|xS<|sQ<|rG<|mV r r<|cK fun hq=>VX (l:=Nk l4) (l':=Lib.compact (Nk l4)) r r r r r (by simp) r hq (TK _) r<|aO (l:=Lib.compact (Nk l4)) (en:=Ed) r r r r<|nI<|xS<|rT<|My (b:=Lib.compact (Nk l4)) r ?_ r r ?_ r ?_ (congrArg D.sl (LX _ _ r)) r
     all_goals first|(simp;done)|(simp;omega)|rfl|(simp [Md,LZ];done)

def Aca : Mj:=(.seq (.reg [P 1 (.box (T 0) 3 27),⟨(some 2),(.asg (.c .nils) (some ⟨1,36⟩)),none,[]⟩] false) (.seq (.reg [P 7 (.fldA 2 (T 1)),P 8 (.ld 1 false (T 7)),P 9 (.len false (T 8)),P 10 (.mkS 1 36 24 .nils (T 9) (T 9)),⟨(some 3),(.asg (T 10) (some ⟨1,36⟩)),none,[]⟩] false) (.seq (.seq (.reg [P 11 (.fldA 2 (T 1)),P 12 (.ld 1 false (T 11)),P 13 (.len false (T 12)),P 14 (.mv (C 0))] false) (.block 0 (.loop (.seq (.reg [P 15 (.bin .lss (T 14) (T 13))] false) (.seq (.cond (T 15) .skip (.exit 0)) (.seq (.block 1 (.seq (.reg [M 16 14,P 4 (.asg (T 16) none)] false) (.seq (.reg [P 17 (.ld 3 true (T 1)),M 18 4,P 19 (.call (.c (.clo 88 [])) [(T 17),(T 18)]),P 20 (.len false (T 19)),P 21 (.mv (C 0))] false) (.block 2 (.loop (.seq (.reg [P 22 (.bin .lss (T 21) (T 20))] false) (.seq (.cond (T 22) .skip (.exit 2)) (.seq (.block 3 (.seq (.reg [P 23 (.ixA 1 (T 19) (T 21)),P 24 (.ld 1 false (T 23)),P 6 (.asg (T 24) none)] false) (.reg [M 25 3,M 26 6,M 27 3,M 28 6,P 29 (.ixA 1 (T 27) (T 28)),P 30 (.ld 1 false (T 29)),M 31 4,⟨(some 32),(.bldS 1 3 (.int .i64 0) 1 [⟨0,(T 31)⟩]),none,[]⟩,P 33 (.app 1 3 8 (T 30) (T 32)),P 34 (.ixA 1 (T 25) (T 26)),⟨none,(.st 1 (T 34) (T 33)),none,[]⟩] false))) (.reg [P 35 (.bin .add (T 21) (C 1)),M 21 35] false))))))))) (.reg [P 36 (.bin .add (T 14) (C 1)),M 14 36] false))))))) (.seq (.reg [M 37 3,⟨(some 2),(.asg (T 37) (some ⟨1,36⟩)),none,[]⟩] false) .ret))))
theorem Aew : (Tryd.f55.body.bind (Mm Tryd.prog Tryd.f55.ntmps)) = some Aca:=by kernel_rfl
theorem Aex : Tryd.f55.results.toList.mapM (MB Tryd.prog) = some [(.t 2)]:=by kernel_rfl
def Tg (a : LW) : List D:=[MN a]
def Tf (ds : List D) : LW:=Qu (ds.getD 0 .top)
theorem WA (a : LW) : Tf (Tg a) = a:=by simp [Tf,Tg]
def UH (b : (List (List Int))) : D:=.sl (b.map (eL Ed))
def Xx (_b : (List (List Int))) : List D:=[]
noncomputable def UI : Dw.Spec:=Mk [] .val Tg Tf (fun a=>PH a) UH Xx
set_option maxHeartbeats 4000000 in
theorem Zr : Mi Tryd.prog 55 UI:=by
 refine MA (Mv (l:=[(88,PI)]) (by simp [VD])) Tryd.func55 (by decide) Aew Aex (np:=1) (by decide) WA (fun _=>r) (fun _=>r) (by decide)<|?_
 intro f1
 show TrE (specs [(88,PI)]) Aca (MD [] .val [(.t 2)] UH Xx) ⟨[(0,.agg [.int .i64 f1.Params,.sl (f1.Slots.map LY),.sl (f1.Code.map LU)])],[],262144⟩ (PH f1)
 refine Mu<|?_
 unfold Aca PH
 refine sQ<|rG<|bX r r r r r<|aN (α:=(List Int)) r (eL Ed) r<|nI<|xS<|sQ<|rG<|fA r r<|lO (v:=.sl (f1.Code.map LU)) (z:=.agg [.int .i64 f1.Params,.sl (f1.Slots.map LY),.sl (f1.Code.map LU)]) r r r r r r<|lS r r<|cK fun hq=>Sn (α:=Int) r r r hq r<|aO (l:=List.replicate (f1.Code.length : Int).toNat ([] : (List Int))) (en:=(fun _=>D.nils)) r r r r<|nI<|PK (E:=[(1,.optr 1 _ 0 0),(3,.osl 4099 _ 0 ((List.replicate (f1.Code.length : Int).toNat ([] : (List Int))).length))]) (O:=[(1,some (_,⟨false,true,3,27,[.agg [.int .i64 f1.Params,.sl (f1.Slots.map LY),.sl (f1.Code.map LU)]]⟩)),(4099,some (_,⟨false,false,1,36,(List.replicate (f1.Code.length : Int).toNat ([] : (List Int))).map (eR 1 3 Ed)⟩))]) ((LB (g:=3) (g2:=4099) r r r (LK (l:=List.replicate (f1.Code.length : Int).toNat ([] : (List Int))) (s':=1) (ty':=3) Ed (by decide) (fun _ h=>List.eq_of_mem_replicate h)) (hE ⟨rfl,r,trivial⟩ ⟨rfl,r,trivial⟩))) fun nn=>sQ<|sQ<|rG<|fA r r<|lO (v:=.sl (f1.Code.map LU)) (z:=.agg [.int .i64 f1.Params,.sl (f1.Slots.map LY),.sl (f1.Code.map LU)]) r r r r r r<|lS r r<|mV r r<|nI<|xS<|bK<|lP (E:=fun (s : (List (List Int)) × Int) (g : Nat × Nat)=>[(1,.optr 1 g.1 0 0),(3,.osl 4099 g.2 0 s.1.length),(13,.int .i64 (f1.Code.length : Int)),(14,.int .i64 s.2)]) (O:=fun s g=>[(1,some (g.1,⟨false,true,3,27,[.agg [.int .i64 f1.Params,.sl (f1.Slots.map LY),.sl (f1.Code.map LU)]]⟩)),(4099,some (g.2,⟨false,false,1,36,s.1.map (eR 1 3 Ed)⟩))]) (body:=fun s=>RA f1 s.1 s.2) (s:=(List.replicate (f1.Code.length : Int).toNat ([] : (List Int)),0)) (_,_) ((hE ⟨rfl,r,r,r,trivial⟩ ⟨rfl,r,trivial⟩))<|?_
 rintro ⟨l2,x3⟩ ⟨v1x1,v4099x1⟩ nn
 try dsimp only
 unfold RA
 refine sQ<|rG<|bN (v:=.bool (decide (x3 < (f1.Code.length : Int)))) r r r r r<|nI<|xS<|sQ<|cD (c:=(decide (x3 < (f1.Code.length : Int)))) r ?_ ?_
 ·refine sK<|xS<|sQ<|bK<|sQ<|rG<|mV r r<|aS r r<|nI<|xS<|sQ<|rG<|lO (v:=.agg [.int .i64 f1.Params,.sl (f1.Slots.map LY),.sl (f1.Code.map LU)]) (z:=.agg [.int .i64 f1.Params,.sl (f1.Slots.map LY),.sl (f1.Code.map LU)]) r r r r r r<|mV r r<|bD fun r4 hr4=>cR (l:=r4) (en:=Ed) (f1,x3) r r r Th r r (by simp) r hr4 r<|lW r r<|mV r r<|nI<|xS<|bK<|lP (E:=fun (s : (List (List Int)) × Int) (g : Nat × Nat × Nat)=>[(1,.optr 1 g.1 0 0),(3,.osl 4099 g.2.2 0 s.1.length),(4,.int .i64 x3),(13,.int .i64 (f1.Code.length : Int)),(14,.int .i64 x3),(19,.osl 19 g.2.1 0 r4.length),(20,.int .i64 (r4.length : Int)),(21,.int .i64 s.2)]) (O:=fun s g=>[(1,some (g.1,⟨false,true,3,27,[.agg [.int .i64 f1.Params,.sl (f1.Slots.map LY),.sl (f1.Code.map LU)]]⟩)),(19,some (g.2.1,⟨false,false,1,3,r4.map Ed⟩)),(4099,some (g.2.2,⟨false,false,1,36,s.1.map (eR 1 3 Ed)⟩))]) (body:=fun s=>RB r4 x3 s.1 s.2) (s:=(l2,0)) (_,_,_) ((hE ⟨rfl,r,r,r,r,r,r,r,trivial⟩ ⟨rfl,r,r,trivial⟩))<|?_
  rintro ⟨l5,x6⟩ ⟨v1x2,v19x2,v4099x2⟩ nn
  try dsimp only
  unfold RB
  refine sQ<|rG<|bN (v:=.bool (decide (x6 < (r4.length : Int)))) r r r r r<|nI<|xS<|sQ<|cD (c:=(decide (x6 < (r4.length : Int)))) r ?_ ?_
  ·exact sK<|xS<|sQ<|bK<|sQ<|rG<|cK fun hq=>iO (l:=r4) (en:=Ed) r r r r r hq<|bD fun x_e7 hx_e7=>lO (v:=.int .i64 x_e7) (z:=Ed x_e7) r r r (NN hx_e7) r r<|aS r r<|nI<|xS<|rG<|mV r r<|mV r r<|mV r r<|mV r r<|cK fun hq=>iO (l:=l5) (en:=(eR 1 3 Ed)) r r r r r hq<|bD fun l_e8 hl_e8=>LJ (q:=l_e8) Ed r r r hl_e8<|mV r r<|bS ([x3] : List Int) Ed r r r (by simp) r r r<|cK fun hq=>LH (l_e8) (([x3] : List Int)) Ed r r r r r r r (by simp) (Ml _ _ r) r r (by simp) (LX _ _ r) (fun _=>r) r hq (fun _=>r)<|cK fun hq=>Lz (by simp) r r r r (by simpa using hq)<|LA (l:=l5) (q:=l_e8) (q':=l_e8 ++ ([x3] : List Int)) Ed rfl rfl rfl rfl (.inr ⟨_,_,_,rfl⟩) hl_e8 rfl rfl ⟨⟨rfl,rfl,by simp,LG fun _=>rfl⟩,trivial,rfl⟩ (congrArg (fun z=>[D.row _ _ z]) (LX _ _ rfl)) rfl<|nI<|bM<|xS<|rG<|bN (v:=.int .i64 (IntKind.i64.wrap (x6 + 1))) rfl rfl rfl rfl rfl<|mV rfl rfl<|nI<|xL (s:=(l5.set x_e7.toNat (l_e8 ++ ([x3] : List Int)),IntKind.i64.wrap (x6 + 1))) (_,_,_) ((hE ⟨rfl,(Zu (q:=l5.length) rfl (by simp)),r,r,r,r,r,r,trivial⟩ ⟨rfl,r,r,trivial⟩))
  ·exact eT<|xE<|lE<|bH<|bM<|xS<|rG<|bN (v:=.int .i64 (IntKind.i64.wrap (x3 + 1))) r r r r r<|mV r r<|nI<|xL (s:=(l5,IntKind.i64.wrap (x3 + 1))) (_,_) ((hE ⟨rfl,r,r,r,trivial⟩ ⟨rfl,r,trivial⟩))
 ·refine eT<|xE<|lE<|bH<|PK (E:=[(3,.osl 4099 _ 0 l2.length)]) (O:=[(4099,some (_,⟨false,false,1,36,l2.map (eL Ed)⟩))]) ((LF (g:=4099) r (LL (l:=l2) Ed (fun _=>r)) (hE ⟨rfl,trivial⟩ ⟨rfl,trivial⟩))) fun nn=>sQ<|rG<|mV r r<|Ly r r r<|nI<|xS<|rT<|Nb (b:=l2) r ?_ r r ?_ (by first | rfl | (simp only [Mf]; rfl) | (simp only [Mh]; rfl) | (simp only [Mf,Mh]; rfl) | simp [UH])
  all_goals first|(simp;done)|(simp;omega)|rfl|(simp [Md,LZ];done)

def AaH : Mj:=(.seq (.reg [P 1 (.box (T 0) 5 66),P 2 (.asg (C 0) none),P 3 (.asg (.c (.bool false)) none)] false) (.seq (.seq (.reg [P 4 (.fldA 0 (T 1)),P 5 (.ld 1 false (T 4))] false) (.block 0 (.seq (.seq (.reg [P 7 (.bin .eql (T 5) (C 16)),P 6 (.asg (T 7) none)] false) (.cond (T 6) .skip (.reg [P 8 (.bin .eql (T 5) (C 17)),P 6 (.asg (T 8) none)] false))) (.cond (T 6) (.seq (.reg [P 9 (.fldA 1 (T 1)),P 10 (.ld 1 false (T 9)),P 2 (.asg (T 10) none),P 3 (.asg (.c (.bool true)) none)] false) .ret) .skip)))) (.seq (.reg [P 2 (.asg (C 0) none),P 3 (.asg (.c (.bool false)) none)] false) .ret)))
theorem AcU : (Tryd.f100.body.bind (Mm Tryd.prog Tryd.f100.ntmps)) = some AaH:=by kernel_rfl
theorem AcV : Tryd.f100.results.toList.mapM (MB Tryd.prog) = some [(.t 2),(.t 3)]:=by kernel_rfl
def Rk (a : LS) : List D:=[LU a]
def Rj (ds : List D) : LS:=Rz (ds.getD 0 .top)
theorem Vh (a : LS) : Rj (Rk a) = a:=by simp [Rj,Rk]
def VB (b : Int × Bool) : D:=.tup [.int .i64 b.1,.bool b.2]
def VA (_b : Int × Bool) : List D:=[]
noncomputable def Sy : Dw.Spec:=Mk [] .ground Rk Rj (fun a=>OO a) VB VA
set_option maxHeartbeats 4000000 in
theorem Yx : Mi Tryd.prog 100 Sy:=by
 refine MA (Nh) Tryd.func100 (by decide) AcU AcV (np:=1) (by decide) Vh (fun _=>r) (fun _=>r) (by decide)<|?_
 intro x1
 show TrE (specs []) AaH (MD [] .ground [(.t 2),(.t 3)] VB VA) ⟨[(0,.agg [.int .i64 x1.Op,.int .i64 x1.A,.int .i64 x1.B,.int .i64 x1.C,.int .u64 x1.Imm])],[],262144⟩ (OO x1)
 refine Mu<|?_
 unfold AaH OO
 refine sQ<|rG<|bX r r r r r<|aS r r<|aS r r<|nI<|xS<|sQ<|sQ<|rG<|fA r r<|lO (v:=.int .i64 x1.Op) (z:=.agg [.int .i64 x1.Op,.int .i64 x1.A,.int .i64 x1.B,.int .i64 x1.C,.int .u64 x1.Imm]) r r r r r r<|nI<|xS<|bK<|sQ<|sQ<|rG<|bN (v:=.bool (x1.Op == 16)) r r r r r<|aS r r<|nI<|xS<|cD (c:=(x1.Op == 16)) r ?_ ?_
 ·refine sK<|xS<|cD (c:=(x1.Op == 16)) r ?_ ?_
  ·refine sQ<|rG<|fA r r<|lO (v:=.int .i64 x1.A) (z:=.agg [.int .i64 x1.Op,.int .i64 x1.A,.int .i64 x1.B,.int .i64 x1.C,.int .u64 x1.Imm]) r r r r r r<|aS r r<|aS r r<|nI<|xS<|rT<|bR<|xR<|OQ (b:=(x1.A,true)) r ?_ r r ?_ r (by decide)
   all_goals first|(simp;done)|(simp;omega)|rfl|(simp [Md,LZ];done)
  ·refine sK<|bM<|xS<|sQ<|rG<|aS r r<|aS r r<|nI<|xS<|rT<|OQ (b:=(0,false)) r ?_ r r ?_ r (by decide)
   all_goals first|(simp;done)|(simp;omega)|rfl|(simp [Md,LZ];done)
 ·refine rG<|bN (v:=.bool (x1.Op == 17)) r r r r r<|aS r r<|nI<|xS<|cD (c:=(x1.Op == 17)) r ?_ ?_
  ·refine sQ<|rG<|fA r r<|lO (v:=.int .i64 x1.A) (z:=.agg [.int .i64 x1.Op,.int .i64 x1.A,.int .i64 x1.B,.int .i64 x1.C,.int .u64 x1.Imm]) r r r r r r<|aS r r<|aS r r<|nI<|xS<|rT<|bR<|xR<|OQ (b:=(x1.A,true)) r ?_ r r ?_ r (by decide)
   all_goals first|(simp;done)|(simp;omega)|rfl|(simp [Md,LZ];done)
  ·refine sK<|bM<|xS<|sQ<|rG<|aS r r<|aS r r<|nI<|xS<|rT<|OQ (b:=(0,false)) r ?_ r r ?_ r (by decide)
   all_goals first|(simp;done)|(simp;omega)|rfl|(simp [Md,LZ];done)

def AaP : Mj:=(.seq (.reg [P 2 (.asg (.c (.bool false)) none)] false) (.seq (.reg [M 3 0,P 4 (.bin .geq (T 3) (C 0)),M 5 4,⟨(some 6),(.mv (T 0)),(some ⟨5,true⟩),[]⟩,⟨(some 7),(.bin .lss (T 6) (C 512)),(some ⟨5,true⟩),[]⟩,P 8 (.pick (T 5) (T 7) (.c (.bool false))),P 2 (.asg (T 8) none)] false) .ret))
theorem Adl : (Tryd.f115.body.bind (Mm Tryd.prog Tryd.f115.ntmps)) = some AaP:=by kernel_rfl
theorem Adm : Tryd.f115.results.toList.mapM (MB Tryd.prog) = some [(.t 2)]:=by kernel_rfl
def PW (a : Int) : List D:=[.int .i64 a]
def PV (ds : List D) : Int:=uI (ds.getD 0 .top)
theorem Ta (a : Int) : PV (PW a) = a:=by simp [PV,PW,uI]
def TE (b : Bool) : D:=.bool b
def TD (_b : Bool) : List D:=[]
noncomputable def QH : Dw.Spec:=Mk [] .ground PW PV (fun a=>NX a) TE TD
set_option maxHeartbeats 4000000 in
theorem Xh : Mi Tryd.prog 115 QH:=by
 refine MA (Nh) Tryd.func115 (by decide) Adl Adm (np:=1) (by decide) Ta (fun _=>r) (fun _=>r) (by decide)<|?_
 intro n1
 show TrE (specs []) AaP (MD [] .ground [(.t 2)] TE TD) ⟨[(0,.int .i64 n1)],[],262144⟩ (NX n1)
 refine Mu<|?_
 unfold AaP NX
 refine sQ<|rG<|aS r r<|nI<|xS<|sQ<|rG<|mV r r<|bN (v:=.bool (decide (n1 ≥ 0))) r r r r r<|mV r r<|sP 5 (b:=(decide (n1 ≥ 0))) r ?_ ?_
 ·refine mV r r<|bN (v:=.bool (decide (n1 < 512))) r r r r r<|pT r r r r<|aS r r<|nI<|xS<|rT<|Mq (b:=(decide (n1 < 512))) r ?_ r r ?_ r
  all_goals first|(simp;done)|(simp;omega)|rfl|(simp [Md,LZ];done)
 ·refine oF r<|oF r<|pF r r r r<|aS r r<|nI<|xS<|rT<|Mq (b:=false) r ?_ r r ?_ r
  all_goals first|(simp;done)|(simp;omega)|rfl|(simp [Md,LZ];done)

def AaK : Mj:=(.seq (.reg [M 7 1,P 8 (.cvt .u64 (T 7)),P 9 (.bin .rem (T 8) (.c (.int .u64 64))),P 10 (.bin .shl (.c (.int .u64 1)) (T 9)),P 6 (.asg (T 10) none)] false) (.block 0 (.seq (.reg [M 22 1,P 23 (.call (.c (.clo 115 [])) [(T 22)]),P 24 (.un .not (T 23)),P 21 (.asg (T 24) none)] false) (.cond (T 21) .skip (.seq (.reg [M 26 2,P 25 (.asg (T 26) none)] false) (.cond (T 25) (.reg [M 27 0,M 28 1,⟨(some 29),(.bin .quo (T 28) (C 64)),none,[1]⟩,⟨(some 30),(.nilck (T 27)),none,[0]⟩,⟨(some 31),(.ixP 1 8 (T 30) (T 29)),none,[3,2]⟩,⟨(some 32),(.ld 1 false (T 31)),none,[4]⟩,M 33 6,⟨(some 34),(.bin .or (T 32) (T 33)),none,[5,6]⟩,⟨(some 35),(.nilck (T 27)),none,[0]⟩,⟨(some 36),(.ixP 1 8 (T 35) (T 29)),none,[8,2,0,1,2,3,4,5,6,7]⟩,⟨none,(.st 1 (T 36) (T 34)),none,[9,7,0,1,2,3,4,5,6,7]⟩] true) (.reg [M 11 0,M 12 1,⟨(some 13),(.bin .quo (T 12) (C 64)),none,[1]⟩,⟨(some 14),(.nilck (T 11)),none,[0]⟩,⟨(some 15),(.ixP 1 8 (T 14) (T 13)),none,[3,2]⟩,⟨(some 16),(.ld 1 false (T 15)),none,[4]⟩,M 17 6,⟨(some 18),(.bin .andNot (T 16) (T 17)),none,[5,6]⟩,⟨(some 19),(.nilck (T 11)),none,[0]⟩,⟨(some 20),(.ixP 1 8 (T 19) (T 13)),none,[8,2,0,1,2,3,4,5,6,7]⟩,⟨none,(.st 1 (T 20) (T 18)),none,[9,7,0,1,2,3,4,5,6,7]⟩] true)))))))
theorem Ada : (Tryd.f103.body.bind (Mm Tryd.prog Tryd.f103.ntmps)) = some AaK:=by kernel_rfl
theorem Adb : Tryd.f103.results.toList.mapM (MB Tryd.prog) = some []:=by kernel_rfl
def PD (a : LV × Int × Bool) : List D:=[MM a.1,.int .i64 a.2.1,.bool a.2.2]
def PC (ds : List D) : LV × Int × Bool:=(Oi (ds.getD 0 .top),uI (ds.getD 1 .top),uBo (ds.getD 2 .top))
theorem PU (a : LV × Int × Bool) : PC (PD a) = a:=by simp [PC,PD,uI,uBo]
def SY (b : LV) : D:=.tup []
def SX (b : LV) : List D:=[MM b]
noncomputable def NT : Dw.Spec:=Mk [(0,(8,122))] .val PD PC (fun a=>Np a.1 a.2.1 a.2.2) SY SX
set_option maxHeartbeats 4000000 in
theorem SK : Mi Tryd.prog 103 NT:=by
 refine MA (Mv (l:=[(115,QH)]) (by simp [Xh])) Tryd.func103 (by decide) Ada Adb (np:=3) (by decide) PU (fun _=>r) (fun _=>r) (by decide)<|?_
 rintro ⟨s1,n2,in3⟩
 show TrE (specs [(115,QH)]) AaK (MD [(0,(8,122))] .val [] SY SX) ⟨[(0,.optr 8192 0 0 0),(1,.int .i64 n2),(2,.bool in3)],[(8192,some (0,⟨false,true,8,122,[.agg [.int .u64 s1.a0,.int .u64 s1.a1,.int .u64 s1.a2,.int .u64 s1.a3,.int .u64 s1.a4,.int .u64 s1.a5,.int .u64 s1.a6,.int .u64 s1.a7]]⟩))],262144⟩ (Np s1 n2 in3)
 refine Mu<|?_
 unfold AaK Np
 refine sQ<|rG<|mV r r<|cT r r<|bN (v:=.int .u64 ((IntKind.u64.wrap (n2)).tmod 64)) r r r r ⟨rfl,(by decide)⟩<|cK fun hq=>bN (v:=.int .u64 (IntKind.u64.wrap (1 * 2 ^ (Nat.min ((IntKind.u64.wrap (n2)).tmod 64).toNat IntKind.u64.bits)))) r r r r hq<|aS r r<|nI<|xS<|bK<|sQ<|rG<|mV r r<|bD fun r4 hr4=>cG n2 r r r Ta r r (by simp) r hr4 r<|uN (w:=.bool (!r4)) r r r r trivial<|aS r r<|nI<|xS<|cD (c:=(!r4)) r ?_ ?_
 ·refine sK<|bM<|Wu (b:=s1) r ?_ r r ?_ r (by decide)
  all_goals first|(simp;done)|(simp;omega)|rfl|(simp [Md,LZ];done)
 ·refine sQ<|rG<|mV r r<|aS r r<|nI<|xS<|cD (c:=in3) r ?_ ?_
  ·refine rG<|mV r r<|mV r r<|bN (v:=.int .i64 (IntKind.i64.wrap (n2.tdiv 64))) r r r r ⟨rfl,(by decide)⟩<|nC r r r<|cK fun hq=>SR r r r hq<|bD fun s_e5 hs_e5=>Tz (q:=s_e5) (l:=s1.toList) (en:=Vz) (j:=(IntKind.i64.wrap (n2.tdiv 64)).toNat) (by simp) r r r hs_e5 r (fun _=>r)<|mV r r<|bN (v:=.int .u64 (IntKind.u64.wrap ((BitVec.ofInt IntKind.u64.bits s_e5 ||| BitVec.ofInt IntKind.u64.bits (IntKind.u64.wrap (1 * 2 ^ (Nat.min ((IntKind.u64.wrap (n2)).tmod 64).toNat IntKind.u64.bits)))).toNat))) r r r r r<|nC r r r<|cK fun hq=>SR r r r hq<|bD fun s_o6 hs_o6=>Wo (q:=s_o6) (q':=IntKind.u64.wrap ((BitVec.ofInt IntKind.u64.bits s_e5 ||| BitVec.ofInt IntKind.u64.bits (IntKind.u64.wrap (1 * 2 ^ (Nat.min ((IntKind.u64.wrap (n2)).tmod 64).toNat IntKind.u64.bits)))).toNat)) (l:=s1.toList) (en:=Vz) (j:=(IntKind.i64.wrap (n2.tdiv 64)).toNat) (z':=.agg [.int .u64 ((s1.set ((IntKind.i64.wrap (n2.tdiv 64)).toNat) (IntKind.u64.wrap ((BitVec.ofInt IntKind.u64.bits s_e5 ||| BitVec.ofInt IntKind.u64.bits (IntKind.u64.wrap (1 * 2 ^ (Nat.min ((IntKind.u64.wrap (n2)).tmod 64).toNat IntKind.u64.bits)))).toNat))).a0),.int .u64 ((s1.set ((IntKind.i64.wrap (n2.tdiv 64)).toNat) (IntKind.u64.wrap ((BitVec.ofInt IntKind.u64.bits s_e5 ||| BitVec.ofInt IntKind.u64.bits (IntKind.u64.wrap (1 * 2 ^ (Nat.min ((IntKind.u64.wrap (n2)).tmod 64).toNat IntKind.u64.bits)))).toNat))).a1),.int .u64 ((s1.set ((IntKind.i64.wrap (n2.tdiv 64)).toNat) (IntKind.u64.wrap ((BitVec.ofInt IntKind.u64.bits s_e5 ||| BitVec.ofInt IntKind.u64.bits (IntKind.u64.wrap (1 * 2 ^ (Nat.min ((IntKind.u64.wrap (n2)).tmod 64).toNat IntKind.u64.bits)))).toNat))).a2),.int .u64 ((s1.set ((IntKind.i64.wrap (n2.tdiv 64)).toNat) (IntKind.u64.wrap ((BitVec.ofInt IntKind.u64.bits s_e5 ||| BitVec.ofInt IntKind.u64.bits (IntKind.u64.wrap (1 * 2 ^ (Nat.min ((IntKind.u64.wrap (n2)).tmod 64).toNat IntKind.u64.bits)))).toNat))).a3),.int .u64 ((s1.set ((IntKind.i64.wrap (n2.tdiv 64)).toNat) (IntKind.u64.wrap ((BitVec.ofInt IntKind.u64.bits s_e5 ||| BitVec.ofInt IntKind.u64.bits (IntKind.u64.wrap (1 * 2 ^ (Nat.min ((IntKind.u64.wrap (n2)).tmod 64).toNat IntKind.u64.bits)))).toNat))).a4),.int .u64 ((s1.set ((IntKind.i64.wrap (n2.tdiv 64)).toNat) (IntKind.u64.wrap ((BitVec.ofInt IntKind.u64.bits s_e5 ||| BitVec.ofInt IntKind.u64.bits (IntKind.u64.wrap (1 * 2 ^ (Nat.min ((IntKind.u64.wrap (n2)).tmod 64).toNat IntKind.u64.bits)))).toNat))).a5),.int .u64 ((s1.set ((IntKind.i64.wrap (n2.tdiv 64)).toNat) (IntKind.u64.wrap ((BitVec.ofInt IntKind.u64.bits s_e5 ||| BitVec.ofInt IntKind.u64.bits (IntKind.u64.wrap (1 * 2 ^ (Nat.min ((IntKind.u64.wrap (n2)).tmod 64).toNat IntKind.u64.bits)))).toNat))).a6),.int .u64 ((s1.set ((IntKind.i64.wrap (n2.tdiv 64)).toNat) (IntKind.u64.wrap ((BitVec.ofInt IntKind.u64.bits s_e5 ||| BitVec.ofInt IntKind.u64.bits (IntKind.u64.wrap (1 * 2 ^ (Nat.min ((IntKind.u64.wrap (n2)).tmod 64).toNat IntKind.u64.bits)))).toNat))).a7)]) (by simp) r r r r r hs_o6 r r (congrArg (fun l=>D.agg (l.map Vz)) (NR s1 ((IntKind.i64.wrap (n2.tdiv 64)).toNat) (IntKind.u64.wrap ((BitVec.ofInt IntKind.u64.bits s_e5 ||| BitVec.ofInt IntKind.u64.bits (IntKind.u64.wrap (1 * 2 ^ (Nat.min ((IntKind.u64.wrap (n2)).tmod 64).toNat IntKind.u64.bits)))).toNat))).symm) r r<|Mw (by kernel_rfl)<|bM<|Wu (b:=(s1.set ((IntKind.i64.wrap (n2.tdiv 64)).toNat) (IntKind.u64.wrap ((BitVec.ofInt IntKind.u64.bits s_e5 ||| BitVec.ofInt IntKind.u64.bits (IntKind.u64.wrap (1 * 2 ^ (Nat.min ((IntKind.u64.wrap (n2)).tmod 64).toNat IntKind.u64.bits)))).toNat)))) r ?_ r r ?_ r (by decide)
   all_goals first|(simp;done)|(simp;omega)|rfl|(simp [Md,LZ];done)
  ·refine rG<|mV r r<|mV r r<|bN (v:=.int .i64 (IntKind.i64.wrap (n2.tdiv 64))) r r r r ⟨rfl,(by decide)⟩<|nC r r r<|cK fun hq=>SR r r r hq<|bD fun s_e7 hs_e7=>Tz (q:=s_e7) (l:=s1.toList) (en:=Vz) (j:=(IntKind.i64.wrap (n2.tdiv 64)).toNat) (by simp) r r r hs_e7 r (fun _=>r)<|mV r r<|bN (v:=.int .u64 (IntKind.u64.wrap ((BitVec.ofInt IntKind.u64.bits s_e7 &&& ~~~ BitVec.ofInt IntKind.u64.bits (IntKind.u64.wrap (1 * 2 ^ (Nat.min ((IntKind.u64.wrap (n2)).tmod 64).toNat IntKind.u64.bits)))).toNat))) r r r r r<|nC r r r<|cK fun hq=>SR r r r hq<|bD fun s_o8 hs_o8=>Wo (q:=s_o8) (q':=IntKind.u64.wrap ((BitVec.ofInt IntKind.u64.bits s_e7 &&& ~~~ BitVec.ofInt IntKind.u64.bits (IntKind.u64.wrap (1 * 2 ^ (Nat.min ((IntKind.u64.wrap (n2)).tmod 64).toNat IntKind.u64.bits)))).toNat)) (l:=s1.toList) (en:=Vz) (j:=(IntKind.i64.wrap (n2.tdiv 64)).toNat) (z':=.agg [.int .u64 ((s1.set ((IntKind.i64.wrap (n2.tdiv 64)).toNat) (IntKind.u64.wrap ((BitVec.ofInt IntKind.u64.bits s_e7 &&& ~~~ BitVec.ofInt IntKind.u64.bits (IntKind.u64.wrap (1 * 2 ^ (Nat.min ((IntKind.u64.wrap (n2)).tmod 64).toNat IntKind.u64.bits)))).toNat))).a0),.int .u64 ((s1.set ((IntKind.i64.wrap (n2.tdiv 64)).toNat) (IntKind.u64.wrap ((BitVec.ofInt IntKind.u64.bits s_e7 &&& ~~~ BitVec.ofInt IntKind.u64.bits (IntKind.u64.wrap (1 * 2 ^ (Nat.min ((IntKind.u64.wrap (n2)).tmod 64).toNat IntKind.u64.bits)))).toNat))).a1),.int .u64 ((s1.set ((IntKind.i64.wrap (n2.tdiv 64)).toNat) (IntKind.u64.wrap ((BitVec.ofInt IntKind.u64.bits s_e7 &&& ~~~ BitVec.ofInt IntKind.u64.bits (IntKind.u64.wrap (1 * 2 ^ (Nat.min ((IntKind.u64.wrap (n2)).tmod 64).toNat IntKind.u64.bits)))).toNat))).a2),.int .u64 ((s1.set ((IntKind.i64.wrap (n2.tdiv 64)).toNat) (IntKind.u64.wrap ((BitVec.ofInt IntKind.u64.bits s_e7 &&& ~~~ BitVec.ofInt IntKind.u64.bits (IntKind.u64.wrap (1 * 2 ^ (Nat.min ((IntKind.u64.wrap (n2)).tmod 64).toNat IntKind.u64.bits)))).toNat))).a3),.int .u64 ((s1.set ((IntKind.i64.wrap (n2.tdiv 64)).toNat) (IntKind.u64.wrap ((BitVec.ofInt IntKind.u64.bits s_e7 &&& ~~~ BitVec.ofInt IntKind.u64.bits (IntKind.u64.wrap (1 * 2 ^ (Nat.min ((IntKind.u64.wrap (n2)).tmod 64).toNat IntKind.u64.bits)))).toNat))).a4),.int .u64 ((s1.set ((IntKind.i64.wrap (n2.tdiv 64)).toNat) (IntKind.u64.wrap ((BitVec.ofInt IntKind.u64.bits s_e7 &&& ~~~ BitVec.ofInt IntKind.u64.bits (IntKind.u64.wrap (1 * 2 ^ (Nat.min ((IntKind.u64.wrap (n2)).tmod 64).toNat IntKind.u64.bits)))).toNat))).a5),.int .u64 ((s1.set ((IntKind.i64.wrap (n2.tdiv 64)).toNat) (IntKind.u64.wrap ((BitVec.ofInt IntKind.u64.bits s_e7 &&& ~~~ BitVec.ofInt IntKind.u64.bits (IntKind.u64.wrap (1 * 2 ^ (Nat.min ((IntKind.u64.wrap (n2)).tmod 64).toNat IntKind.u64.bits)))).toNat))).a6),.int .u64 ((s1.set ((IntKind.i64.wrap (n2.tdiv 64)).toNat) (IntKind.u64.wrap ((BitVec.ofInt IntKind.u64.bits s_e7 &&& ~~~ BitVec.ofInt IntKind.u64.bits (IntKind.u64.wrap (1 * 2 ^ (Nat.min ((IntKind.u64.wrap (n2)).tmod 64).toNat IntKind.u64.bits)))).toNat))).a7)]) (by simp) r r r r r hs_o8 r r (congrArg (fun l=>D.agg (l.map Vz)) (NR s1 ((IntKind.i64.wrap (n2.tdiv 64)).toNat) (IntKind.u64.wrap ((BitVec.ofInt IntKind.u64.bits s_e7 &&& ~~~ BitVec.ofInt IntKind.u64.bits (IntKind.u64.wrap (1 * 2 ^ (Nat.min ((IntKind.u64.wrap (n2)).tmod 64).toNat IntKind.u64.bits)))).toNat))).symm) r r<|Mw (by kernel_rfl)<|bM<|Wu (b:=(s1.set ((IntKind.i64.wrap (n2.tdiv 64)).toNat) (IntKind.u64.wrap ((BitVec.ofInt IntKind.u64.bits s_e7 &&& ~~~ BitVec.ofInt IntKind.u64.bits (IntKind.u64.wrap (1 * 2 ^ (Nat.min ((IntKind.u64.wrap (n2)).tmod 64).toNat IntKind.u64.bits)))).toNat)))) r ?_ r r ?_ r (by decide)
   all_goals first|(simp;done)|(simp;omega)|rfl|(simp [Md,LZ];done)

def Acs : Mj:=(.seq (.reg [P 2 (.asg (.c .top) none)] false) (.seq (.reg [P 6 (.bld [(.int .u64 0),(.int .u64 0),(.int .u64 0),(.int .u64 0),(.int .u64 0),(.int .u64 0),(.int .u64 0),(.int .u64 0)] []),P 7 (.box (T 6) 8 122),P 3 (.asg (T 7) none)] false) (.seq (.seq (.reg [M 8 0,P 9 (.len false (T 8)),P 10 (.mv (C 0))] false) (.block 0 (.loop (.seq (.reg [P 11 (.bin .lss (T 10) (T 9))] false) (.seq (.cond (T 11) .skip (.exit 0)) (.seq (.block 1 (.seq (.reg [P 12 (.ixA 1 (T 8) (T 10)),P 13 (.ld 1 false (T 12)),P 5 (.asg (T 13) none)] false) (.reg [M 14 3,M 15 5,P 16 (.call (.c (.clo 103 [])) [(T 14),(T 15),(.c (.bool true))])] false))) (.reg [P 17 (.bin .add (T 10) (C 1)),M 10 17] false))))))) (.seq (.reg [M 18 3,P 2 (.asg (T 18) none)] false) .ret))))
theorem Afg : (Tryd.f95.body.bind (Mm Tryd.prog Tryd.f95.ntmps)) = some Acs:=by kernel_rfl
theorem Afh : Tryd.f95.results.toList.mapM (MB Tryd.prog) = some [(.t 2)]:=by kernel_rfl
def RQ (a : (List Int)) : List D:=[.sl (a.map Ed)]
def RP (ds : List D) : (List Int):=(uL uI) (ds.getD 0 .top)
theorem OT (a : (List Int)) : RP (RQ a) = a:=by simp [RP,RQ,Oh (u:=uI) (en:=Ed) (fun _=>rfl)]
def We (b : LV) : D:=MM b
def Wd (_b : LV) : List D:=[]
noncomputable def NS : Dw.Spec:=Mk [] (.ptr 8 122) RQ RP (fun a=>ND a) We Wd
set_option maxHeartbeats 4000000 in
theorem Sx : Mi Tryd.prog 95 NS:=by
 refine MA (Mv (l:=[(103,NT)]) (by simp [SK])) Tryd.func95 (by decide) Afg Afh (np:=1) (by decide) OT (fun _=>r) (fun _=>r) (by decide)<|?_
 intro l1
 show TrE (specs [(103,NT)]) Acs (MD [] (.ptr 8 122) [(.t 2)] We Wd) ⟨[(0,.sl (l1.map Ed))],[],262144⟩ (ND l1)
 refine Mu<|?_
 unfold Acs ND
 refine sQ<|rG<|aS r r<|nI<|xS<|sQ<|rG<|bL (cs:=[.int .u64 0,.int .u64 0,.int .u64 0,.int .u64 0,.int .u64 0,.int .u64 0,.int .u64 0,.int .u64 0]) (ps:=[]) r r r r<|bX r r r r r<|aS r r<|nI<|xS<|sQ<|sQ<|rG<|mV r r<|lS r r<|mV r r<|nI<|xS<|bK<|lP (E:=fun (s : LV × Int) (g : Nat)=>[(3,.optr 7 g 0 0),(8,.sl (l1.map Ed)),(9,.int .i64 (l1.length : Int)),(10,.int .i64 s.2)]) (O:=fun s g=>[(7,some (g,⟨false,true,8,122,[.agg [.int .u64 s.1.a0,.int .u64 s.1.a1,.int .u64 s.1.a2,.int .u64 s.1.a3,.int .u64 s.1.a4,.int .u64 s.1.a5,.int .u64 s.1.a6,.int .u64 s.1.a7]]⟩))]) (body:=fun s=>Ql l1 s.1 s.2) (s:=((LV.mk 0 0 0 0 0 0 0 0),0)) _ ((hE ⟨rfl,r,r,r,trivial⟩ ⟨rfl,trivial⟩))<|?_
 rintro ⟨x2,x3⟩ v7x1 nn
 try dsimp only
 unfold Ql
 refine sQ<|rG<|bN (v:=.bool (decide (x3 < (l1.length : Int)))) r r r r r<|nI<|xS<|sQ<|cD (c:=(decide (x3 < (l1.length : Int)))) r ?_ ?_
 ·exact sK<|xS<|sQ<|bK<|sQ<|rG<|bD fun x_x4 hx_x4=>iS (en:=Ed) r r r hx_x4 r<|lF (v:=.int .i64 x_x4) r r r r<|aS r r<|nI<|xS<|rG<|mV r r<|mV r r<|bD fun r5 hr5=>cV (x2,x_x4,true) r r r PU r r (by simp) r hr5<|nI<|bM<|xS<|rG<|bN (v:=.int .i64 (IntKind.i64.wrap (x3 + 1))) r r r r r<|mV r r<|nI<|xL (s:=(r5,IntKind.i64.wrap (x3 + 1))) _ ((hE ⟨rfl,r,r,r,trivial⟩ ⟨rfl,trivial⟩))
 ·refine eT<|xE<|lE<|bH<|xS<|sQ<|rG<|mV r r<|aS r r<|nI<|xS<|rT<|Zx (b:=x2) r ?_ r ?_ r r ?_ r
  all_goals first|(simp;done)|(simp;omega)|rfl|(simp [Md,LZ];done)

def Acw : Mj:=(.seq (.reg [⟨(some 2),(.asg (.c .nils) (some ⟨1,3⟩)),none,[]⟩] false) (.seq (.reg [⟨(some 3),(.asg (.c .nils) (some ⟨1,3⟩)),none,[]⟩] false) (.seq (.seq (.reg [M 6 0,P 7 (.mv (C 0))] false) (.block 0 (.loop (.seq (.reg [P 8 (.bin .lss (T 7) (C 8))] false) (.seq (.cond (T 8) .skip (.exit 0)) (.seq (.block 1 (.seq (.reg [M 9 7,P 10 (.nilck (T 6)),⟨(some 11),(.ixP 1 8 (T 10) (T 7)),none,[1]⟩,⟨(some 12),(.ld 1 false (T 11)),none,[2]⟩,⟨(some 4),(.asg (T 9) none),none,[0,0]⟩,⟨(some 5),(.asg (T 12) none),none,[3,4,0,1,2,3,4]⟩] true) (.block 2 (.loop (.seq (.seq (.reg [M 13 5,P 14 (.bin .neq (T 13) (.c (.int .u64 0)))] false) (.cond (T 14) .skip (.exit 2))) (.seq (.block 3 (.reg [M 19 3,M 20 4,P 21 (.bin .mul (C 64) (T 20)),M 22 5,P 23 (.call (.c (.clo 117 [])) [(T 22)]),P 24 (.bin .add (T 21) (T 23)),⟨(some 25),(.bldS 1 3 (.int .i64 0) 1 [⟨0,(T 24)⟩]),none,[]⟩,P 26 (.app 1 3 8 (T 19) (T 25)),⟨(some 3),(.asg (T 26) (some ⟨1,3⟩)),none,[]⟩] false)) (.reg [M 15 5,M 16 5,P 17 (.bin .sub (T 16) (.c (.int .u64 1))),P 18 (.bin .and (T 15) (T 17)),P 5 (.asg (T 18) none)] false))))))) (.reg [P 27 (.bin .add (T 7) (C 1)),M 7 27] false))))))) (.seq (.reg [M 28 3,⟨(some 2),(.asg (T 28) (some ⟨1,3⟩)),none,[]⟩] false) .ret))))
theorem Afm : (Tryd.f98.body.bind (Mm Tryd.prog Tryd.f98.ntmps)) = some Acw:=by kernel_rfl
theorem Afn : Tryd.f98.results.toList.mapM (MB Tryd.prog) = some [(.t 2)]:=by kernel_rfl
def Pg (a : LV) : List D:=[MM a]
def Pf (ds : List D) : LV:=Oi (ds.getD 0 .top)
theorem Ol (a : LV) : Pf (Pg a) = a:=by simp [Pf,Pg]
def SJ (b : (List Int) × LV) : D:=.sl (b.1.map Ed)
def SI (b : (List Int) × LV) : List D:=[MM b.2]
noncomputable def Nf : Dw.Spec:=Mk [(0,(8,122))] (.row 1 3) Pg Pf (fun a=>Nd a) SJ SI
set_option maxHeartbeats 4000000 in
theorem PA : Mi Tryd.prog 98 Nf:=by
 refine MA (Mv (l:=[(117,Zo)]) (by simp [AdC])) Tryd.func98 (by decide) Afm Afn (np:=1) (by decide) Ol (fun _=>r) (fun _=>r) (by decide)<|?_
 intro s1
 show TrE (specs [(117,Zo)]) Acw (MD [(0,(8,122))] (.row 1 3) [(.t 2)] SJ SI) ⟨[(0,.optr 8192 0 0 0)],[(8192,some (0,⟨false,true,8,122,[.agg [.int .u64 s1.a0,.int .u64 s1.a1,.int .u64 s1.a2,.int .u64 s1.a3,.int .u64 s1.a4,.int .u64 s1.a5,.int .u64 s1.a6,.int .u64 s1.a7]]⟩))],262144⟩ (Nd s1)
 refine Mu<|?_
 unfold Acw Nd
 refine sQ<|rG<|aN (α:=Int) r Ed r<|nI<|xS<|sQ<|rG<|aN (α:=Int) r Ed r<|nI<|xS<|sQ<|sQ<|rG<|mV r r<|mV r r<|nI<|xS<|bK<|lP (E:=fun (s : (List Int) × Int) (g : Nat)=>[(3,.osl 3 g 0 s.1.length),(6,.optr 8192 0 0 0),(7,.int .i64 s.2)]) (O:=fun s g=>[(3,some (g,⟨false,false,1,3,s.1.map Ed⟩)),(8192,some (0,⟨false,true,8,122,[.agg [.int .u64 s1.a0,.int .u64 s1.a1,.int .u64 s1.a2,.int .u64 s1.a3,.int .u64 s1.a4,.int .u64 s1.a5,.int .u64 s1.a6,.int .u64 s1.a7]]⟩))]) (body:=fun s=>Oj s1 s.1 s.2) (s:=(([] : List Int),0)) _ ((hE ⟨rfl,r,r,trivial⟩ ⟨rfl,r,trivial⟩))<|?_
 rintro ⟨l2,x3⟩ v3x1 nn
 try dsimp only
 unfold Oj
 refine sQ<|rG<|bN (v:=.bool (decide (x3 < 8))) r r r r r<|nI<|xS<|sQ<|cD (c:=(decide (x3 < 8))) r ?_ ?_
 ·refine sK<|xS<|sQ<|bK<|sQ<|rG<|mV r r<|nC r r r<|cK fun hq=>SR r r r hq<|bD fun s_e4 hs_e4=>Tz (q:=s_e4) (l:=s1.toList) (en:=Vz) (j:=x3.toNat) (by simp) r r r hs_e4 r (fun _=>r)<|aS r r<|aS r r<|Mw (by kernel_rfl)<|xS<|bK<|lP (E:=fun (s : (List Int) × Int) (g : Nat)=>[(3,.osl 3 g 0 s.1.length),(4,.int .i64 x3),(5,.int .u64 s.2),(6,.optr 8192 0 0 0),(7,.int .i64 x3)]) (O:=fun s g=>[(3,some (g,⟨false,false,1,3,s.1.map Ed⟩)),(8192,some (0,⟨false,true,8,122,[.agg [.int .u64 s1.a0,.int .u64 s1.a1,.int .u64 s1.a2,.int .u64 s1.a3,.int .u64 s1.a4,.int .u64 s1.a5,.int .u64 s1.a6,.int .u64 s1.a7]]⟩))]) (body:=fun s=>Ok x3 s.1 s.2) (s:=(l2,s_e4)) _ ((hE ⟨rfl,r,r,r,r,trivial⟩ ⟨rfl,r,trivial⟩))<|?_
  rintro ⟨l5,x6⟩ v3x2 nn
  try dsimp only
  unfold Ok
  refine sQ<|sQ<|rG<|mV r r<|bN (v:=.bool (x6 != 0)) r r r r r<|nI<|xS<|cD (c:=(x6 != 0)) r ?_ ?_
  ·exact sK<|xS<|sQ<|bK<|rG<|mV r r<|mV r r<|bN (v:=.int .i64 (IntKind.i64.wrap (64 * x3))) r r r r r<|mV r r<|bD fun r7 hr7=>cG x6 r r r AaE r r (by simp) r hr7 r<|bN (v:=.int .i64 (IntKind.i64.wrap ((IntKind.i64.wrap (64 * x3)) + r7))) r r r r r<|bS ([IntKind.i64.wrap ((IntKind.i64.wrap (64 * x3)) + r7)] : List Int) Ed r r r (by simp) r r r<|cK fun hq=>aP (l5) (([IntKind.i64.wrap ((IntKind.i64.wrap (64 * x3)) + r7)] : List Int)) Ed r r r r r r r (by simp) (Ml _ _ r) r r (by simp) (LX _ _ r) (fun _=>r) r hq<|aO (l:=l5 ++ ([IntKind.i64.wrap ((IntKind.i64.wrap (64 * x3)) + r7)] : List Int)) (en:=Ed) r r r r<|nI<|bM<|xS<|rG<|mV r r<|mV r r<|bN (v:=.int .u64 (IntKind.u64.wrap (x6 - 1))) r r r r r<|bN (v:=.int .u64 (IntKind.u64.wrap ((BitVec.ofInt IntKind.u64.bits x6 &&& BitVec.ofInt IntKind.u64.bits (IntKind.u64.wrap (x6 - 1))).toNat))) r r r r r<|aS r r<|nI<|xL (s:=(l5 ++ ([IntKind.i64.wrap ((IntKind.i64.wrap (64 * x3)) + r7)] : List Int),IntKind.u64.wrap ((BitVec.ofInt IntKind.u64.bits x6 &&& BitVec.ofInt IntKind.u64.bits (IntKind.u64.wrap (x6 - 1))).toNat))) _ ((hE ⟨rfl,r,r,r,r,trivial⟩ ⟨rfl,r,trivial⟩))
  ·exact eT<|xE<|lE<|bH<|bM<|xS<|rG<|bN (v:=.int .i64 (IntKind.i64.wrap (x3 + 1))) r r r r r<|mV r r<|nI<|xL (s:=(l5,IntKind.i64.wrap (x3 + 1))) _ ((hE ⟨rfl,r,r,trivial⟩ ⟨rfl,r,trivial⟩))
 ·refine eT<|xE<|lE<|bH<|xS<|sQ<|rG<|mV r r<|aO (l:=l2) (en:=Ed) r r r r<|nI<|xS<|rT<|My (b:=(l2,s1)) r ?_ r r ?_ r ?_ (congrArg D.sl (LX _ _ r)) r
  all_goals first|(simp;done)|(simp;omega)|rfl|(simp [Md,LZ];done)

def Acm : Mj:=(.seq (.reg [⟨(some 4),(.asg (.c .nils) (some ⟨1,3⟩)),none,[]⟩] false) (.seq (.reg [M 6 0,P 7 (.call (.c (.clo 95 [])) [(T 6)]),P 5 (.asg (T 7) none)] false) (.seq (.reg [M 8 5,M 9 1,P 10 (.call (.c (.clo 103 [])) [(T 8),(T 9),(.c (.bool false))])] false) (.seq (.reg [M 11 5,P 12 (.call (.c (.clo 98 [])) [(T 11)]),⟨(some 4),(.asg (T 12) (some ⟨1,3⟩)),none,[]⟩] false) .ret))))
theorem AeU : (Tryd.f77.body.bind (Mm Tryd.prog Tryd.f77.ntmps)) = some Acm:=by kernel_rfl
theorem AeV : Tryd.f77.results.toList.mapM (MB Tryd.prog) = some [(.t 4)]:=by kernel_rfl
def RO (a : (List Int) × Int) : List D:=[.sl (a.1.map Ed),.int .i64 a.2]
def RN (ds : List D) : (List Int) × Int:=((uL uI) (ds.getD 0 .top),uI (ds.getD 1 .top))
theorem Vs (a : (List Int) × Int) : RN (RO a) = a:=by simp [RN,RO,uI,Oh (u:=uI) (en:=Ed) (fun _=>rfl)]
def SU (b : (List Int)) : D:=.sl (b.map Ed)
def Wc (_b : (List Int)) : List D:=[]
noncomputable def SV : Dw.Spec:=Mk [] .val RO RN (fun a=>OD a.1 a.2) SU Wc
set_option maxHeartbeats 4000000 in
theorem YS : Mi Tryd.prog 77 SV:=by
 refine MA (Mv (l:=[(95,NS),(103,NT),(98,Nf)]) (by simp [Sx,SK,PA])) Tryd.func77 (by decide) AeU AeV (np:=2) (by decide) Vs (fun _=>r) (fun _=>r) (by decide)<|?_
 rintro ⟨s1,n2⟩
 show TrE (specs [(95,NS),(103,NT),(98,Nf)]) Acm (MD [] .val [(.t 4)] SU Wc) ⟨[(0,.sl (s1.map Ed)),(1,.int .i64 n2)],[],262144⟩ (OD s1 n2)
 refine Mu<|?_
 unfold Acm OD
 refine sQ<|rG<|aN (α:=Int) r Ed r<|nI<|xS<|sQ<|rG<|mV r r<|bD fun r3 hr3=>cP s1 r r r OT r r (by simp) r hr3<|aS r r<|nI<|xS<|sQ<|rG<|mV r r<|mV r r<|bD fun r4 hr4=>cV (r3,n2,false) r r r PU r r (by simp) r hr4<|nI<|xS<|sQ<|rG<|mV r r<|bD fun r5 hr5=>cR (l:=r5.1) (en:=Ed) r4 r r r Ol r r (by simp) r hr5 r<|aO (l:=r5.1) (en:=Ed) r r r r<|nI<|xS<|rT<|Nb (b:=r5.1) r ?_ r r ?_ (by first | rfl | (simp only [Mf]; rfl) | (simp only [Mh]; rfl) | (simp only [Mf,Mh]; rfl) | simp [SU])
 all_goals first|(simp;done)|(simp;omega)|rfl|(simp [Md,LZ];done)

def AaJ : Mj:=(.seq (.reg [P 1 (.box (T 0) 5 66),⟨(some 2),(.asg (.c .nils) (some ⟨1,3⟩)),none,[]⟩] false) (.seq (.seq (.reg [P 3 (.fldA 0 (T 1)),P 4 (.ld 1 false (T 3))] false) (.block 0 (.seq (.seq (.reg [P 6 (.bin .eql (T 4) (C 15)),P 5 (.asg (T 6) none)] false) (.cond (T 5) .skip (.reg [P 7 (.bin .eql (T 4) (C 17)),P 5 (.asg (T 7) none)] false))) (.cond (T 5) (.seq (.reg [P 8 (.fldA 2 (T 1)),P 9 (.ld 1 false (T 8)),⟨(some 10),(.bldS 1 3 (.int .i64 0) 1 [⟨0,(T 9)⟩]),none,[]⟩,⟨(some 2),(.asg (T 10) (some ⟨1,3⟩)),none,[]⟩] false) .ret) .skip)))) (.seq (.reg [⟨(some 2),(.asg (.c .nils) (some ⟨1,3⟩)),none,[]⟩] false) .ret)))
theorem AcY : (Tryd.f102.body.bind (Mm Tryd.prog Tryd.f102.ntmps)) = some AaJ:=by kernel_rfl
theorem AcZ : Tryd.f102.results.toList.mapM (MB Tryd.prog) = some [(.t 2)]:=by kernel_rfl
def Te (a : LS) : List D:=[LU a]
def Td (ds : List D) : LS:=Rz (ds.getD 0 .top)
theorem TM (a : LS) : Td (Te a) = a:=by simp [Td,Te]
def Xw (b : (List Int)) : D:=.sl (b.map Ed)
def Xv (_b : (List Int)) : List D:=[]
noncomputable def UG : Dw.Spec:=Mk [] (.row 1 3) Te Td (fun a=>PG a) Xw Xv
set_option maxHeartbeats 4000000 in
theorem Zq : Mi Tryd.prog 102 UG:=by
 refine MA (Nh) Tryd.func102 (by decide) AcY AcZ (np:=1) (by decide) TM (fun _=>r) (fun _=>r) (by decide)<|?_
 intro x1
 show TrE (specs []) AaJ (MD [] (.row 1 3) [(.t 2)] Xw Xv) ⟨[(0,.agg [.int .i64 x1.Op,.int .i64 x1.A,.int .i64 x1.B,.int .i64 x1.C,.int .u64 x1.Imm])],[],262144⟩ (PG x1)
 refine Mu<|?_
 unfold AaJ PG
 refine sQ<|rG<|bX r r r r r<|aN (α:=Int) r Ed r<|nI<|xS<|sQ<|sQ<|rG<|fA r r<|lO (v:=.int .i64 x1.Op) (z:=.agg [.int .i64 x1.Op,.int .i64 x1.A,.int .i64 x1.B,.int .i64 x1.C,.int .u64 x1.Imm]) r r r r r r<|nI<|xS<|bK<|sQ<|sQ<|rG<|bN (v:=.bool (x1.Op == 15)) r r r r r<|aS r r<|nI<|xS<|cD (c:=(x1.Op == 15)) r ?_ ?_
 ·refine sK<|xS<|cD (c:=(x1.Op == 15)) r ?_ ?_
  ·refine sQ<|rG<|fA r r<|lO (v:=.int .i64 x1.B) (z:=.agg [.int .i64 x1.Op,.int .i64 x1.A,.int .i64 x1.B,.int .i64 x1.C,.int .u64 x1.Imm]) r r r r r r<|bS ([x1.B] : List Int) Ed r r r (by simp) r r r<|aO (l:=([x1.B] : List Int)) (en:=Ed) r r r r<|nI<|xS<|rT<|bR<|xR<|My (b:=([x1.B] : List Int)) r ?_ r r ?_ r ?_ (congrArg D.sl (LX _ _ r)) r
   all_goals first|(simp;done)|(simp;omega)|rfl|(simp [Md,LZ];done)
  ·refine sK<|bM<|xS<|sQ<|rG<|aN (α:=Int) r Ed r<|nI<|xS<|rT<|My (b:=([] : List Int)) r ?_ r r ?_ r ?_ (congrArg D.sl (LX _ _ r)) r
   all_goals first|(simp;done)|(simp;omega)|rfl|(simp [Md,LZ];done)
 ·refine rG<|bN (v:=.bool (x1.Op == 17)) r r r r r<|aS r r<|nI<|xS<|cD (c:=(x1.Op == 17)) r ?_ ?_
  ·refine sQ<|rG<|fA r r<|lO (v:=.int .i64 x1.B) (z:=.agg [.int .i64 x1.Op,.int .i64 x1.A,.int .i64 x1.B,.int .i64 x1.C,.int .u64 x1.Imm]) r r r r r r<|bS ([x1.B] : List Int) Ed r r r (by simp) r r r<|aO (l:=([x1.B] : List Int)) (en:=Ed) r r r r<|nI<|xS<|rT<|bR<|xR<|My (b:=([x1.B] : List Int)) r ?_ r r ?_ r ?_ (congrArg D.sl (LX _ _ r)) r
   all_goals first|(simp;done)|(simp;omega)|rfl|(simp [Md,LZ];done)
  ·refine sK<|bM<|xS<|sQ<|rG<|aN (α:=Int) r Ed r<|nI<|xS<|rT<|My (b:=([] : List Int)) r ?_ r r ?_ r ?_ (congrArg D.sl (LX _ _ r)) r
   all_goals first|(simp;done)|(simp;omega)|rfl|(simp [Md,LZ];done)

def AaI : Mj:=(.seq (.reg [⟨(some 2),(.asg (.c .nils) (some ⟨1,3⟩)),none,[]⟩] false) (.seq (.reg [M 3 0,P 4 (.call (.c (.clo 95 [])) [(T 3)]),P 5 (.call (.c (.clo 98 [])) [(T 4)]),⟨(some 2),(.asg (T 5) (some ⟨1,3⟩)),none,[]⟩] false) .ret))
theorem AcW : (Tryd.f101.body.bind (Mm Tryd.prog Tryd.f101.ntmps)) = some AaI:=by kernel_rfl
theorem AcX : Tryd.f101.results.toList.mapM (MB Tryd.prog) = some [(.t 2)]:=by kernel_rfl
def Qw (a : (List Int)) : List D:=[.sl (a.map Ed)]
def UC (ds : List D) : (List Int):=(uL uI) (ds.getD 0 .top)
theorem Vr (a : (List Int)) : UC (Qw a) = a:=by simp [UC,Qw,Oh (u:=uI) (en:=Ed) (fun _=>rfl)]
def YC (b : (List Int)) : D:=.sl (b.map Ed)
def YB (_b : (List Int)) : List D:=[]
noncomputable def Wp : Dw.Spec:=Mk [] (.row 1 3) Qw UC (fun a=>Qh a) YC YB
set_option maxHeartbeats 4000000 in
theorem ZV : Mi Tryd.prog 101 Wp:=by
 refine MA (Mv (l:=[(95,NS),(98,Nf)]) (by simp [Sx,PA])) Tryd.func101 (by decide) AcW AcX (np:=1) (by decide) Vr (fun _=>r) (fun _=>r) (by decide)<|?_
 intro l1
 show TrE (specs [(95,NS),(98,Nf)]) AaI (MD [] (.row 1 3) [(.t 2)] YC YB) ⟨[(0,.sl (l1.map Ed))],[],262144⟩ (Qh l1)
 refine Mu<|?_
 unfold AaI Qh
 refine sQ<|rG<|aN (α:=Int) r Ed r<|nI<|xS<|sQ<|rG<|mV r r<|bD fun r2 hr2=>cP l1 r r r OT r r (by simp) r hr2<|bD fun r3 hr3=>cR (l:=r3.1) (en:=Ed) r2 r r r Ol r r (by simp) r hr3 r<|aO (l:=r3.1) (en:=Ed) r r r r<|nI<|xS<|rT<|My (b:=r3.1) r ?_ r r ?_ r ?_ (congrArg D.sl (LX _ _ r)) r
 all_goals first|(simp;done)|(simp;omega)|rfl|(simp [Md,LZ];done)

def Acv : Mj:=(.seq (.reg [P 4 (.asg (.c (.int .u64 0)) none)] false) (.seq (.reg [M 5 0,M 6 1,P 7 (.bin .or (T 5) (T 6)),P 4 (.asg (T 7) none)] false) .ret))
theorem Afk : (Tryd.f97.body.bind (Mm Tryd.prog Tryd.f97.ntmps)) = some Acv:=by kernel_rfl
theorem Afl : Tryd.f97.results.toList.mapM (MB Tryd.prog) = some [(.t 4)]:=by kernel_rfl
def Rc (a : Int × Int) : List D:=[.int .u64 a.1,.int .u64 a.2]
def Rb (ds : List D) : Int × Int:=(uI (ds.getD 0 .top),uI (ds.getD 1 .top))
theorem UT (a : Int × Int) : Rb (Rc a) = a:=by simp [Rb,Rc,uI]
def Vu (b : Int) : D:=.int .u64 b
def Vt (_b : Int) : List D:=[]
noncomputable def Sv : Dw.Spec:=Mk [] .ground Rc Rb (fun a=>ON a.1 a.2) Vu Vt
set_option maxHeartbeats 4000000 in
theorem Yw : Mi Tryd.prog 97 Sv:=by
 refine MA (Nh) Tryd.func97 (by decide) Afk Afl (np:=2) (by decide) UT (fun _=>r) (fun _=>r) (by decide)<|?_
 rintro ⟨x1,y2⟩
 show TrE (specs []) Acv (MD [] .ground [(.t 4)] Vu Vt) ⟨[(0,.int .u64 x1),(1,.int .u64 y2)],[],262144⟩ (ON x1 y2)
 refine Mu<|?_
 unfold Acv ON
 refine sQ<|rG<|aS r r<|nI<|xS<|sQ<|rG<|mV r r<|mV r r<|bN (v:=.int .u64 (IntKind.u64.wrap ((BitVec.ofInt IntKind.u64.bits x1 ||| BitVec.ofInt IntKind.u64.bits y2).toNat))) r r r r r<|aS r r<|nI<|xS<|rT<|Mq (b:=IntKind.u64.wrap ((BitVec.ofInt IntKind.u64.bits x1 ||| BitVec.ofInt IntKind.u64.bits y2).toNat)) r ?_ r r ?_ r
 all_goals first|(simp;done)|(simp;omega)|rfl|(simp [Md,LZ];done)

def Acu : Mj:=(.seq (.reg [P 6 (.asg (.c .top) none)] false) (.seq (.reg [P 9 (.bld [(.int .u64 0),(.int .u64 0),(.int .u64 0),(.int .u64 0),(.int .u64 0),(.int .u64 0),(.int .u64 0),(.int .u64 0)] []),P 10 (.box (T 9) 8 122),P 7 (.asg (T 10) none)] false) (.seq (.seq (.reg [P 11 (.mv (C 0))] false) (.block 0 (.loop (.seq (.reg [P 12 (.bin .lss (T 11) (C 8))] false) (.seq (.cond (T 12) .skip (.exit 0)) (.seq (.block 1 (.seq (.reg [M 13 11,P 8 (.asg (T 13) none)] false) (.reg [M 14 7,M 15 8,M 16 2,M 17 0,M 18 8,⟨(some 19),(.nilck (T 17)),none,[3]⟩,⟨(some 20),(.ixP 1 8 (T 19) (T 18)),none,[5,4]⟩,⟨(some 21),(.ld 1 false (T 20)),none,[6]⟩,M 22 1,M 23 8,⟨(some 24),(.nilck (T 22)),none,[8]⟩,⟨(some 25),(.ixP 1 8 (T 24) (T 23)),none,[10,9]⟩,⟨(some 26),(.ld 1 false (T 25)),none,[11]⟩,⟨(some 27),(.call (T 16) [(T 21),(T 26)]),none,[2,7,12]⟩,⟨(some 28),(.nilck (T 14)),none,[0]⟩,⟨(some 29),(.ixP 1 8 (T 28) (T 15)),none,[14,1,0,1,2,3,4,5,6,7,8,9,10,11,12,13]⟩,⟨none,(.st 1 (T 29) (T 27)),none,[15,13,13,0,1,2,3,4,5,6,7,8,9,10,11,12,13]⟩] true))) (.reg [P 30 (.bin .add (T 11) (C 1)),M 11 30] false))))))) (.seq (.reg [M 31 7,P 6 (.asg (T 31) none)] false) .ret))))
theorem Afi : (Tryd.f96.body.bind (Mm Tryd.prog Tryd.f96.ntmps)) = some Acu:=by kernel_rfl
theorem Afj : Tryd.f96.results.toList.mapM (MB Tryd.prog) = some [(.t 6)]:=by kernel_rfl
def NP (a : LV × LV) : List D:=[MM a.1,MM a.2,.clo 97 []]
def NO (ds : List D) : LV × LV:=(Oi (ds.getD 0 .top),Oi (ds.getD 1 .top))
theorem Pq (a : LV × LV) : NO (NP a) = a:=by simp [NO,NP]
def PM (b : LV × LV × LV) : D:=MM b.1
def PL (b : LV × LV × LV) : List D:=[MM b.2.1,MM b.2.2]
noncomputable def Nm : Dw.Spec:=Mk [(0,(8,122)),(1,(8,122))] (.ptr 8 122) NP NO (fun a=>MT a.1 a.2) PM PL
set_option maxHeartbeats 4000000 in
theorem SZ : Mi Tryd.prog 96 Nm:=by
 refine MA (Mv (l:=[(97,Sv)]) (by simp [Yw])) Tryd.func96 (by decide) Afi Afj (np:=3) (by decide) Pq (fun _=>r) (fun _=>r) (by decide)<|?_
 rintro ⟨s1,t2⟩
 show TrE (specs [(97,Sv)]) Acu (MD [(0,(8,122)),(1,(8,122))] (.ptr 8 122) [(.t 6)] PM PL) ⟨[(0,.optr 8192 0 0 0),(1,.optr 8193 1 0 0),(2,.clo 97 [])],[(8192,some (0,⟨false,true,8,122,[.agg [.int .u64 s1.a0,.int .u64 s1.a1,.int .u64 s1.a2,.int .u64 s1.a3,.int .u64 s1.a4,.int .u64 s1.a5,.int .u64 s1.a6,.int .u64 s1.a7]]⟩)),(8193,some (1,⟨false,true,8,122,[.agg [.int .u64 t2.a0,.int .u64 t2.a1,.int .u64 t2.a2,.int .u64 t2.a3,.int .u64 t2.a4,.int .u64 t2.a5,.int .u64 t2.a6,.int .u64 t2.a7]]⟩))],262144⟩ (MT s1 t2)
 refine Mu<|?_
 unfold Acu MT
 refine sQ<|rG<|aS r r<|nI<|xS<|sQ<|rG<|bL (cs:=[.int .u64 0,.int .u64 0,.int .u64 0,.int .u64 0,.int .u64 0,.int .u64 0,.int .u64 0,.int .u64 0]) (ps:=[]) r r r r<|bX r r r r r<|aS r r<|nI<|xS<|sQ<|sQ<|rG<|mV r r<|nI<|xS<|bK<|lP (E:=fun (s : LV × Int) (g : Nat)=>[(0,.optr 8192 0 0 0),(1,.optr 8193 1 0 0),(2,.clo 97 []),(7,.optr 10 g 0 0),(11,.int .i64 s.2)]) (O:=fun s g=>[(10,some (g,⟨false,true,8,122,[.agg [.int .u64 s.1.a0,.int .u64 s.1.a1,.int .u64 s.1.a2,.int .u64 s.1.a3,.int .u64 s.1.a4,.int .u64 s.1.a5,.int .u64 s.1.a6,.int .u64 s.1.a7]]⟩)),(8192,some (0,⟨false,true,8,122,[.agg [.int .u64 s1.a0,.int .u64 s1.a1,.int .u64 s1.a2,.int .u64 s1.a3,.int .u64 s1.a4,.int .u64 s1.a5,.int .u64 s1.a6,.int .u64 s1.a7]]⟩)),(8193,some (1,⟨false,true,8,122,[.agg [.int .u64 t2.a0,.int .u64 t2.a1,.int .u64 t2.a2,.int .u64 t2.a3,.int .u64 t2.a4,.int .u64 t2.a5,.int .u64 t2.a6,.int .u64 t2.a7]]⟩))]) (body:=fun s=>MV s1 t2 s.1 s.2) (s:=((LV.mk 0 0 0 0 0 0 0 0),0)) _ ((hE ⟨rfl,r,r,r,r,trivial⟩ ⟨rfl,r,r,trivial⟩))<|?_
 rintro ⟨x3,x4⟩ v10x1 nn
 try dsimp only
 unfold MV
 refine sQ<|rG<|bN (v:=.bool (decide (x4 < 8))) r r r r r<|nI<|xS<|sQ<|cD (c:=(decide (x4 < 8))) r ?_ ?_
 ·exact sK<|xS<|sQ<|bK<|sQ<|rG<|mV r r<|aS r r<|nI<|xS<|rG<|mV r r<|mV r r<|mV r r<|mV r r<|mV r r<|nC r r r<|cK fun hq=>SR r r r hq<|bD fun s_e5 hs_e5=>Tz (q:=s_e5) (l:=s1.toList) (en:=Vz) (j:=x4.toNat) (by simp) r r r hs_e5 r (fun _=>r)<|mV r r<|mV r r<|nC r r r<|cK fun hq=>SR r r r hq<|bD fun t_e6 ht_e6=>Tz (q:=t_e6) (l:=t2.toList) (en:=Vz) (j:=x4.toNat) (by simp) r r r ht_e6 r (fun _=>r)<|bD fun r7 hr7=>cG (s_e5,t_e6) r r r UT r r (by simp) r hr7 r<|nC r r r<|cK fun hq=>SR r r r hq<|bD fun x_o8 hx_o8=>AaZ (q:=x_o8) (q':=r7) (l:=x3.toList) (en:=Vz) (j:=x4.toNat) (z':=.agg [.int .u64 ((x3.set x4.toNat r7).a0),.int .u64 ((x3.set x4.toNat r7).a1),.int .u64 ((x3.set x4.toNat r7).a2),.int .u64 ((x3.set x4.toNat r7).a3),.int .u64 ((x3.set x4.toNat r7).a4),.int .u64 ((x3.set x4.toNat r7).a5),.int .u64 ((x3.set x4.toNat r7).a6),.int .u64 ((x3.set x4.toNat r7).a7)]) (by simp) r r r r r hx_o8 r r (congrArg (fun l=>D.agg (l.map Vz)) (NR x3 x4.toNat r7).symm)<|Mw (by kernel_rfl)<|bM<|xS<|rG<|bN (v:=.int .i64 (IntKind.i64.wrap (x4 + 1))) r r r r r<|mV r r<|nI<|xL (s:=((x3.set x4.toNat r7),IntKind.i64.wrap (x4 + 1))) _ ((hE ⟨rfl,r,r,r,r,trivial⟩ ⟨rfl,r,r,trivial⟩))
 ·refine eT<|xE<|lE<|bH<|xS<|sQ<|rG<|mV r r<|aS r r<|nI<|xS<|rT<|Zx (b:=(x3,s1,t2)) r ?_ r ?_ r r ?_ r
  all_goals first|(simp;done)|(simp;omega)|rfl|(simp [Md,LZ];done)

def Aci : Mj:=(.seq (.reg [⟨(some 4),(.asg (.c .nils) (some ⟨1,3⟩)),none,[]⟩] false) (.seq (.reg [M 5 0,P 6 (.call (.c (.clo 95 [])) [(T 5)]),M 7 1,P 8 (.call (.c (.clo 95 [])) [(T 7)]),P 9 (.call (.c (.clo 96 [])) [(T 6),(T 8),(.c (.clo 97 []))]),P 10 (.call (.c (.clo 98 [])) [(T 9)]),⟨(some 4),(.asg (T 10) (some ⟨1,3⟩)),none,[]⟩] false) .ret))
theorem AeM : (Tryd.f69.body.bind (Mm Tryd.prog Tryd.f69.ntmps)) = some Aci:=by kernel_rfl
theorem AeN : Tryd.f69.results.toList.mapM (MB Tryd.prog) = some [(.t 4)]:=by kernel_rfl
def OR (a : (List Int) × (List Int)) : List D:=[.sl (a.1.map Ed),.sl (a.2.map Ed)]
def Sw (ds : List D) : (List Int) × (List Int):=((uL uI) (ds.getD 0 .top),(uL uI) (ds.getD 1 .top))
theorem Pp (a : (List Int) × (List Int)) : Sw (OR a) = a:=by simp [Sw,OR,Oh (u:=uI) (en:=Ed) (fun _=>rfl)]
def TJ (b : (List Int)) : D:=.sl (b.map Ed)
def Wx (_b : (List Int)) : List D:=[]
noncomputable def Oa : Dw.Spec:=Mk [] .val OR Sw (fun a=>Nz a.1 a.2) TJ Wx
set_option maxHeartbeats 4000000 in
theorem SW : Mi Tryd.prog 69 Oa:=by
 refine MA (Mv (l:=[(95,NS),(401504,Nm),(98,Nf)]) (by simp [Sx,SZ,PA])) Tryd.func69 (by decide) AeM AeN (np:=2) (by decide) Pp (fun _=>r) (fun _=>r) (by decide)<|?_
 rintro ⟨a1,b2⟩
 show TrE (specs [(95,NS),(401504,Nm),(98,Nf)]) Aci (MD [] .val [(.t 4)] TJ Wx) ⟨[(0,.sl (a1.map Ed)),(1,.sl (b2.map Ed))],[],262144⟩ (Nz a1 b2)
 refine Mu<|?_
 unfold Aci Nz
 refine sQ<|rG<|aN (α:=Int) r Ed r<|nI<|xS<|sQ<|rG<|mV r r<|bD fun r3 hr3=>cP a1 r r r OT r r (by simp) r hr3<|mV r r<|bD fun r4 hr4=>cP b2 r r r OT r r (by simp) rfl hr4<|bD fun r5 hr5=>cP (r3,r4) rfl rfl (show _ = some Nm from by kernel_rfl) Pq rfl rfl (by simp) r hr5<|bD fun r6 hr6=>cR (l:=r6.1) (en:=Ed) r5.1 r r r Ol r r (by simp) r hr6 r<|aO (l:=r6.1) (en:=Ed) r r r r<|nI<|xS<|rT<|Nb (b:=r6.1) r ?_ r r ?_ (by first | rfl | (simp only [Mf]; rfl) | (simp only [Mh]; rfl) | (simp only [Mf,Mh]; rfl) | simp [TJ])
 all_goals first|(simp;done)|(simp;omega)|rfl|(simp [Md,LZ];done)

def Ack : Mj:=(.seq (.reg [P 2 (.box (T 0) 5 66),⟨(some 4),(.asg (.c .nils) (some ⟨1,3⟩)),none,[]⟩] false) (.seq (.seq (.reg [P 8 (.ld 5 true (T 2)),P 9 (.call (.c (.clo 100 [])) [(T 8)]),M 7 9,P 10 (.ext (T 7) 0),P 11 (.ext (T 7) 1),P 5 (.asg (T 10) none),P 6 (.asg (T 11) none)] false) (.seq (.reg [M 12 6] false) (.cond (T 12) (.reg [M 13 1,M 14 5,P 15 (.call (.c (.clo 77 [])) [(T 13),(T 14)]),⟨(some 1),(.asg (T 15) (some ⟨1,3⟩)),none,[]⟩] false) .skip))) (.seq (.reg [M 16 1,P 17 (.ld 5 true (T 2)),P 18 (.call (.c (.clo 102 [])) [(T 17)]),P 19 (.call (.c (.clo 101 [])) [(T 18)]),P 20 (.call (.c (.clo 69 [])) [(T 16),(T 19)]),⟨(some 4),(.asg (T 20) (some ⟨1,3⟩)),none,[]⟩] false) .ret)))
theorem AeQ : (Tryd.f74.body.bind (Mm Tryd.prog Tryd.f74.ntmps)) = some Ack:=by kernel_rfl
theorem AeR : Tryd.f74.results.toList.mapM (MB Tryd.prog) = some [(.t 4)]:=by kernel_rfl
def UF (a : LS × (List Int)) : List D:=[LU a.1,.sl (a.2.map Ed)]
def UE (ds : List D) : LS × (List Int):=(Rz (ds.getD 0 .top),(uL uI) (ds.getD 1 .top))
theorem VC (a : LS × (List Int)) : UE (UF a) = a:=by simp [UE,UF,Oh (u:=uI) (en:=Ed) (fun _=>rfl)]
def YH (b : (List Int)) : D:=.sl (b.map Ed)
def YG (_b : (List Int)) : List D:=[]
noncomputable def Sf : Dw.Spec:=Mk [] .val UF UE (fun a=>Rl a.1 a.2) YH YG
set_option maxHeartbeats 4000000 in
theorem XW : Mi Tryd.prog 74 Sf:=by
 refine MA (Mv (l:=[(100,Sy),(77,SV),(102,UG),(101,Wp),(69,Oa)]) (by simp [Yx,YS,Zq,ZV,SW])) Tryd.func74 (by decide) AeQ AeR (np:=2) (by decide) VC (fun _=>r) (fun _=>r) (by decide)<|?_
 rintro ⟨x1,out2⟩
 show TrE (specs [(100,Sy),(77,SV),(102,UG),(101,Wp),(69,Oa)]) Ack (MD [] .val [(.t 4)] YH YG) ⟨[(0,.agg [.int .i64 x1.Op,.int .i64 x1.A,.int .i64 x1.B,.int .i64 x1.C,.int .u64 x1.Imm]),(1,.sl (out2.map Ed))],[],262144⟩ (Rl x1 out2)
 refine Mu<|?_
 unfold Ack Rl
 refine sQ<|rG<|bX r r r r r<|aN (α:=Int) r Ed r<|nI<|xS<|sQ<|sQ<|rG<|lO (v:=.agg [.int .i64 x1.Op,.int .i64 x1.A,.int .i64 x1.B,.int .i64 x1.C,.int .u64 x1.Imm]) (z:=.agg [.int .i64 x1.Op,.int .i64 x1.A,.int .i64 x1.B,.int .i64 x1.C,.int .u64 x1.Imm]) r r r r r r<|bD fun r3 hr3=>cG x1 r r r Vh r r (by simp) r hr3 r<|mV r r<|eX (v:=.int .i64 r3.1) r r r<|eX (v:=.bool r3.2) r r r<|aS r r<|aS r r<|nI<|xS<|sQ<|rG<|mV r r<|nI<|xS<|cD (c:=r3.2) r ?_ ?_
 ·refine rG<|mV r r<|mV r r<|bD fun r4 hr4=>cV (out2,r3.1) r r r Vs r r (by simp) r hr4<|aL r r<|nI<|xS<|sQ<|rG<|mV r r<|lO (v:=.agg [.int .i64 x1.Op,.int .i64 x1.A,.int .i64 x1.B,.int .i64 x1.C,.int .u64 x1.Imm]) (z:=.agg [.int .i64 x1.Op,.int .i64 x1.A,.int .i64 x1.B,.int .i64 x1.C,.int .u64 x1.Imm]) r r r r r r<|bD fun r5 hr5=>cR (l:=r5) (en:=Ed) x1 r r r TM r r (by simp) r hr5 r<|bD fun r6 hr6=>cR (l:=r6) (en:=Ed) r5 r r r Vr r r (by simp) (by first | rfl | (simp only [Mf]; rfl) | (simp only [Mh]; rfl) | (simp only [Mf,Mh]; rfl) | simp [Qw]) hr6 r<|bD fun r7 hr7=>cV (r4,r6) r r r Pp r r (by simp) (by first | rfl | (simp only [Mf]; rfl) | (simp only [Mh]; rfl) | (simp only [Mf,Mh]; rfl) | simp [OR]) hr7<|aL r r<|nI<|xS<|rT<|Nb (b:=r7) r ?_ r r ?_ r
  all_goals first|(simp;done)|(simp;omega)|rfl|(simp [Md,LZ];done)
 ·refine sK<|xS<|sQ<|rG<|mV r r<|lO (v:=.agg [.int .i64 x1.Op,.int .i64 x1.A,.int .i64 x1.B,.int .i64 x1.C,.int .u64 x1.Imm]) (z:=.agg [.int .i64 x1.Op,.int .i64 x1.A,.int .i64 x1.B,.int .i64 x1.C,.int .u64 x1.Imm]) r r r r r r<|bD fun r8 hr8=>cR (l:=r8) (en:=Ed) x1 r r r TM r r (by simp) r hr8 r<|bD fun r9 hr9=>cR (l:=r9) (en:=Ed) r8 r r r Vr r r (by simp) (by first | rfl | (simp only [Mf]; rfl) | (simp only [Mh]; rfl) | (simp only [Mf,Mh]; rfl) | simp [Qw]) hr9 r<|bD fun r10 hr10=>cV (out2,r9) r r r Pp r r (by simp) (by first | rfl | (simp only [Mf]; rfl) | (simp only [Mh]; rfl) | (simp only [Mf,Mh]; rfl) | simp [OR]) hr10<|aL r r<|nI<|xS<|rT<|Nb (b:=r10) r ?_ r r ?_ r
  all_goals first|(simp;done)|(simp;omega)|rfl|(simp [Md,LZ];done)

def Acd : Mj:=(.seq (.reg [P 4 (.asg (.c (.bool false)) none)] false) (.seq (.seq (.reg [M 6 0,P 7 (.len false (T 6)),M 8 1,P 9 (.len false (T 8)),P 10 (.bin .neq (T 7) (T 9))] false) (.cond (T 10) (.seq (.reg [P 4 (.asg (.c (.bool false)) none)] false) .ret) .skip)) (.seq (.seq (.reg [M 11 0,P 12 (.len false (T 11)),P 13 (.mv (C 0))] false) (.block 0 (.loop (.seq (.reg [P 14 (.bin .lss (T 13) (T 12))] false) (.seq (.cond (T 14) .skip (.exit 0)) (.seq (.block 1 (.seq (.reg [M 15 13,P 5 (.asg (T 15) none)] false) (.seq (.reg [M 16 0,M 17 5,⟨(some 18),(.ixA 1 (T 16) (T 17)),none,[0,1]⟩,⟨(some 19),(.ld 1 false (T 18)),none,[2]⟩,M 20 1,M 21 5,⟨(some 22),(.ixA 1 (T 20) (T 21)),none,[4,5]⟩,⟨(some 23),(.ld 1 false (T 22)),none,[6]⟩,⟨(some 24),(.bin .neq (T 19) (T 23)),none,[3,7]⟩] true) (.cond (T 24) (.seq (.reg [P 4 (.asg (.c (.bool false)) none)] false) .ret) .skip)))) (.reg [P 25 (.bin .add (T 13) (C 1)),M 13 25] false))))))) (.seq (.reg [P 4 (.asg (.c (.bool true)) none)] false) .ret))))
theorem AeC : (Tryd.f59.body.bind (Mm Tryd.prog Tryd.f59.ntmps)) = some Acd:=by kernel_rfl
theorem AeD : Tryd.f59.results.toList.mapM (MB Tryd.prog) = some [(.t 4)]:=by kernel_rfl
def OY (a : (List Int) × (List Int)) : List D:=[.sl (a.1.map Ed),.sl (a.2.map Ed)]
def OX (ds : List D) : (List Int) × (List Int):=((uL uI) (ds.getD 0 .top),(uL uI) (ds.getD 1 .top))
theorem RM (a : (List Int) × (List Int)) : OX (OY a) = a:=by simp [OX,OY,Oh (u:=uI) (en:=Ed) (fun _=>rfl)]
def Si (b : Bool) : D:=.bool b
def Sh (_b : Bool) : List D:=[]
noncomputable def PJ : Dw.Spec:=Mk [] .ground OY OX (fun a=>Nv a.1 a.2) Si Sh
set_option maxHeartbeats 4000000 in
theorem Wb : Mi Tryd.prog 59 PJ:=by
 refine MA (Nh) Tryd.func59 (by decide) AeC AeD (np:=2) (by decide) RM (fun _=>r) (fun _=>r) (by decide)<|?_
 rintro ⟨s11,s22⟩
 show TrE (specs []) Acd (MD [] .ground [(.t 4)] Si Sh) ⟨[(0,.sl (s11.map Ed)),(1,.sl (s22.map Ed))],[],262144⟩ (Nv s11 s22)
 refine Mu<|?_
 unfold Acd Nv
 refine sQ<|rG<|aS r r<|nI<|xS<|sQ<|sQ<|rG<|mV r r<|lS r r<|mV r r<|lS r r<|bN (v:=.bool ((s11.length : Int) != (s22.length : Int))) r r r r r<|nI<|xS<|cD (c:=((s11.length : Int) != (s22.length : Int))) r ?_ ?_
 ·refine sQ<|rG<|aS r r<|nI<|xS<|rT<|xR<|Mq (b:=false) r ?_ r r ?_ r
  all_goals first|(simp;done)|(simp;omega)|rfl|(simp [Md,LZ];done)
 ·refine sK<|xS<|sQ<|sQ<|rG<|mV r r<|lS r r<|mV r r<|nI<|xS<|bK<|lP (E:=fun (s : Int) (g : Unit)=>[(0,.sl (s11.map Ed)),(1,.sl (s22.map Ed)),(12,.int .i64 (s11.length : Int)),(13,.int .i64 s)]) (O:=fun s g=>[]) (body:=fun s=>Nw s11 s22 s) (s:=0) () ((hE ⟨rfl,r,r,r,trivial⟩ trivial))<|?_
  rintro x3 ⟨⟩ nn
  try dsimp only
  unfold Nw
  refine sQ<|rG<|bN (v:=.bool (decide (x3 < (s11.length : Int)))) r r r r r<|nI<|xS<|sQ<|cD (c:=(decide (x3 < (s11.length : Int)))) r ?_ ?_
  ·refine sK<|xS<|sQ<|bK<|sQ<|rG<|mV r r<|aS r r<|nI<|xS<|sQ<|rG<|mV r r<|mV r r<|bD fun x_x4 hx_x4=>iS (en:=Ed) r r r hx_x4 r<|lF (v:=.int .i64 x_x4) r r r r<|mV r r<|mV r r<|bD fun x_x5 hx_x5=>iS (en:=Ed) r r r hx_x5 r<|lF (v:=.int .i64 x_x5) r r r r<|bN (v:=.bool (x_x4 != x_x5)) r r r r r<|Mw (by kernel_rfl)<|xS<|cD (c:=(x_x4 != x_x5)) r ?_ ?_
   ·refine sQ<|rG<|aS r r<|nI<|xS<|rT<|bR<|xR<|lR<|bR<|xR<|Mq (b:=false) r ?_ r r ?_ r
    all_goals first|(simp;done)|(simp;omega)|rfl|(simp [Md,LZ];done)
   ·exact sK<|bM<|xS<|rG<|bN (v:=.int .i64 (IntKind.i64.wrap (x3 + 1))) r r r r r<|mV r r<|nI<|xL (s:=IntKind.i64.wrap (x3 + 1)) () ((hE ⟨rfl,r,r,r,trivial⟩ trivial))
  ·refine eT<|xE<|lE<|bH<|xS<|sQ<|rG<|aS r r<|nI<|xS<|rT<|Mq (b:=true) r ?_ r r ?_ r
   all_goals first|(simp;done)|(simp;omega)|rfl|(simp [Md,LZ];done)

def AaS : Mj:=(.seq (.reg [M 4 0,P 5 (.nilck (T 4)),P 6 (.fldA 1 (T 5)),P 7 (.ld 1 false (T 6)),M 8 1,P 9 (.mget (.bool false) (T 7) (T 8)),P 10 (.un .not (T 9))] false) (.cond (T 10) (.seq (.reg [M 11 0,P 12 (.nilck (T 11)),P 13 (.fldA 1 (T 12)),P 14 (.ld 1 false (T 13)),M 15 1,⟨none,(.mset (T 14) (T 15) (.c (.bool true))),none,[]⟩] false) (.reg [M 16 0,M 17 0,P 18 (.nilck (T 17)),P 19 (.fldA 0 (T 18)),P 20 (.ld 1 false (T 19)),M 21 1,⟨(some 22),(.bldS 1 3 (.int .i64 0) 1 [⟨0,(T 21)⟩]),none,[]⟩,P 23 (.app 1 3 8 (T 20) (T 22)),P 24 (.nilck (T 16)),P 25 (.fldA 0 (T 24)),⟨none,(.st 1 (T 25) (T 23)),none,[]⟩] false)) .skip))
theorem Aey : (Tryd.f56.body.bind (Mm Tryd.prog Tryd.f56.ntmps)) = some AaS:=by kernel_rfl
theorem Aez : Tryd.f56.results.toList.mapM (MB Tryd.prog) = some []:=by kernel_rfl

def Acb : Mj:=(.seq (.reg [P 2 (.asg (C 0) none)] false) (.seq (.reg [M 4 0,⟨(some 5),(.nilck (T 4)),none,[0]⟩,⟨(some 6),(.fldA 0 (T 5)),none,[1]⟩,⟨(some 7),(.ld 1 false (T 6)),none,[2]⟩,M 8 0,⟨(some 9),(.nilck (T 8)),none,[4]⟩,⟨(some 10),(.fldA 0 (T 9)),none,[5]⟩,⟨(some 11),(.ld 1 false (T 10)),none,[6]⟩,⟨(some 12),(.len false (T 11)),none,[7]⟩,⟨(some 13),(.bin .sub (T 12) (C 1)),none,[8]⟩,⟨(some 14),(.ixA 1 (T 7) (T 13)),none,[3,9]⟩,⟨(some 15),(.ld 1 false (T 14)),none,[10]⟩,⟨(some 3),(.asg (T 15) none),none,[11,0,1,2,3,4,5,6,7,8,9,10,11]⟩] true) (.seq (.reg [M 16 0,M 17 0,⟨(some 18),(.nilck (T 17)),none,[1]⟩,⟨(some 19),(.fldA 0 (T 18)),none,[2]⟩,⟨(some 20),(.ld 1 false (T 19)),none,[3]⟩,M 21 0,⟨(some 22),(.nilck (T 21)),none,[5]⟩,⟨(some 23),(.fldA 0 (T 22)),none,[6]⟩,⟨(some 24),(.ld 1 false (T 23)),none,[7]⟩,⟨(some 25),(.len false (T 24)),none,[8]⟩,⟨(some 26),(.bin .sub (T 25) (C 1)),none,[9]⟩,⟨(some 27),(.slc 1 (T 20) none (some (T 26))),none,[4,10]⟩,⟨(some 28),(.nilck (T 16)),none,[0,0,1,2,3,4,5,6,7,8,9,10,11]⟩,⟨(some 29),(.fldA 0 (T 28)),none,[12,0,1,2,3,4,5,6,7,8,9,10,11]⟩,⟨none,(.st 1 (T 29) (T 27)),none,[13,11,0,1,2,3,4,5,6,7,8,9,10,11]⟩] true) (.seq (.reg [M 30 0,P 31 (.nilck (T 30)),P 32 (.fldA 1 (T 31)),P 33 (.ld 1 false (T 32)),M 34 3,⟨none,(.mdel (T 33) (T 34)),none,[]⟩] false) (.seq (.reg [M 35 3,P 2 (.asg (T 35) none)] false) .ret)))))
theorem AeA : (Tryd.f57.body.bind (Mm Tryd.prog Tryd.f57.ntmps)) = some Acb:=by kernel_rfl
theorem AeB : Tryd.f57.results.toList.mapM (MB Tryd.prog) = some [(.t 2)]:=by kernel_rfl

def ZZ : Mj:=(.seq (.reg [P 3 (.box (T 0) 3 27),P 4 (.box (T 1) 1 30),⟨(some 6),(.asg (.c .nils) (some ⟨1,3⟩)),none,[]⟩] false) (.seq (.reg [⟨(some 7),(.asg (.c .nils) (some ⟨1,3⟩)),none,[]⟩] false) (.seq (.seq (.reg [P 10 (.ld 3 true (T 3)),M 11 2,P 12 (.call (.c (.clo 88 [])) [(T 10),(T 11)]),P 13 (.len false (T 12)),P 14 (.mv (C 0))] false) (.block 0 (.loop (.seq (.reg [P 15 (.bin .lss (T 14) (T 13))] false) (.seq (.cond (T 15) .skip (.exit 0)) (.seq (.block 1 (.seq (.reg [P 16 (.ixA 1 (T 12) (T 14)),P 17 (.ld 1 false (T 16)),P 9 (.asg (T 17) none)] false) (.reg [M 18 7,P 19 (.fldA 2 (T 3)),⟨(some 20),(.ld 1 false (T 19)),none,[1]⟩,M 21 9,⟨(some 22),(.ixA 5 (T 20) (T 21)),none,[2,3]⟩,⟨(some 23),(.ld 5 true (T 22)),none,[4]⟩,P 24 (.fldA 0 (T 4)),⟨(some 25),(.ld 1 false (T 24)),none,[6]⟩,M 26 9,⟨(some 27),(.ixA 1 (T 25) (T 26)),none,[7,8]⟩,⟨(some 28),(.ld 1 false (T 27)),none,[9]⟩,⟨(some 29),(.call (.c (.clo 74 [])) [(T 23),(T 28)]),none,[5,10]⟩,⟨(some 30),(.call (.c (.clo 69 [])) [(T 18),(T 29)]),none,[0,11,11]⟩,⟨(some 7),(.asg (T 30) (some ⟨1,3⟩)),none,[12,12,0,1,2,3,4,5,6,7,8,9,10,11,12]⟩] true))) (.reg [P 31 (.bin .add (T 14) (C 1)),M 14 31] false))))))) (.seq (.reg [M 32 7,⟨(some 6),(.asg (T 32) (some ⟨1,3⟩)),none,[]⟩] false) .ret))))
theorem Abh : (Tryd.f58.body.bind (Mm Tryd.prog Tryd.f58.ntmps)) = some ZZ:=by kernel_rfl
theorem Abi : Tryd.f58.results.toList.mapM (MB Tryd.prog) = some [(.t 6)]:=by kernel_rfl

end Go.Proofs.YtcelninhkmhjkaaDoor
