/-
  Programs on typed data, and the proofs that the code does what they say; written by a program (dx.py).
-/
import Derived.Test.YtcelninhkmhjkaaDoorProg
import Derived.Test.YtcelninhkmhjkaaDoorDc
import Derived.KernelRfl
import Derived.Test.YtcelninhkmhjkaaDoorSh
import Derived.Test.YtcelninhkmhjkaaDoorDxP
namespace Go.Proofs.YtcelninhkmhjkaaDoor
open Go Go.Dw Go.Proofs
set_option maxRecDepth 100000
open Go.Dw renaming YB → mV,Xg → bN,RO → lO,We → bD,Xj → cK,Xl → nI,Xo → xS,YE → rG,YG → sQ,Sn → aO,Xf → aS,Xm → oF,Xh → bL,Wf → bS,RB → cV,Re → cG,RA → cR,Xe → aP,RP → sV,TF → iS,So → iO,TH → lS,Sp → lW,Wg → fA,ZL → eX,ZP → nC,Um → lF,UE → sP,QE → pT,Qk → pF,ZB → uN,AaN → cT,Xk → nW,Xi → bX,Sm → aN,XJ → aL,Xp → cD,Wj → bK,YF → rT,Xs → sK,Xq → eT,Xn → xC,Wi → xL,Us → xR,WN → zR,YD → lR,UC → hE,QF → lE,RC → bH,Ql → bM,WM → bR,RD → xE,YA → cP,Xr → lP,TI → sC,rf → r
def AaY : Mj:=(.seq (.reg [P 2 (.asg (.c (.bool false)) none)] false) (.seq (.reg [M 3 0,P 4 (.bin .eql (T 3) (C 20)),M 5 4,⟨(some 6),(.mv (T 0)),(some ⟨5,false⟩),[]⟩,⟨(some 7),(.bin .eql (T 6) (C 23)),(some ⟨5,false⟩),[]⟩,P 8 (.pick (T 5) (.c (.bool true)) (T 7)),M 9 8,⟨(some 10),(.mv (T 0)),(some ⟨9,false⟩),[]⟩,⟨(some 11),(.bin .eql (T 10) (C 24)),(some ⟨9,false⟩),[]⟩,P 12 (.pick (T 9) (.c (.bool true)) (T 11)),P 2 (.asg (T 12) none)] false) .ret))
theorem Adx : (Tryd.f112.body.bind (Mn Tryd.prog Tryd.f112.ntmps)) = some AaY:=by kernel_rfl
theorem Ady : Tryd.f112.results.toList.mapM (MC Tryd.prog) = some [(.t 2)]:=by kernel_rfl
def Rz (a : Int) : List D:=[.int .i64 a]
def Ry (ds : List D) : Int:=uI (ds.getD 0 .top)
theorem Vs (a : Int) : Ry (Rz a) = a:=by simp [Ry,Rz,uI]
def Wd (b : Bool) : D:=.bool b
def Wc (_b : Bool) : List D:=[]
noncomputable def SL : Dw.Spec:=Mk [] .ground Rz Ry (fun a=>Qi a) Wd Wc
set_option maxHeartbeats 4000000 in
theorem YQ : Mi Tryd.prog 112 SL:=by
 refine MB (Nd) Tryd.func112 (by decide) Adx Ady (np:=1) (by decide) Vs (fun _=>r) (fun _=>r) (by decide)<|?_
 intro op1
 show TrE (specs []) AaY (ME [] .ground [(.t 2)] Wd Wc) ⟨[(0,.int .i64 op1)],[],262144⟩ (Qi op1)
 refine Mr<|?_
 unfold AaY Qi
 refine sQ<|rG<|aS r r<|nI<|xS<|sQ<|rG<|mV r r<|bN (v:=.bool (op1 == 20)) r r r r r<|mV r r<|sP 5 (b:=(op1 == 20)) r ?_ ?_
 ·refine oF r<|oF r<|pT r r r r<|mV r r<|oF r<|oF r<|pT r r r r<|aS r r<|nI<|xS<|rT<|Mx (b:=true) r ?_ r r ?_ r
  all_goals first|(simp;done)|(simp;omega)|rfl|(simp [Mf,LZ];done)
 ·refine mV r r<|bN (v:=.bool (op1 == 23)) r r r r r<|pF r r r r<|mV r r<|sP 9 (b:=(op1 == 23)) r ?_ ?_
  ·refine oF r<|oF r<|pT r r r r<|aS r r<|nI<|xS<|rT<|Mx (b:=true) r ?_ r r ?_ r
   all_goals first|(simp;done)|(simp;omega)|rfl|(simp [Mf,LZ];done)
  ·refine mV r r<|bN (v:=.bool (op1 == 24)) r r r r r<|pF r r r r<|aS r r<|nI<|xS<|rT<|Mx (b:=(op1 == 24)) r ?_ r r ?_ r
   all_goals first|(simp;done)|(simp;omega)|rfl|(simp [Mf,LZ];done)

def Acy : Mj:=(.seq (.reg [P 2 (.box (T 0) 3 27),⟨(some 4),(.asg (.c .nils) (some ⟨1,3⟩)),none,[]⟩] false) (.seq (.seq (.reg [M 7 1,P 8 (.bin .lss (T 7) (C 0)),M 9 8,⟨(some 10),(.mv (T 1)),(some ⟨9,false⟩),[]⟩,⟨(some 11),(.fldA 2 (T 2)),(some ⟨9,false⟩),[]⟩,⟨(some 12),(.ld 1 false (T 11)),(some ⟨9,false⟩),[]⟩,⟨(some 13),(.len false (T 12)),(some ⟨9,false⟩),[]⟩,⟨(some 14),(.bin .geq (T 10) (T 13)),(some ⟨9,false⟩),[]⟩,P 15 (.pick (T 9) (.c (.bool true)) (T 14))] false) (.cond (T 15) (.seq (.reg [⟨(some 4),(.asg (.c .nils) (some ⟨1,3⟩)),none,[]⟩] false) .ret) .skip)) (.seq (.reg [⟨(some 5),(.asg (.c .nils) (some ⟨1,3⟩)),none,[]⟩] false) (.seq (.reg [P 16 (.fldA 2 (T 2)),P 17 (.ld 1 false (T 16)),M 18 1,P 19 (.ixA 5 (T 17) (T 18)),P 20 (.ld 5 true (T 19)),P 6 (.new (.agg [(.int .i64 0),(.int .i64 0),(.int .i64 0),(.int .i64 0),(.int .u64 0)]) 5 66),⟨none,(.st 5 (T 6) (T 20)),none,[]⟩] false) (.seq (.seq (.reg [P 21 (.fldA 0 (T 6)),P 22 (.ld 1 false (T 21)),P 23 (.call (.c (.clo 112 [])) [(T 22)]),P 24 (.un .not (T 23))] false) (.cond (T 24) (.reg [M 25 5,M 26 1,P 27 (.bin .add (T 26) (C 1)),⟨(some 28),(.bldS 1 3 (.int .i64 0) 1 [⟨0,(T 27)⟩]),none,[]⟩,P 29 (.app 1 3 8 (T 25) (T 28)),⟨(some 5),(.asg (T 29) (some ⟨1,3⟩)),none,[]⟩] false) .skip)) (.seq (.seq (.reg [P 30 (.fldA 0 (T 6)),P 31 (.ld 1 false (T 30))] false) (.block 0 (.seq (.reg [P 33 (.bin .eql (T 31) (C 20)),P 32 (.asg (T 33) none)] false) (.cond (T 32) (.reg [M 34 5,P 35 (.fldA 1 (T 6)),P 36 (.ld 1 false (T 35)),⟨(some 37),(.bldS 1 3 (.int .i64 0) 1 [⟨0,(T 36)⟩]),none,[]⟩,P 38 (.app 1 3 8 (T 34) (T 37)),⟨(some 5),(.asg (T 38) (some ⟨1,3⟩)),none,[]⟩] false) (.seq (.reg [P 40 (.bin .eql (T 31) (C 21)),P 39 (.asg (T 40) none)] false) (.cond (T 39) (.reg [M 41 5,P 42 (.fldA 2 (T 6)),P 43 (.ld 1 false (T 42)),⟨(some 44),(.bldS 1 3 (.int .i64 0) 1 [⟨0,(T 43)⟩]),none,[]⟩,P 45 (.app 1 3 8 (T 41) (T 44)),⟨(some 5),(.asg (T 45) (some ⟨1,3⟩)),none,[]⟩] false) .skip)))))) (.seq (.reg [M 46 5,P 47 (.call (.c (.clo 113 [])) [(T 46)])] false) (.seq (.reg [M 48 5,P 49 (.call (.c (.clo 114 [])) [(T 48)]),⟨(some 4),(.asg (T 49) (some ⟨1,3⟩)),none,[]⟩] false) .ret))))))))
theorem Afu : (Tryd.f88.body.bind (Mn Tryd.prog Tryd.f88.ntmps)) = some Acy:=by kernel_rfl
theorem Afv : Tryd.f88.results.toList.mapM (MC Tryd.prog) = some [(.t 4)]:=by kernel_rfl
def UO (a : LW × Int) : List D:=[MI a.1,.int .i64 a.2]
def UN (ds : List D) : LW × Int:=(OG (ds.getD 0 .top),uI (ds.getD 1 .top))
theorem Tn (a : LW × Int) : UN (UO a) = a:=by simp [UN,UO,uI]
def Za (b : (List Int)) : D:=.sl (b.map Ed)
def YZ (_b : (List Int)) : List D:=[]
noncomputable def PH : Dw.Spec:=Mk [] (.row 1 3) UO UN (fun a=>Qo a.1 a.2) Za YZ
set_option maxHeartbeats 4000000 in
theorem VJ : Mi Tryd.prog 88 PH:=by
 refine MB (Mq (l:=[(112,SL),(113,Qj),(114,OQ)]) (by simp [YQ,WK,Vv])) Tryd.func88 (by decide) Afu Afv (np:=2) (by decide) Tn (fun _=>r) (fun _=>r) (by decide)<|?_
 rintro ⟨f1,k2⟩
 show TrE (specs [(112,SL),(113,Qj),(114,OQ)]) Acy (ME [] (.row 1 3) [(.t 4)] Za YZ) ⟨[(0,.agg [.int .i64 f1.Params,.sl (f1.Slots.map LX),.sl (f1.Code.map LU)]),(1,.int .i64 k2)],[],262144⟩ (Qo f1 k2)
 refine Mr<|?_
 unfold Acy Qo
 refine sQ<|rG<|bX r r r r r<|aN (α:=Int) r Ed r<|nI<|xS<|sC (E:=fun (s : Unit) (g : Nat)=>[(1,.int .i64 k2),(2,.optr 2 g 0 0)]) (O:=fun s g=>[(2,some (g,⟨false,true,3,27,[.agg [.int .i64 f1.Params,.sl (f1.Slots.map LX),.sl (f1.Code.map LU)]]⟩))]) (j:=fun s=>To f1 k2) ?_ ?_
 ·refine sQ<|rG<|mV r r<|bN (v:=.bool (decide (k2 < 0))) r r r r r<|mV r r<|sP 9 (b:=(decide (k2 < 0))) r ?_ ?_
  ·refine oF r<|oF r<|oF r<|oF r<|oF r<|pT r r r r<|nI<|xS<|RE r<|sQ<|rG<|aN (α:=Int) r Ed r<|nI<|xS<|rT<|zR<|Mw (b:=([] : List Int)) r ?_ r r ?_ r ?_ (congrArg D.sl (LY _ _ r)) r
   all_goals first|(simp;done)|(simp;omega)|rfl|(simp [Mf,LZ];done)
  ·refine mV r r<|fA r r<|lO (v:=.sl (f1.Code.map LU)) (z:=.agg [.int .i64 f1.Params,.sl (f1.Slots.map LX),.sl (f1.Code.map LU)]) r r r r r r<|lS r r<|bN (v:=.bool (decide (k2 ≥ (f1.Code.length : Int)))) r r r r r<|pF r r r r<|nI<|xS<|cD (c:=(decide (k2 ≥ (f1.Code.length : Int)))) r ?_ ?_
   ·refine sQ<|rG<|aN (α:=Int) r Ed r<|nI<|xS<|rT<|zR<|Mw (b:=([] : List Int)) r ?_ r r ?_ r ?_ (congrArg D.sl (LY _ _ r)) r
    all_goals first|(simp;done)|(simp;omega)|rfl|(simp [Mf,LZ];done)
   ·exact sK<|xC (s:=()) _ ((hE ⟨rfl,r,trivial⟩ ⟨rfl,trivial⟩))
 ·rintro ⟨⟩ v2x1 nn
  try dsimp only
  unfold To
  refine sQ<|rG<|aN (α:=Int) r Ed r<|nI<|xS<|sQ<|rG<|fA r r<|lO (v:=.sl (f1.Code.map LU)) (z:=.agg [.int .i64 f1.Params,.sl (f1.Slots.map LX),.sl (f1.Code.map LU)]) r r r r r r<|mV r r<|bD fun x_x3 hx_x3=>iS (en:=LU) r r r hx_x3 r<|lF (v:=.agg [.int .i64 x_x3.Op,.int .i64 x_x3.A,.int .i64 x_x3.B,.int .i64 x_x3.C,.int .u64 x_x3.Imm]) r r r r<|nW r<|sV (z':=.agg [.int .i64 x_x3.Op,.int .i64 x_x3.A,.int .i64 x_x3.B,.int .i64 x_x3.C,.int .u64 x_x3.Imm]) r r r r r r r r r<|nI<|xS<|sC (E:=fun (s : (List Int)) (g : Nat × Nat)=>[(5,.osl 5 g.1 0 s.length),(6,.optr 6 g.2 0 0)]) (O:=fun s g=>[(5,some (g.1,⟨false,false,1,3,s.map Ed⟩)),(6,some (g.2,⟨false,true,5,66,[.agg [.int .i64 x_x3.Op,.int .i64 x_x3.A,.int .i64 x_x3.B,.int .i64 x_x3.C,.int .u64 x_x3.Imm]]⟩))]) (j:=fun s=>Ro x_x3 s) ?_ ?_
  ·refine sQ<|rG<|fA r r<|lO (v:=.int .i64 x_x3.Op) (z:=.agg [.int .i64 x_x3.Op,.int .i64 x_x3.A,.int .i64 x_x3.B,.int .i64 x_x3.C,.int .u64 x_x3.Imm]) r r r r r r<|bD fun r5 hr5=>cG x_x3.Op r r r Vs r r (by simp) r hr5 r<|uN (w:=.bool (!r5)) r r r r trivial<|nI<|xS<|cD (c:=(!r5)) r ?_ ?_
   ·exact rG<|mV r r<|mV r r<|bN (v:=.int .i64 (IntKind.i64.wrap (k2 + 1))) r r r r r<|bS ([IntKind.i64.wrap (k2 + 1)] : List Int) Ed r r r (by simp) r r r<|cK fun hq=>aP (([] : List Int)) (([IntKind.i64.wrap (k2 + 1)] : List Int)) Ed r r r r r r r (by simp) (Ml _ _ r) r r (by simp) (LY _ _ r) (fun _=>r) r hq<|aO (l:=([] : List Int) ++ ([IntKind.i64.wrap (k2 + 1)] : List Int)) (en:=Ed) r r r r<|nI<|xC (s:=([] : List Int) ++ ([IntKind.i64.wrap (k2 + 1)] : List Int)) (_,_) ((hE ⟨rfl,r,trivial⟩ ⟨rfl,r,trivial⟩))
   ·exact sK<|xC (s:=([] : List Int)) (_,_) ((hE ⟨rfl,r,trivial⟩ ⟨rfl,r,trivial⟩))
  ·rintro l4 ⟨v5x2,v6x2⟩ nn
   try dsimp only
   unfold Ro
   refine sQ<|sQ<|rG<|fA r r<|lO (v:=.int .i64 x_x3.Op) (z:=.agg [.int .i64 x_x3.Op,.int .i64 x_x3.A,.int .i64 x_x3.B,.int .i64 x_x3.C,.int .u64 x_x3.Imm]) r r r r r r<|nI<|xS<|bK<|sQ<|rG<|bN (v:=.bool (x_x3.Op == 20)) r r r r r<|aS r r<|nI<|xS<|cD (c:=(x_x3.Op == 20)) r ?_ ?_
   ·refine rG<|mV r r<|fA r r<|lO (v:=.int .i64 x_x3.A) (z:=.agg [.int .i64 x_x3.Op,.int .i64 x_x3.A,.int .i64 x_x3.B,.int .i64 x_x3.C,.int .u64 x_x3.Imm]) r r r r r r<|bS ([x_x3.A] : List Int) Ed r r r (by simp) r r r<|cK fun hq=>aP (l4) (([x_x3.A] : List Int)) Ed r r r r r r r (by simp) (Ml _ _ r) r r (by simp) (LY _ _ r) (fun _=>r) r hq<|aO (l:=l4 ++ ([x_x3.A] : List Int)) (en:=Ed) r r r r<|nI<|bM<|xS<|sQ<|rG<|mV r r<|cK fun hq=>XK (l:=l4 ++ ([x_x3.A] : List Int)) (l':=Nf (l4 ++ ([x_x3.A] : List Int))) r r r r r r r hq r<|nI<|xS<|sQ<|rG<|mV r r<|cK fun hq=>Wh (l:=Nf (l4 ++ ([x_x3.A] : List Int))) (l':=Lib.compact (Nf (l4 ++ ([x_x3.A] : List Int)))) r r r r r (by simp) r hq (TT _) r<|aO (l:=Lib.compact (Nf (l4 ++ ([x_x3.A] : List Int)))) (en:=Ed) r r r r<|nI<|xS<|rT<|Mw (b:=Lib.compact (Nf (l4 ++ ([x_x3.A] : List Int)))) r ?_ r r ?_ r ?_ (congrArg D.sl (LY _ _ r)) r
    all_goals first|(simp;done)|(simp;omega)|rfl|(simp [Mf,LZ];done)
   ·refine sQ<|rG<|bN (v:=.bool (x_x3.Op == 21)) r r r r r<|aS r r<|nI<|xS<|cD (c:=(x_x3.Op == 21)) r ?_ ?_
    ·refine rG<|mV r r<|fA r r<|lO (v:=.int .i64 x_x3.B) (z:=.agg [.int .i64 x_x3.Op,.int .i64 x_x3.A,.int .i64 x_x3.B,.int .i64 x_x3.C,.int .u64 x_x3.Imm]) r r r r r r<|bS ([x_x3.B] : List Int) Ed r r r (by simp) r r r<|cK fun hq=>aP (l4) (([x_x3.B] : List Int)) Ed r r r r r r r (by simp) (Ml _ _ r) r r (by simp) (LY _ _ r) (fun _=>r) r hq<|aO (l:=l4 ++ ([x_x3.B] : List Int)) (en:=Ed) r r r r<|nI<|bM<|xS<|sQ<|rG<|mV r r<|cK fun hq=>XK (l:=l4 ++ ([x_x3.B] : List Int)) (l':=Nf (l4 ++ ([x_x3.B] : List Int))) r r r r r r r hq r<|nI<|xS<|sQ<|rG<|mV r r<|cK fun hq=>Wh (l:=Nf (l4 ++ ([x_x3.B] : List Int))) (l':=Lib.compact (Nf (l4 ++ ([x_x3.B] : List Int)))) r r r r r (by simp) r hq (TT _) r<|aO (l:=Lib.compact (Nf (l4 ++ ([x_x3.B] : List Int)))) (en:=Ed) r r r r<|nI<|xS<|rT<|Mw (b:=Lib.compact (Nf (l4 ++ ([x_x3.B] : List Int)))) r ?_ r r ?_ r ?_ (congrArg D.sl (LY _ _ r)) r
     all_goals first|(simp;done)|(simp;omega)|rfl|(simp [Mf,LZ];done)
    ·refine sK<|bM<|xS<|sQ<|rG<|mV r r<|cK fun hq=>XK (l:=l4) (l':=Nf l4) r r r r r r r hq r<|nI<|xS<|sQ<|rG<|mV r r<|cK fun hq=>Wh (l:=Nf l4) (l':=Lib.compact (Nf l4)) r r r r r (by simp) r hq (TT _) r<|aO (l:=Lib.compact (Nf l4)) (en:=Ed) r r r r<|nI<|xS<|rT<|Mw (b:=Lib.compact (Nf l4)) r ?_ r r ?_ r ?_ (congrArg D.sl (LY _ _ r)) r
     all_goals first|(simp;done)|(simp;omega)|rfl|(simp [Mf,LZ];done)

def Acj : Mj:=(.seq (.reg [P 1 (.box (T 0) 3 27),⟨(some 2),(.asg (.c .nils) (some ⟨1,36⟩)),none,[]⟩] false) (.seq (.reg [P 7 (.fldA 2 (T 1)),P 8 (.ld 1 false (T 7)),P 9 (.len false (T 8)),P 10 (.mkS 1 36 24 .nils (T 9) (T 9)),⟨(some 3),(.asg (T 10) (some ⟨1,36⟩)),none,[]⟩] false) (.seq (.seq (.reg [P 11 (.fldA 2 (T 1)),P 12 (.ld 1 false (T 11)),P 13 (.len false (T 12)),P 14 (.mv (C 0))] false) (.block 0 (.loop (.seq (.reg [P 15 (.bin .lss (T 14) (T 13))] false) (.seq (.cond (T 15) .skip (.exit 0)) (.seq (.block 1 (.seq (.reg [M 16 14,P 4 (.asg (T 16) none)] false) (.seq (.reg [P 17 (.ld 3 true (T 1)),M 18 4,P 19 (.call (.c (.clo 88 [])) [(T 17),(T 18)]),P 20 (.len false (T 19)),P 21 (.mv (C 0))] false) (.block 2 (.loop (.seq (.reg [P 22 (.bin .lss (T 21) (T 20))] false) (.seq (.cond (T 22) .skip (.exit 2)) (.seq (.block 3 (.seq (.reg [P 23 (.ixA 1 (T 19) (T 21)),P 24 (.ld 1 false (T 23)),P 6 (.asg (T 24) none)] false) (.reg [M 25 3,M 26 6,M 27 3,M 28 6,P 29 (.ixA 1 (T 27) (T 28)),P 30 (.ld 1 false (T 29)),M 31 4,⟨(some 32),(.bldS 1 3 (.int .i64 0) 1 [⟨0,(T 31)⟩]),none,[]⟩,P 33 (.app 1 3 8 (T 30) (T 32)),P 34 (.ixA 1 (T 25) (T 26)),⟨none,(.st 1 (T 34) (T 33)),none,[]⟩] false))) (.reg [P 35 (.bin .add (T 21) (C 1)),M 21 35] false))))))))) (.reg [P 36 (.bin .add (T 14) (C 1)),M 14 36] false))))))) (.seq (.reg [M 37 3,⟨(some 2),(.asg (T 37) (some ⟨1,36⟩)),none,[]⟩] false) .ret))))
theorem AeQ : (Tryd.f55.body.bind (Mn Tryd.prog Tryd.f55.ntmps)) = some Acj:=by kernel_rfl
theorem AeR : Tryd.f55.results.toList.mapM (MC Tryd.prog) = some [(.t 2)]:=by kernel_rfl
def Tm (a : LW) : List D:=[MI a]
def Tl (ds : List D) : LW:=OG (ds.getD 0 .top)
theorem WT (a : LW) : Tl (Tm a) = a:=by simp [Tl,Tm]
def UL (b : (List (List Int))) : D:=.sl (b.map (eL Ed))
def XO (_b : (List (List Int))) : List D:=[]
noncomputable def UM : Dw.Spec:=Mk [] .val Tm Tl (fun a=>PG a) UL XO
set_option maxHeartbeats 4000000 in
theorem ZF : Mi Tryd.prog 55 UM:=by
 refine MB (Mq (l:=[(88,PH)]) (by simp [VJ])) Tryd.func55 (by decide) AeQ AeR (np:=1) (by decide) WT (fun _=>r) (fun _=>r) (by decide)<|?_
 intro f1
 show TrE (specs [(88,PH)]) Acj (ME [] .val [(.t 2)] UL XO) ⟨[(0,.agg [.int .i64 f1.Params,.sl (f1.Slots.map LX),.sl (f1.Code.map LU)])],[],262144⟩ (PG f1)
 refine Mr<|?_
 unfold Acj PG
 refine sQ<|rG<|bX r r r r r<|aN (α:=(List Int)) r (eL Ed) r<|nI<|xS<|sQ<|rG<|fA r r<|lO (v:=.sl (f1.Code.map LU)) (z:=.agg [.int .i64 f1.Params,.sl (f1.Slots.map LX),.sl (f1.Code.map LU)]) r r r r r r<|lS r r<|cK fun hq=>Sq (α:=Int) r r r hq r<|aO (l:=List.replicate (f1.Code.length : Int).toNat ([] : (List Int))) (en:=(fun _=>D.nils)) r r r r<|nI<|PJ (E:=[(1,.optr 1 _ 0 0),(3,.osl 4099 _ 0 ((List.replicate (f1.Code.length : Int).toNat ([] : (List Int))).length))]) (O:=[(1,some (_,⟨false,true,3,27,[.agg [.int .i64 f1.Params,.sl (f1.Slots.map LX),.sl (f1.Code.map LU)]]⟩)),(4099,some (_,⟨false,false,1,36,(List.replicate (f1.Code.length : Int).toNat ([] : (List Int))).map (eR 1 3 Ed)⟩))]) ((LB (g:=3) (g2:=4099) r r r (LK (l:=List.replicate (f1.Code.length : Int).toNat ([] : (List Int))) (s':=1) (ty':=3) Ed (by decide) (fun _ h=>List.eq_of_mem_replicate h)) (hE ⟨rfl,r,trivial⟩ ⟨rfl,r,trivial⟩))) fun nn=>sQ<|sQ<|rG<|fA r r<|lO (v:=.sl (f1.Code.map LU)) (z:=.agg [.int .i64 f1.Params,.sl (f1.Slots.map LX),.sl (f1.Code.map LU)]) r r r r r r<|lS r r<|mV r r<|nI<|xS<|bK<|lP (E:=fun (s : (List (List Int)) × Int) (g : Nat × Nat)=>[(1,.optr 1 g.1 0 0),(3,.osl 4099 g.2 0 s.1.length),(13,.int .i64 (f1.Code.length : Int)),(14,.int .i64 s.2)]) (O:=fun s g=>[(1,some (g.1,⟨false,true,3,27,[.agg [.int .i64 f1.Params,.sl (f1.Slots.map LX),.sl (f1.Code.map LU)]]⟩)),(4099,some (g.2,⟨false,false,1,36,s.1.map (eR 1 3 Ed)⟩))]) (body:=fun s=>RG f1 s.1 s.2) (s:=(List.replicate (f1.Code.length : Int).toNat ([] : (List Int)),0)) (_,_) ((hE ⟨rfl,r,r,r,trivial⟩ ⟨rfl,r,trivial⟩))<|?_
 rintro ⟨l2,x3⟩ ⟨v1x1,v4099x1⟩ nn
 try dsimp only
 unfold RG
 refine sQ<|rG<|bN (v:=.bool (decide (x3 < (f1.Code.length : Int)))) r r r r r<|nI<|xS<|sQ<|cD (c:=(decide (x3 < (f1.Code.length : Int)))) r ?_ ?_
 ·refine sK<|xS<|sQ<|bK<|sQ<|rG<|mV r r<|aS r r<|nI<|xS<|sQ<|rG<|lO (v:=.agg [.int .i64 f1.Params,.sl (f1.Slots.map LX),.sl (f1.Code.map LU)]) (z:=.agg [.int .i64 f1.Params,.sl (f1.Slots.map LX),.sl (f1.Code.map LU)]) r r r r r r<|mV r r<|bD fun r4 hr4=>cR (l:=r4) (en:=Ed) (f1,x3) r r r Tn r r (by simp) r hr4 r<|lW r r<|mV r r<|nI<|xS<|bK<|lP (E:=fun (s : (List (List Int)) × Int) (g : Nat × Nat × Nat)=>[(1,.optr 1 g.1 0 0),(3,.osl 4099 g.2.2 0 s.1.length),(4,.int .i64 x3),(13,.int .i64 (f1.Code.length : Int)),(14,.int .i64 x3),(19,.osl 19 g.2.1 0 r4.length),(20,.int .i64 (r4.length : Int)),(21,.int .i64 s.2)]) (O:=fun s g=>[(1,some (g.1,⟨false,true,3,27,[.agg [.int .i64 f1.Params,.sl (f1.Slots.map LX),.sl (f1.Code.map LU)]]⟩)),(19,some (g.2.1,⟨false,false,1,3,r4.map Ed⟩)),(4099,some (g.2.2,⟨false,false,1,36,s.1.map (eR 1 3 Ed)⟩))]) (body:=fun s=>RH r4 x3 s.1 s.2) (s:=(l2,0)) (_,_,_) ((hE ⟨rfl,r,r,r,r,r,r,r,trivial⟩ ⟨rfl,r,r,trivial⟩))<|?_
  rintro ⟨l5,x6⟩ ⟨v1x2,v19x2,v4099x2⟩ nn
  try dsimp only
  unfold RH
  refine sQ<|rG<|bN (v:=.bool (decide (x6 < (r4.length : Int)))) r r r r r<|nI<|xS<|sQ<|cD (c:=(decide (x6 < (r4.length : Int)))) r ?_ ?_
  ·exact sK<|xS<|sQ<|bK<|sQ<|rG<|cK fun hq=>iO (l:=r4) (en:=Ed) r r r r r hq<|bD fun x_e7 hx_e7=>lO (v:=.int .i64 x_e7) (z:=Ed x_e7) r r r (Nh hx_e7) r r<|aS r r<|nI<|xS<|rG<|mV r r<|mV r r<|mV r r<|mV r r<|cK fun hq=>iO (l:=l5) (en:=(eR 1 3 Ed)) r r r r r hq<|bD fun l_e8 hl_e8=>LJ (q:=l_e8) Ed r r r hl_e8<|mV r r<|bS ([x3] : List Int) Ed r r r (by simp) r r r<|cK fun hq=>LH (l_e8) (([x3] : List Int)) Ed r r r r r r r (by simp) (Ml _ _ r) r r (by simp) (LY _ _ r) (fun _=>r) r hq (fun _=>r)<|cK fun hq=>Lz (by simp) r r r r (by simpa using hq)<|LA (l:=l5) (q:=l_e8) (q':=l_e8 ++ ([x3] : List Int)) Ed rfl rfl rfl rfl (.inr ⟨_,_,_,rfl⟩) hl_e8 rfl rfl ⟨⟨rfl,rfl,by simp,LG fun _=>rfl⟩,trivial,rfl⟩ (congrArg (fun z=>[D.row _ _ z]) (LY _ _ rfl)) rfl<|nI<|bM<|xS<|rG<|bN (v:=.int .i64 (IntKind.i64.wrap (x6 + 1))) rfl rfl rfl rfl rfl<|mV rfl rfl<|nI<|xL (s:=(l5.set x_e7.toNat (l_e8 ++ ([x3] : List Int)),IntKind.i64.wrap (x6 + 1))) (_,_,_) ((hE ⟨rfl,(YI (q:=l5.length) rfl (by simp)),r,r,r,r,r,r,trivial⟩ ⟨rfl,r,r,trivial⟩))
  ·exact eT<|xE<|lE<|bH<|bM<|xS<|rG<|bN (v:=.int .i64 (IntKind.i64.wrap (x3 + 1))) r r r r r<|mV r r<|nI<|xL (s:=(l5,IntKind.i64.wrap (x3 + 1))) (_,_) ((hE ⟨rfl,r,r,r,trivial⟩ ⟨rfl,r,trivial⟩))
 ·refine eT<|xE<|lE<|bH<|PJ (E:=[(3,.osl 4099 _ 0 l2.length)]) (O:=[(4099,some (_,⟨false,false,1,36,l2.map (eL Ed)⟩))]) ((LF (g:=4099) r (LL (l:=l2) Ed (fun _=>r)) (hE ⟨rfl,trivial⟩ ⟨rfl,trivial⟩))) fun nn=>sQ<|rG<|mV r r<|Ly r r r<|nI<|xS<|rT<|MT (b:=l2) r ?_ r r ?_ (by first | rfl | (simp only [Me]; rfl) | (simp only [Mh]; rfl) | (simp only [Me,Mh]; rfl) | simp [UL])
  all_goals first|(simp;done)|(simp;omega)|rfl|(simp [Mf,LZ];done)

def AaR : Mj:=(.seq (.reg [P 1 (.box (T 0) 5 66),P 2 (.asg (C 0) none),P 3 (.asg (.c (.bool false)) none)] false) (.seq (.seq (.reg [P 4 (.fldA 0 (T 1)),P 5 (.ld 1 false (T 4))] false) (.block 0 (.seq (.seq (.reg [P 7 (.bin .eql (T 5) (C 16)),P 6 (.asg (T 7) none)] false) (.cond (T 6) .skip (.reg [P 8 (.bin .eql (T 5) (C 17)),P 6 (.asg (T 8) none)] false))) (.cond (T 6) (.seq (.reg [P 9 (.fldA 1 (T 1)),P 10 (.ld 1 false (T 9)),P 2 (.asg (T 10) none),P 3 (.asg (.c (.bool true)) none)] false) .ret) .skip)))) (.seq (.reg [P 2 (.asg (C 0) none),P 3 (.asg (.c (.bool false)) none)] false) .ret)))
theorem Adj : (Tryd.f100.body.bind (Mn Tryd.prog Tryd.f100.ntmps)) = some AaR:=by kernel_rfl
theorem Adk : Tryd.f100.results.toList.mapM (MC Tryd.prog) = some [(.t 2),(.t 3)]:=by kernel_rfl
def Rn (a : LS) : List D:=[LU a]
def Rm (ds : List D) : LS:=RF (ds.getD 0 .top)
theorem Vm (a : LS) : Rm (Rn a) = a:=by simp [Rm,Rn]
def VH (b : Int × Bool) : D:=.tup [.int .i64 b.1,.bool b.2]
def VG (_b : Int × Bool) : List D:=[]
noncomputable def SA : Dw.Spec:=Mk [] .ground Rn Rm (fun a=>OK a) VH VG
set_option maxHeartbeats 4000000 in
theorem YM : Mi Tryd.prog 100 SA:=by
 refine MB (Nd) Tryd.func100 (by decide) Adj Adk (np:=1) (by decide) Vm (fun _=>r) (fun _=>r) (by decide)<|?_
 intro x1
 show TrE (specs []) AaR (ME [] .ground [(.t 2),(.t 3)] VH VG) ⟨[(0,.agg [.int .i64 x1.Op,.int .i64 x1.A,.int .i64 x1.B,.int .i64 x1.C,.int .u64 x1.Imm])],[],262144⟩ (OK x1)
 refine Mr<|?_
 unfold AaR OK
 refine sQ<|rG<|bX r r r r r<|aS r r<|aS r r<|nI<|xS<|sQ<|sQ<|rG<|fA r r<|lO (v:=.int .i64 x1.Op) (z:=.agg [.int .i64 x1.Op,.int .i64 x1.A,.int .i64 x1.B,.int .i64 x1.C,.int .u64 x1.Imm]) r r r r r r<|nI<|xS<|bK<|sQ<|sQ<|rG<|bN (v:=.bool (x1.Op == 16)) r r r r r<|aS r r<|nI<|xS<|cD (c:=(x1.Op == 16)) r ?_ ?_
 ·refine sK<|xS<|cD (c:=(x1.Op == 16)) r ?_ ?_
  ·refine sQ<|rG<|fA r r<|lO (v:=.int .i64 x1.A) (z:=.agg [.int .i64 x1.Op,.int .i64 x1.A,.int .i64 x1.B,.int .i64 x1.C,.int .u64 x1.Imm]) r r r r r r<|aS r r<|aS r r<|nI<|xS<|rT<|bR<|xR<|ON (b:=(x1.A,true)) r ?_ r r ?_ r (by decide)
   all_goals first|(simp;done)|(simp;omega)|rfl|(simp [Mf,LZ];done)
  ·refine sK<|bM<|xS<|sQ<|rG<|aS r r<|aS r r<|nI<|xS<|rT<|ON (b:=(0,false)) r ?_ r r ?_ r (by decide)
   all_goals first|(simp;done)|(simp;omega)|rfl|(simp [Mf,LZ];done)
 ·refine rG<|bN (v:=.bool (x1.Op == 17)) r r r r r<|aS r r<|nI<|xS<|cD (c:=(x1.Op == 17)) r ?_ ?_
  ·refine sQ<|rG<|fA r r<|lO (v:=.int .i64 x1.A) (z:=.agg [.int .i64 x1.Op,.int .i64 x1.A,.int .i64 x1.B,.int .i64 x1.C,.int .u64 x1.Imm]) r r r r r r<|aS r r<|aS r r<|nI<|xS<|rT<|bR<|xR<|ON (b:=(x1.A,true)) r ?_ r r ?_ r (by decide)
   all_goals first|(simp;done)|(simp;omega)|rfl|(simp [Mf,LZ];done)
  ·refine sK<|bM<|xS<|sQ<|rG<|aS r r<|aS r r<|nI<|xS<|rT<|ON (b:=(0,false)) r ?_ r r ?_ r (by decide)
   all_goals first|(simp;done)|(simp;omega)|rfl|(simp [Mf,LZ];done)

def AaZ : Mj:=(.seq (.reg [P 2 (.asg (.c (.bool false)) none)] false) (.seq (.reg [M 3 0,P 4 (.bin .geq (T 3) (C 0)),M 5 4,⟨(some 6),(.mv (T 0)),(some ⟨5,true⟩),[]⟩,⟨(some 7),(.bin .lss (T 6) (C 512)),(some ⟨5,true⟩),[]⟩,P 8 (.pick (T 5) (T 7) (.c (.bool false))),P 2 (.asg (T 8) none)] false) .ret))
theorem Adz : (Tryd.f115.body.bind (Mn Tryd.prog Tryd.f115.ntmps)) = some AaZ:=by kernel_rfl
theorem AdA : Tryd.f115.results.toList.mapM (MC Tryd.prog) = some [(.t 2)]:=by kernel_rfl
def PZ (a : Int) : List D:=[.int .i64 a]
def PY (ds : List D) : Int:=uI (ds.getD 0 .top)
theorem Tf (a : Int) : PY (PZ a) = a:=by simp [PY,PZ,uI]
def TL (b : Bool) : D:=.bool b
def TK (_b : Bool) : List D:=[]
noncomputable def QJ : Dw.Spec:=Mk [] .ground PZ PY (fun a=>NS a) TL TK
set_option maxHeartbeats 4000000 in
theorem Xx : Mi Tryd.prog 115 QJ:=by
 refine MB (Nd) Tryd.func115 (by decide) Adz AdA (np:=1) (by decide) Tf (fun _=>r) (fun _=>r) (by decide)<|?_
 intro n1
 show TrE (specs []) AaZ (ME [] .ground [(.t 2)] TL TK) ⟨[(0,.int .i64 n1)],[],262144⟩ (NS n1)
 refine Mr<|?_
 unfold AaZ NS
 refine sQ<|rG<|aS r r<|nI<|xS<|sQ<|rG<|mV r r<|bN (v:=.bool (decide (n1 ≥ 0))) r r r r r<|mV r r<|sP 5 (b:=(decide (n1 ≥ 0))) r ?_ ?_
 ·refine mV r r<|bN (v:=.bool (decide (n1 < 512))) r r r r r<|pT r r r r<|aS r r<|nI<|xS<|rT<|Mx (b:=(decide (n1 < 512))) r ?_ r r ?_ r
  all_goals first|(simp;done)|(simp;omega)|rfl|(simp [Mf,LZ];done)
 ·refine oF r<|oF r<|pF r r r r<|aS r r<|nI<|xS<|rT<|Mx (b:=false) r ?_ r r ?_ r
  all_goals first|(simp;done)|(simp;omega)|rfl|(simp [Mf,LZ];done)

def AaU : Mj:=(.seq (.reg [M 7 1,P 8 (.cvt .u64 (T 7)),P 9 (.bin .rem (T 8) (.c (.int .u64 64))),P 10 (.bin .shl (.c (.int .u64 1)) (T 9)),P 6 (.asg (T 10) none)] false) (.block 0 (.seq (.reg [M 22 1,P 23 (.call (.c (.clo 115 [])) [(T 22)]),P 24 (.un .not (T 23)),P 21 (.asg (T 24) none)] false) (.cond (T 21) .skip (.seq (.reg [M 26 2,P 25 (.asg (T 26) none)] false) (.cond (T 25) (.reg [M 27 0,M 28 1,⟨(some 29),(.bin .quo (T 28) (C 64)),none,[1]⟩,⟨(some 30),(.nilck (T 27)),none,[0]⟩,⟨(some 31),(.ixP 1 8 (T 30) (T 29)),none,[3,2]⟩,⟨(some 32),(.ld 1 false (T 31)),none,[4]⟩,M 33 6,⟨(some 34),(.bin .or (T 32) (T 33)),none,[5,6]⟩,⟨(some 35),(.nilck (T 27)),none,[0]⟩,⟨(some 36),(.ixP 1 8 (T 35) (T 29)),none,[8,2,0,1,2,3,4,5,6,7]⟩,⟨none,(.st 1 (T 36) (T 34)),none,[9,7,0,1,2,3,4,5,6,7]⟩] true) (.reg [M 11 0,M 12 1,⟨(some 13),(.bin .quo (T 12) (C 64)),none,[1]⟩,⟨(some 14),(.nilck (T 11)),none,[0]⟩,⟨(some 15),(.ixP 1 8 (T 14) (T 13)),none,[3,2]⟩,⟨(some 16),(.ld 1 false (T 15)),none,[4]⟩,M 17 6,⟨(some 18),(.bin .andNot (T 16) (T 17)),none,[5,6]⟩,⟨(some 19),(.nilck (T 11)),none,[0]⟩,⟨(some 20),(.ixP 1 8 (T 19) (T 13)),none,[8,2,0,1,2,3,4,5,6,7]⟩,⟨none,(.st 1 (T 20) (T 18)),none,[9,7,0,1,2,3,4,5,6,7]⟩] true)))))))
theorem Adp : (Tryd.f103.body.bind (Mn Tryd.prog Tryd.f103.ntmps)) = some AaU:=by kernel_rfl
theorem Adq : Tryd.f103.results.toList.mapM (MC Tryd.prog) = some []:=by kernel_rfl
def PA (a : LV × Int × Bool) : List D:=[ML a.1,.int .i64 a.2.1,.bool a.2.2]
def Pz (ds : List D) : LV × Int × Bool:=(Ob (ds.getD 0 .top),uI (ds.getD 1 .top),uBo (ds.getD 2 .top))
theorem PX (a : LV × Int × Bool) : Pz (PA a) = a:=by simp [Pz,PA,uI,uBo]
def Td (b : LV) : D:=.tup []
def Tc (b : LV) : List D:=[ML b]
noncomputable def NN : Dw.Spec:=Mk [(0,(8,122))] .val PA Pz (fun a=>Nj a.1 a.2.1 a.2.2) Td Tc
set_option maxHeartbeats 4000000 in
theorem SO : Mi Tryd.prog 103 NN:=by
 refine MB (Mq (l:=[(115,QJ)]) (by simp [Xx])) Tryd.func103 (by decide) Adp Adq (np:=3) (by decide) PX (fun _=>r) (fun _=>r) (by decide)<|?_
 rintro ⟨s1,n2,in3⟩
 show TrE (specs [(115,QJ)]) AaU (ME [(0,(8,122))] .val [] Td Tc) ⟨[(0,.optr 8192 0 0 0),(1,.int .i64 n2),(2,.bool in3)],[(8192,some (0,⟨false,true,8,122,[.agg [.int .u64 s1.a0,.int .u64 s1.a1,.int .u64 s1.a2,.int .u64 s1.a3,.int .u64 s1.a4,.int .u64 s1.a5,.int .u64 s1.a6,.int .u64 s1.a7]]⟩))],262144⟩ (Nj s1 n2 in3)
 refine Mr<|?_
 unfold AaU Nj
 refine sQ<|rG<|mV r r<|cT r r<|bN (v:=.int .u64 ((IntKind.u64.wrap (n2)).tmod 64)) r r r r ⟨rfl,(by decide)⟩<|cK fun hq=>bN (v:=.int .u64 (IntKind.u64.wrap (1 * 2 ^ (Nat.min ((IntKind.u64.wrap (n2)).tmod 64).toNat IntKind.u64.bits)))) r r r r hq<|aS r r<|nI<|xS<|bK<|sQ<|rG<|mV r r<|bD fun r4 hr4=>cG n2 r r r Tf r r (by simp) r hr4 r<|uN (w:=.bool (!r4)) r r r r trivial<|aS r r<|nI<|xS<|cD (c:=(!r4)) r ?_ ?_
 ·refine sK<|bM<|WJ (b:=s1) r ?_ r r ?_ r (by decide)
  all_goals first|(simp;done)|(simp;omega)|rfl|(simp [Mf,LZ];done)
 ·refine sQ<|rG<|mV r r<|aS r r<|nI<|xS<|cD (c:=in3) r ?_ ?_
  ·refine rG<|mV r r<|mV r r<|bN (v:=.int .i64 (IntKind.i64.wrap (n2.tdiv 64))) r r r r ⟨rfl,(by decide)⟩<|nC r r r<|cK fun hq=>SX r r r hq<|bD fun s_e5 hs_e5=>TG (q:=s_e5) (l:=s1.toList) (en:=VF) (j:=(IntKind.i64.wrap (n2.tdiv 64)).toNat) (by simp) r r r hs_e5 r (fun _=>r)<|mV r r<|bN (v:=.int .u64 (IntKind.u64.wrap ((BitVec.ofInt IntKind.u64.bits s_e5 ||| BitVec.ofInt IntKind.u64.bits (IntKind.u64.wrap (1 * 2 ^ (Nat.min ((IntKind.u64.wrap (n2)).tmod 64).toNat IntKind.u64.bits)))).toNat))) r r r r r<|nC r r r<|cK fun hq=>SX r r r hq<|bD fun s_o6 hs_o6=>WA (q:=s_o6) (q':=IntKind.u64.wrap ((BitVec.ofInt IntKind.u64.bits s_e5 ||| BitVec.ofInt IntKind.u64.bits (IntKind.u64.wrap (1 * 2 ^ (Nat.min ((IntKind.u64.wrap (n2)).tmod 64).toNat IntKind.u64.bits)))).toNat)) (l:=s1.toList) (en:=VF) (j:=(IntKind.i64.wrap (n2.tdiv 64)).toNat) (z':=.agg [.int .u64 ((s1.set ((IntKind.i64.wrap (n2.tdiv 64)).toNat) (IntKind.u64.wrap ((BitVec.ofInt IntKind.u64.bits s_e5 ||| BitVec.ofInt IntKind.u64.bits (IntKind.u64.wrap (1 * 2 ^ (Nat.min ((IntKind.u64.wrap (n2)).tmod 64).toNat IntKind.u64.bits)))).toNat))).a0),.int .u64 ((s1.set ((IntKind.i64.wrap (n2.tdiv 64)).toNat) (IntKind.u64.wrap ((BitVec.ofInt IntKind.u64.bits s_e5 ||| BitVec.ofInt IntKind.u64.bits (IntKind.u64.wrap (1 * 2 ^ (Nat.min ((IntKind.u64.wrap (n2)).tmod 64).toNat IntKind.u64.bits)))).toNat))).a1),.int .u64 ((s1.set ((IntKind.i64.wrap (n2.tdiv 64)).toNat) (IntKind.u64.wrap ((BitVec.ofInt IntKind.u64.bits s_e5 ||| BitVec.ofInt IntKind.u64.bits (IntKind.u64.wrap (1 * 2 ^ (Nat.min ((IntKind.u64.wrap (n2)).tmod 64).toNat IntKind.u64.bits)))).toNat))).a2),.int .u64 ((s1.set ((IntKind.i64.wrap (n2.tdiv 64)).toNat) (IntKind.u64.wrap ((BitVec.ofInt IntKind.u64.bits s_e5 ||| BitVec.ofInt IntKind.u64.bits (IntKind.u64.wrap (1 * 2 ^ (Nat.min ((IntKind.u64.wrap (n2)).tmod 64).toNat IntKind.u64.bits)))).toNat))).a3),.int .u64 ((s1.set ((IntKind.i64.wrap (n2.tdiv 64)).toNat) (IntKind.u64.wrap ((BitVec.ofInt IntKind.u64.bits s_e5 ||| BitVec.ofInt IntKind.u64.bits (IntKind.u64.wrap (1 * 2 ^ (Nat.min ((IntKind.u64.wrap (n2)).tmod 64).toNat IntKind.u64.bits)))).toNat))).a4),.int .u64 ((s1.set ((IntKind.i64.wrap (n2.tdiv 64)).toNat) (IntKind.u64.wrap ((BitVec.ofInt IntKind.u64.bits s_e5 ||| BitVec.ofInt IntKind.u64.bits (IntKind.u64.wrap (1 * 2 ^ (Nat.min ((IntKind.u64.wrap (n2)).tmod 64).toNat IntKind.u64.bits)))).toNat))).a5),.int .u64 ((s1.set ((IntKind.i64.wrap (n2.tdiv 64)).toNat) (IntKind.u64.wrap ((BitVec.ofInt IntKind.u64.bits s_e5 ||| BitVec.ofInt IntKind.u64.bits (IntKind.u64.wrap (1 * 2 ^ (Nat.min ((IntKind.u64.wrap (n2)).tmod 64).toNat IntKind.u64.bits)))).toNat))).a6),.int .u64 ((s1.set ((IntKind.i64.wrap (n2.tdiv 64)).toNat) (IntKind.u64.wrap ((BitVec.ofInt IntKind.u64.bits s_e5 ||| BitVec.ofInt IntKind.u64.bits (IntKind.u64.wrap (1 * 2 ^ (Nat.min ((IntKind.u64.wrap (n2)).tmod 64).toNat IntKind.u64.bits)))).toNat))).a7)]) (by simp) r r r r r hs_o6 r r (congrArg (fun l=>D.agg (l.map VF)) (NL s1 ((IntKind.i64.wrap (n2.tdiv 64)).toNat) (IntKind.u64.wrap ((BitVec.ofInt IntKind.u64.bits s_e5 ||| BitVec.ofInt IntKind.u64.bits (IntKind.u64.wrap (1 * 2 ^ (Nat.min ((IntKind.u64.wrap (n2)).tmod 64).toNat IntKind.u64.bits)))).toNat))).symm) r r<|Mp (by kernel_rfl)<|bM<|WJ (b:=(s1.set ((IntKind.i64.wrap (n2.tdiv 64)).toNat) (IntKind.u64.wrap ((BitVec.ofInt IntKind.u64.bits s_e5 ||| BitVec.ofInt IntKind.u64.bits (IntKind.u64.wrap (1 * 2 ^ (Nat.min ((IntKind.u64.wrap (n2)).tmod 64).toNat IntKind.u64.bits)))).toNat)))) r ?_ r r ?_ r (by decide)
   all_goals first|(simp;done)|(simp;omega)|rfl|(simp [Mf,LZ];done)
  ·refine rG<|mV r r<|mV r r<|bN (v:=.int .i64 (IntKind.i64.wrap (n2.tdiv 64))) r r r r ⟨rfl,(by decide)⟩<|nC r r r<|cK fun hq=>SX r r r hq<|bD fun s_e7 hs_e7=>TG (q:=s_e7) (l:=s1.toList) (en:=VF) (j:=(IntKind.i64.wrap (n2.tdiv 64)).toNat) (by simp) r r r hs_e7 r (fun _=>r)<|mV r r<|bN (v:=.int .u64 (IntKind.u64.wrap ((BitVec.ofInt IntKind.u64.bits s_e7 &&& ~~~ BitVec.ofInt IntKind.u64.bits (IntKind.u64.wrap (1 * 2 ^ (Nat.min ((IntKind.u64.wrap (n2)).tmod 64).toNat IntKind.u64.bits)))).toNat))) r r r r r<|nC r r r<|cK fun hq=>SX r r r hq<|bD fun s_o8 hs_o8=>WA (q:=s_o8) (q':=IntKind.u64.wrap ((BitVec.ofInt IntKind.u64.bits s_e7 &&& ~~~ BitVec.ofInt IntKind.u64.bits (IntKind.u64.wrap (1 * 2 ^ (Nat.min ((IntKind.u64.wrap (n2)).tmod 64).toNat IntKind.u64.bits)))).toNat)) (l:=s1.toList) (en:=VF) (j:=(IntKind.i64.wrap (n2.tdiv 64)).toNat) (z':=.agg [.int .u64 ((s1.set ((IntKind.i64.wrap (n2.tdiv 64)).toNat) (IntKind.u64.wrap ((BitVec.ofInt IntKind.u64.bits s_e7 &&& ~~~ BitVec.ofInt IntKind.u64.bits (IntKind.u64.wrap (1 * 2 ^ (Nat.min ((IntKind.u64.wrap (n2)).tmod 64).toNat IntKind.u64.bits)))).toNat))).a0),.int .u64 ((s1.set ((IntKind.i64.wrap (n2.tdiv 64)).toNat) (IntKind.u64.wrap ((BitVec.ofInt IntKind.u64.bits s_e7 &&& ~~~ BitVec.ofInt IntKind.u64.bits (IntKind.u64.wrap (1 * 2 ^ (Nat.min ((IntKind.u64.wrap (n2)).tmod 64).toNat IntKind.u64.bits)))).toNat))).a1),.int .u64 ((s1.set ((IntKind.i64.wrap (n2.tdiv 64)).toNat) (IntKind.u64.wrap ((BitVec.ofInt IntKind.u64.bits s_e7 &&& ~~~ BitVec.ofInt IntKind.u64.bits (IntKind.u64.wrap (1 * 2 ^ (Nat.min ((IntKind.u64.wrap (n2)).tmod 64).toNat IntKind.u64.bits)))).toNat))).a2),.int .u64 ((s1.set ((IntKind.i64.wrap (n2.tdiv 64)).toNat) (IntKind.u64.wrap ((BitVec.ofInt IntKind.u64.bits s_e7 &&& ~~~ BitVec.ofInt IntKind.u64.bits (IntKind.u64.wrap (1 * 2 ^ (Nat.min ((IntKind.u64.wrap (n2)).tmod 64).toNat IntKind.u64.bits)))).toNat))).a3),.int .u64 ((s1.set ((IntKind.i64.wrap (n2.tdiv 64)).toNat) (IntKind.u64.wrap ((BitVec.ofInt IntKind.u64.bits s_e7 &&& ~~~ BitVec.ofInt IntKind.u64.bits (IntKind.u64.wrap (1 * 2 ^ (Nat.min ((IntKind.u64.wrap (n2)).tmod 64).toNat IntKind.u64.bits)))).toNat))).a4),.int .u64 ((s1.set ((IntKind.i64.wrap (n2.tdiv 64)).toNat) (IntKind.u64.wrap ((BitVec.ofInt IntKind.u64.bits s_e7 &&& ~~~ BitVec.ofInt IntKind.u64.bits (IntKind.u64.wrap (1 * 2 ^ (Nat.min ((IntKind.u64.wrap (n2)).tmod 64).toNat IntKind.u64.bits)))).toNat))).a5),.int .u64 ((s1.set ((IntKind.i64.wrap (n2.tdiv 64)).toNat) (IntKind.u64.wrap ((BitVec.ofInt IntKind.u64.bits s_e7 &&& ~~~ BitVec.ofInt IntKind.u64.bits (IntKind.u64.wrap (1 * 2 ^ (Nat.min ((IntKind.u64.wrap (n2)).tmod 64).toNat IntKind.u64.bits)))).toNat))).a6),.int .u64 ((s1.set ((IntKind.i64.wrap (n2.tdiv 64)).toNat) (IntKind.u64.wrap ((BitVec.ofInt IntKind.u64.bits s_e7 &&& ~~~ BitVec.ofInt IntKind.u64.bits (IntKind.u64.wrap (1 * 2 ^ (Nat.min ((IntKind.u64.wrap (n2)).tmod 64).toNat IntKind.u64.bits)))).toNat))).a7)]) (by simp) r r r r r hs_o8 r r (congrArg (fun l=>D.agg (l.map VF)) (NL s1 ((IntKind.i64.wrap (n2.tdiv 64)).toNat) (IntKind.u64.wrap ((BitVec.ofInt IntKind.u64.bits s_e7 &&& ~~~ BitVec.ofInt IntKind.u64.bits (IntKind.u64.wrap (1 * 2 ^ (Nat.min ((IntKind.u64.wrap (n2)).tmod 64).toNat IntKind.u64.bits)))).toNat))).symm) r r<|Mp (by kernel_rfl)<|bM<|WJ (b:=(s1.set ((IntKind.i64.wrap (n2.tdiv 64)).toNat) (IntKind.u64.wrap ((BitVec.ofInt IntKind.u64.bits s_e7 &&& ~~~ BitVec.ofInt IntKind.u64.bits (IntKind.u64.wrap (1 * 2 ^ (Nat.min ((IntKind.u64.wrap (n2)).tmod 64).toNat IntKind.u64.bits)))).toNat)))) r ?_ r r ?_ r (by decide)
   all_goals first|(simp;done)|(simp;omega)|rfl|(simp [Mf,LZ];done)

def AcA : Mj:=(.seq (.reg [P 2 (.asg (.c .top) none)] false) (.seq (.reg [P 6 (.bld [(.int .u64 0),(.int .u64 0),(.int .u64 0),(.int .u64 0),(.int .u64 0),(.int .u64 0),(.int .u64 0),(.int .u64 0)] []),P 7 (.box (T 6) 8 122),P 3 (.asg (T 7) none)] false) (.seq (.seq (.reg [M 8 0,P 9 (.len false (T 8)),P 10 (.mv (C 0))] false) (.block 0 (.loop (.seq (.reg [P 11 (.bin .lss (T 10) (T 9))] false) (.seq (.cond (T 11) .skip (.exit 0)) (.seq (.block 1 (.seq (.reg [P 12 (.ixA 1 (T 8) (T 10)),P 13 (.ld 1 false (T 12)),P 5 (.asg (T 13) none)] false) (.reg [M 14 3,M 15 5,P 16 (.call (.c (.clo 103 [])) [(T 14),(T 15),(.c (.bool true))])] false))) (.reg [P 17 (.bin .add (T 10) (C 1)),M 10 17] false))))))) (.seq (.reg [M 18 3,P 2 (.asg (T 18) none)] false) .ret))))
theorem Afy : (Tryd.f95.body.bind (Mn Tryd.prog Tryd.f95.ntmps)) = some AcA:=by kernel_rfl
theorem Afz : Tryd.f95.results.toList.mapM (MC Tryd.prog) = some [(.t 2)]:=by kernel_rfl
def RU (a : (List Int)) : List D:=[.sl (a.map Ed)]
def RT (ds : List D) : (List Int):=(uL uI) (ds.getD 0 .top)
theorem OP (a : (List Int)) : RT (RU a) = a:=by simp [RT,RU,OH (u:=uI) (en:=Ed) (fun _=>rfl)]
def Wo (b : LV) : D:=ML b
def Wn (_b : LV) : List D:=[]
noncomputable def NM : Dw.Spec:=Mk [] (.ptr 8 122) RU RT (fun a=>Nz a) Wo Wn
set_option maxHeartbeats 4000000 in
theorem Sz : Mi Tryd.prog 95 NM:=by
 refine MB (Mq (l:=[(103,NN)]) (by simp [SO])) Tryd.func95 (by decide) Afy Afz (np:=1) (by decide) OP (fun _=>r) (fun _=>r) (by decide)<|?_
 intro l1
 show TrE (specs [(103,NN)]) AcA (ME [] (.ptr 8 122) [(.t 2)] Wo Wn) ⟨[(0,.sl (l1.map Ed))],[],262144⟩ (Nz l1)
 refine Mr<|?_
 unfold AcA Nz
 refine sQ<|rG<|aS r r<|nI<|xS<|sQ<|rG<|bL (cs:=[.int .u64 0,.int .u64 0,.int .u64 0,.int .u64 0,.int .u64 0,.int .u64 0,.int .u64 0,.int .u64 0]) (ps:=[]) r r r r<|bX r r r r r<|aS r r<|nI<|xS<|sQ<|sQ<|rG<|mV r r<|lS r r<|mV r r<|nI<|xS<|bK<|lP (E:=fun (s : LV × Int) (g : Nat)=>[(3,.optr 7 g 0 0),(8,.sl (l1.map Ed)),(9,.int .i64 (l1.length : Int)),(10,.int .i64 s.2)]) (O:=fun s g=>[(7,some (g,⟨false,true,8,122,[.agg [.int .u64 s.1.a0,.int .u64 s.1.a1,.int .u64 s.1.a2,.int .u64 s.1.a3,.int .u64 s.1.a4,.int .u64 s.1.a5,.int .u64 s.1.a6,.int .u64 s.1.a7]]⟩))]) (body:=fun s=>Qr l1 s.1 s.2) (s:=((LV.mk 0 0 0 0 0 0 0 0),0)) _ ((hE ⟨rfl,r,r,r,trivial⟩ ⟨rfl,trivial⟩))<|?_
 rintro ⟨x2,x3⟩ v7x1 nn
 try dsimp only
 unfold Qr
 refine sQ<|rG<|bN (v:=.bool (decide (x3 < (l1.length : Int)))) r r r r r<|nI<|xS<|sQ<|cD (c:=(decide (x3 < (l1.length : Int)))) r ?_ ?_
 ·exact sK<|xS<|sQ<|bK<|sQ<|rG<|bD fun x_x4 hx_x4=>iS (en:=Ed) r r r hx_x4 r<|lF (v:=.int .i64 x_x4) r r r r<|aS r r<|nI<|xS<|rG<|mV r r<|mV r r<|bD fun r5 hr5=>cV (x2,x_x4,true) r r r PX r r (by simp) r hr5<|nI<|bM<|xS<|rG<|bN (v:=.int .i64 (IntKind.i64.wrap (x3 + 1))) r r r r r<|mV r r<|nI<|xL (s:=(r5,IntKind.i64.wrap (x3 + 1))) _ ((hE ⟨rfl,r,r,r,trivial⟩ ⟨rfl,trivial⟩))
 ·refine eT<|xE<|lE<|bH<|xS<|sQ<|rG<|mV r r<|aS r r<|nI<|xS<|rT<|ZK (b:=x2) r ?_ r ?_ r r ?_ r
  all_goals first|(simp;done)|(simp;omega)|rfl|(simp [Mf,LZ];done)

def AcD : Mj:=(.seq (.reg [⟨(some 2),(.asg (.c .nils) (some ⟨1,3⟩)),none,[]⟩] false) (.seq (.reg [⟨(some 3),(.asg (.c .nils) (some ⟨1,3⟩)),none,[]⟩] false) (.seq (.seq (.reg [M 6 0,P 7 (.mv (C 0))] false) (.block 0 (.loop (.seq (.reg [P 8 (.bin .lss (T 7) (C 8))] false) (.seq (.cond (T 8) .skip (.exit 0)) (.seq (.block 1 (.seq (.reg [M 9 7,P 10 (.nilck (T 6)),⟨(some 11),(.ixP 1 8 (T 10) (T 7)),none,[1]⟩,⟨(some 12),(.ld 1 false (T 11)),none,[2]⟩,⟨(some 4),(.asg (T 9) none),none,[0,0]⟩,⟨(some 5),(.asg (T 12) none),none,[3,4,0,1,2,3,4]⟩] true) (.block 2 (.loop (.seq (.seq (.reg [M 13 5,P 14 (.bin .neq (T 13) (.c (.int .u64 0)))] false) (.cond (T 14) .skip (.exit 2))) (.seq (.block 3 (.reg [M 19 3,M 20 4,P 21 (.bin .mul (C 64) (T 20)),M 22 5,P 23 (.call (.c (.clo 117 [])) [(T 22)]),P 24 (.bin .add (T 21) (T 23)),⟨(some 25),(.bldS 1 3 (.int .i64 0) 1 [⟨0,(T 24)⟩]),none,[]⟩,P 26 (.app 1 3 8 (T 19) (T 25)),⟨(some 3),(.asg (T 26) (some ⟨1,3⟩)),none,[]⟩] false)) (.reg [M 15 5,M 16 5,P 17 (.bin .sub (T 16) (.c (.int .u64 1))),P 18 (.bin .and (T 15) (T 17)),P 5 (.asg (T 18) none)] false))))))) (.reg [P 27 (.bin .add (T 7) (C 1)),M 7 27] false))))))) (.seq (.reg [M 28 3,⟨(some 2),(.asg (T 28) (some ⟨1,3⟩)),none,[]⟩] false) .ret))))
theorem AfE : (Tryd.f98.body.bind (Mn Tryd.prog Tryd.f98.ntmps)) = some AcD:=by kernel_rfl
theorem AfF : Tryd.f98.results.toList.mapM (MC Tryd.prog) = some [(.t 2)]:=by kernel_rfl
def Pb (a : LV) : List D:=[ML a]
def Pa (ds : List D) : LV:=Ob (ds.getD 0 .top)
theorem Oe (a : LV) : Pa (Pb a) = a:=by simp [Pa,Pb]
def SN (b : (List Int) × LV) : D:=.sl (b.1.map Ed)
def SM (b : (List Int) × LV) : List D:=[ML b.2]
noncomputable def MX : Dw.Spec:=Mk [(0,(8,122))] (.row 1 3) Pb Pa (fun a=>MW a) SN SM
set_option maxHeartbeats 4000000 in
theorem Py : Mi Tryd.prog 98 MX:=by
 refine MB (Mq (l:=[(117,ZC)]) (by simp [AdQ])) Tryd.func98 (by decide) AfE AfF (np:=1) (by decide) Oe (fun _=>r) (fun _=>r) (by decide)<|?_
 intro s1
 show TrE (specs [(117,ZC)]) AcD (ME [(0,(8,122))] (.row 1 3) [(.t 2)] SN SM) ⟨[(0,.optr 8192 0 0 0)],[(8192,some (0,⟨false,true,8,122,[.agg [.int .u64 s1.a0,.int .u64 s1.a1,.int .u64 s1.a2,.int .u64 s1.a3,.int .u64 s1.a4,.int .u64 s1.a5,.int .u64 s1.a6,.int .u64 s1.a7]]⟩))],262144⟩ (MW s1)
 refine Mr<|?_
 unfold AcD MW
 refine sQ<|rG<|aN (α:=Int) r Ed r<|nI<|xS<|sQ<|rG<|aN (α:=Int) r Ed r<|nI<|xS<|sQ<|sQ<|rG<|mV r r<|mV r r<|nI<|xS<|bK<|lP (E:=fun (s : (List Int) × Int) (g : Nat)=>[(3,.osl 3 g 0 s.1.length),(6,.optr 8192 0 0 0),(7,.int .i64 s.2)]) (O:=fun s g=>[(3,some (g,⟨false,false,1,3,s.1.map Ed⟩)),(8192,some (0,⟨false,true,8,122,[.agg [.int .u64 s1.a0,.int .u64 s1.a1,.int .u64 s1.a2,.int .u64 s1.a3,.int .u64 s1.a4,.int .u64 s1.a5,.int .u64 s1.a6,.int .u64 s1.a7]]⟩))]) (body:=fun s=>Oc s1 s.1 s.2) (s:=(([] : List Int),0)) _ ((hE ⟨rfl,r,r,trivial⟩ ⟨rfl,r,trivial⟩))<|?_
 rintro ⟨l2,x3⟩ v3x1 nn
 try dsimp only
 unfold Oc
 refine sQ<|rG<|bN (v:=.bool (decide (x3 < 8))) r r r r r<|nI<|xS<|sQ<|cD (c:=(decide (x3 < 8))) r ?_ ?_
 ·refine sK<|xS<|sQ<|bK<|sQ<|rG<|mV r r<|nC r r r<|cK fun hq=>SX r r r hq<|bD fun s_e4 hs_e4=>TG (q:=s_e4) (l:=s1.toList) (en:=VF) (j:=x3.toNat) (by simp) r r r hs_e4 r (fun _=>r)<|aS r r<|aS r r<|Mp (by kernel_rfl)<|xS<|bK<|lP (E:=fun (s : (List Int) × Int) (g : Nat)=>[(3,.osl 3 g 0 s.1.length),(4,.int .i64 x3),(5,.int .u64 s.2),(6,.optr 8192 0 0 0),(7,.int .i64 x3)]) (O:=fun s g=>[(3,some (g,⟨false,false,1,3,s.1.map Ed⟩)),(8192,some (0,⟨false,true,8,122,[.agg [.int .u64 s1.a0,.int .u64 s1.a1,.int .u64 s1.a2,.int .u64 s1.a3,.int .u64 s1.a4,.int .u64 s1.a5,.int .u64 s1.a6,.int .u64 s1.a7]]⟩))]) (body:=fun s=>Od x3 s.1 s.2) (s:=(l2,s_e4)) _ ((hE ⟨rfl,r,r,r,r,trivial⟩ ⟨rfl,r,trivial⟩))<|?_
  rintro ⟨l5,x6⟩ v3x2 nn
  try dsimp only
  unfold Od
  refine sQ<|sQ<|rG<|mV r r<|bN (v:=.bool (x6 != 0)) r r r r r<|nI<|xS<|cD (c:=(x6 != 0)) r ?_ ?_
  ·exact sK<|xS<|sQ<|bK<|rG<|mV r r<|mV r r<|bN (v:=.int .i64 (IntKind.i64.wrap (64 * x3))) r r r r r<|mV r r<|bD fun r7 hr7=>cG x6 r r r AaO r r (by simp) r hr7 r<|bN (v:=.int .i64 (IntKind.i64.wrap ((IntKind.i64.wrap (64 * x3)) + r7))) r r r r r<|bS ([IntKind.i64.wrap ((IntKind.i64.wrap (64 * x3)) + r7)] : List Int) Ed r r r (by simp) r r r<|cK fun hq=>aP (l5) (([IntKind.i64.wrap ((IntKind.i64.wrap (64 * x3)) + r7)] : List Int)) Ed r r r r r r r (by simp) (Ml _ _ r) r r (by simp) (LY _ _ r) (fun _=>r) r hq<|aO (l:=l5 ++ ([IntKind.i64.wrap ((IntKind.i64.wrap (64 * x3)) + r7)] : List Int)) (en:=Ed) r r r r<|nI<|bM<|xS<|rG<|mV r r<|mV r r<|bN (v:=.int .u64 (IntKind.u64.wrap (x6 - 1))) r r r r r<|bN (v:=.int .u64 (IntKind.u64.wrap ((BitVec.ofInt IntKind.u64.bits x6 &&& BitVec.ofInt IntKind.u64.bits (IntKind.u64.wrap (x6 - 1))).toNat))) r r r r r<|aS r r<|nI<|xL (s:=(l5 ++ ([IntKind.i64.wrap ((IntKind.i64.wrap (64 * x3)) + r7)] : List Int),IntKind.u64.wrap ((BitVec.ofInt IntKind.u64.bits x6 &&& BitVec.ofInt IntKind.u64.bits (IntKind.u64.wrap (x6 - 1))).toNat))) _ ((hE ⟨rfl,r,r,r,r,trivial⟩ ⟨rfl,r,trivial⟩))
  ·exact eT<|xE<|lE<|bH<|bM<|xS<|rG<|bN (v:=.int .i64 (IntKind.i64.wrap (x3 + 1))) r r r r r<|mV r r<|nI<|xL (s:=(l5,IntKind.i64.wrap (x3 + 1))) _ ((hE ⟨rfl,r,r,trivial⟩ ⟨rfl,r,trivial⟩))
 ·refine eT<|xE<|lE<|bH<|xS<|sQ<|rG<|mV r r<|aO (l:=l2) (en:=Ed) r r r r<|nI<|xS<|rT<|Mw (b:=(l2,s1)) r ?_ r r ?_ r ?_ (congrArg D.sl (LY _ _ r)) r
  all_goals first|(simp;done)|(simp;omega)|rfl|(simp [Mf,LZ];done)

def Acu : Mj:=(.seq (.reg [⟨(some 4),(.asg (.c .nils) (some ⟨1,3⟩)),none,[]⟩] false) (.seq (.reg [M 6 0,P 7 (.call (.c (.clo 95 [])) [(T 6)]),P 5 (.asg (T 7) none)] false) (.seq (.reg [M 8 5,M 9 1,P 10 (.call (.c (.clo 103 [])) [(T 8),(T 9),(.c (.bool false))])] false) (.seq (.reg [M 11 5,P 12 (.call (.c (.clo 98 [])) [(T 11)]),⟨(some 4),(.asg (T 12) (some ⟨1,3⟩)),none,[]⟩] false) .ret))))
theorem Afm : (Tryd.f77.body.bind (Mn Tryd.prog Tryd.f77.ntmps)) = some Acu:=by kernel_rfl
theorem Afn : Tryd.f77.results.toList.mapM (MC Tryd.prog) = some [(.t 4)]:=by kernel_rfl
def RS (a : (List Int) × Int) : List D:=[.sl (a.1.map Ed),.int .i64 a.2]
def RR (ds : List D) : (List Int) × Int:=((uL uI) (ds.getD 0 .top),uI (ds.getD 1 .top))
theorem Vz (a : (List Int) × Int) : RR (RS a) = a:=by simp [RR,RS,uI,OH (u:=uI) (en:=Ed) (fun _=>rfl)]
def SZ (b : (List Int)) : D:=.sl (b.map Ed)
def Wm (_b : (List Int)) : List D:=[]
noncomputable def Ta : Dw.Spec:=Mk [] .val RS RR (fun a=>Ov a.1 a.2) SZ Wm
set_option maxHeartbeats 4000000 in
theorem Zj : Mi Tryd.prog 77 Ta:=by
 refine MB (Mq (l:=[(95,NM),(103,NN),(98,MX)]) (by simp [Sz,SO,Py])) Tryd.func77 (by decide) Afm Afn (np:=2) (by decide) Vz (fun _=>r) (fun _=>r) (by decide)<|?_
 rintro ⟨s1,n2⟩
 show TrE (specs [(95,NM),(103,NN),(98,MX)]) Acu (ME [] .val [(.t 4)] SZ Wm) ⟨[(0,.sl (s1.map Ed)),(1,.int .i64 n2)],[],262144⟩ (Ov s1 n2)
 refine Mr<|?_
 unfold Acu Ov
 refine sQ<|rG<|aN (α:=Int) r Ed r<|nI<|xS<|sQ<|rG<|mV r r<|bD fun r3 hr3=>cP s1 r r r OP r r (by simp) r hr3<|aS r r<|nI<|xS<|sQ<|rG<|mV r r<|mV r r<|bD fun r4 hr4=>cV (r3,n2,false) r r r PX r r (by simp) r hr4<|nI<|xS<|sQ<|rG<|mV r r<|bD fun r5 hr5=>cR (l:=r5.1) (en:=Ed) r4 r r r Oe r r (by simp) r hr5 r<|aO (l:=r5.1) (en:=Ed) r r r r<|nI<|xS<|rT<|MT (b:=r5.1) r ?_ r r ?_ (by first | rfl | (simp only [Me]; rfl) | (simp only [Mh]; rfl) | (simp only [Me,Mh]; rfl) | simp [SZ])
 all_goals first|(simp;done)|(simp;omega)|rfl|(simp [Mf,LZ];done)

def AaT : Mj:=(.seq (.reg [P 1 (.box (T 0) 5 66),⟨(some 2),(.asg (.c .nils) (some ⟨1,3⟩)),none,[]⟩] false) (.seq (.seq (.reg [P 3 (.fldA 0 (T 1)),P 4 (.ld 1 false (T 3))] false) (.block 0 (.seq (.seq (.reg [P 6 (.bin .eql (T 4) (C 15)),P 5 (.asg (T 6) none)] false) (.cond (T 5) .skip (.reg [P 7 (.bin .eql (T 4) (C 17)),P 5 (.asg (T 7) none)] false))) (.cond (T 5) (.seq (.reg [P 8 (.fldA 2 (T 1)),P 9 (.ld 1 false (T 8)),⟨(some 10),(.bldS 1 3 (.int .i64 0) 1 [⟨0,(T 9)⟩]),none,[]⟩,⟨(some 2),(.asg (T 10) (some ⟨1,3⟩)),none,[]⟩] false) .ret) .skip)))) (.seq (.reg [⟨(some 2),(.asg (.c .nils) (some ⟨1,3⟩)),none,[]⟩] false) .ret)))
theorem Adn : (Tryd.f102.body.bind (Mn Tryd.prog Tryd.f102.ntmps)) = some AaT:=by kernel_rfl
theorem Ado : Tryd.f102.results.toList.mapM (MC Tryd.prog) = some [(.t 2)]:=by kernel_rfl
def Tk (a : LS) : List D:=[LU a]
def Tj (ds : List D) : LS:=RF (ds.getD 0 .top)
theorem TV (a : LS) : Tj (Tk a) = a:=by simp [Tj,Tk]
def XN (b : (List Int)) : D:=.sl (b.map Ed)
def XM (_b : (List Int)) : List D:=[]
noncomputable def UK : Dw.Spec:=Mk [] (.row 1 3) Tk Tj (fun a=>PF a) XN XM
set_option maxHeartbeats 4000000 in
theorem ZE : Mi Tryd.prog 102 UK:=by
 refine MB (Nd) Tryd.func102 (by decide) Adn Ado (np:=1) (by decide) TV (fun _=>r) (fun _=>r) (by decide)<|?_
 intro x1
 show TrE (specs []) AaT (ME [] (.row 1 3) [(.t 2)] XN XM) ⟨[(0,.agg [.int .i64 x1.Op,.int .i64 x1.A,.int .i64 x1.B,.int .i64 x1.C,.int .u64 x1.Imm])],[],262144⟩ (PF x1)
 refine Mr<|?_
 unfold AaT PF
 refine sQ<|rG<|bX r r r r r<|aN (α:=Int) r Ed r<|nI<|xS<|sQ<|sQ<|rG<|fA r r<|lO (v:=.int .i64 x1.Op) (z:=.agg [.int .i64 x1.Op,.int .i64 x1.A,.int .i64 x1.B,.int .i64 x1.C,.int .u64 x1.Imm]) r r r r r r<|nI<|xS<|bK<|sQ<|sQ<|rG<|bN (v:=.bool (x1.Op == 15)) r r r r r<|aS r r<|nI<|xS<|cD (c:=(x1.Op == 15)) r ?_ ?_
 ·refine sK<|xS<|cD (c:=(x1.Op == 15)) r ?_ ?_
  ·refine sQ<|rG<|fA r r<|lO (v:=.int .i64 x1.B) (z:=.agg [.int .i64 x1.Op,.int .i64 x1.A,.int .i64 x1.B,.int .i64 x1.C,.int .u64 x1.Imm]) r r r r r r<|bS ([x1.B] : List Int) Ed r r r (by simp) r r r<|aO (l:=([x1.B] : List Int)) (en:=Ed) r r r r<|nI<|xS<|rT<|bR<|xR<|Mw (b:=([x1.B] : List Int)) r ?_ r r ?_ r ?_ (congrArg D.sl (LY _ _ r)) r
   all_goals first|(simp;done)|(simp;omega)|rfl|(simp [Mf,LZ];done)
  ·refine sK<|bM<|xS<|sQ<|rG<|aN (α:=Int) r Ed r<|nI<|xS<|rT<|Mw (b:=([] : List Int)) r ?_ r r ?_ r ?_ (congrArg D.sl (LY _ _ r)) r
   all_goals first|(simp;done)|(simp;omega)|rfl|(simp [Mf,LZ];done)
 ·refine rG<|bN (v:=.bool (x1.Op == 17)) r r r r r<|aS r r<|nI<|xS<|cD (c:=(x1.Op == 17)) r ?_ ?_
  ·refine sQ<|rG<|fA r r<|lO (v:=.int .i64 x1.B) (z:=.agg [.int .i64 x1.Op,.int .i64 x1.A,.int .i64 x1.B,.int .i64 x1.C,.int .u64 x1.Imm]) r r r r r r<|bS ([x1.B] : List Int) Ed r r r (by simp) r r r<|aO (l:=([x1.B] : List Int)) (en:=Ed) r r r r<|nI<|xS<|rT<|bR<|xR<|Mw (b:=([x1.B] : List Int)) r ?_ r r ?_ r ?_ (congrArg D.sl (LY _ _ r)) r
   all_goals first|(simp;done)|(simp;omega)|rfl|(simp [Mf,LZ];done)
  ·refine sK<|bM<|xS<|sQ<|rG<|aN (α:=Int) r Ed r<|nI<|xS<|rT<|Mw (b:=([] : List Int)) r ?_ r r ?_ r ?_ (congrArg D.sl (LY _ _ r)) r
   all_goals first|(simp;done)|(simp;omega)|rfl|(simp [Mf,LZ];done)

def AaS : Mj:=(.seq (.reg [⟨(some 2),(.asg (.c .nils) (some ⟨1,3⟩)),none,[]⟩] false) (.seq (.reg [M 3 0,P 4 (.call (.c (.clo 95 [])) [(T 3)]),P 5 (.call (.c (.clo 98 [])) [(T 4)]),⟨(some 2),(.asg (T 5) (some ⟨1,3⟩)),none,[]⟩] false) .ret))
theorem Adl : (Tryd.f101.body.bind (Mn Tryd.prog Tryd.f101.ntmps)) = some AaS:=by kernel_rfl
theorem Adm : Tryd.f101.results.toList.mapM (MC Tryd.prog) = some [(.t 2)]:=by kernel_rfl
def QB (a : (List Int)) : List D:=[.sl (a.map Ed)]
def UG (ds : List D) : (List Int):=(uL uI) (ds.getD 0 .top)
theorem Vy (a : (List Int)) : UG (QB a) = a:=by simp [UG,QB,OH (u:=uI) (en:=Ed) (fun _=>rfl)]
def YT (b : (List Int)) : D:=.sl (b.map Ed)
def YS (_b : (List Int)) : List D:=[]
noncomputable def WB : Dw.Spec:=Mk [] (.row 1 3) QB UG (fun a=>Qm a) YT YS
set_option maxHeartbeats 4000000 in
theorem Aaf : Mi Tryd.prog 101 WB:=by
 refine MB (Mq (l:=[(95,NM),(98,MX)]) (by simp [Sz,Py])) Tryd.func101 (by decide) Adl Adm (np:=1) (by decide) Vy (fun _=>r) (fun _=>r) (by decide)<|?_
 intro l1
 show TrE (specs [(95,NM),(98,MX)]) AaS (ME [] (.row 1 3) [(.t 2)] YT YS) ⟨[(0,.sl (l1.map Ed))],[],262144⟩ (Qm l1)
 refine Mr<|?_
 unfold AaS Qm
 refine sQ<|rG<|aN (α:=Int) r Ed r<|nI<|xS<|sQ<|rG<|mV r r<|bD fun r2 hr2=>cP l1 r r r OP r r (by simp) r hr2<|bD fun r3 hr3=>cR (l:=r3.1) (en:=Ed) r2 r r r Oe r r (by simp) r hr3 r<|aO (l:=r3.1) (en:=Ed) r r r r<|nI<|xS<|rT<|Mw (b:=r3.1) r ?_ r r ?_ r ?_ (congrArg D.sl (LY _ _ r)) r
 all_goals first|(simp;done)|(simp;omega)|rfl|(simp [Mf,LZ];done)

def AcC : Mj:=(.seq (.reg [P 4 (.asg (.c (.int .u64 0)) none)] false) (.seq (.reg [M 5 0,M 6 1,P 7 (.bin .or (T 5) (T 6)),P 4 (.asg (T 7) none)] false) .ret))
theorem AfC : (Tryd.f97.body.bind (Mn Tryd.prog Tryd.f97.ntmps)) = some AcC:=by kernel_rfl
theorem AfD : Tryd.f97.results.toList.mapM (MC Tryd.prog) = some [(.t 4)]:=by kernel_rfl
def Rh (a : Int × Int) : List D:=[.int .u64 a.1,.int .u64 a.2]
def Rg (ds : List D) : Int × Int:=(uI (ds.getD 0 .top),uI (ds.getD 1 .top))
theorem UZ (a : Int × Int) : Rg (Rh a) = a:=by simp [Rg,Rh,uI]
def VB (b : Int) : D:=.int .u64 b
def VA (_b : Int) : List D:=[]
noncomputable def Sx : Dw.Spec:=Mk [] .ground Rh Rg (fun a=>OJ a.1 a.2) VB VA
set_option maxHeartbeats 4000000 in
theorem YL : Mi Tryd.prog 97 Sx:=by
 refine MB (Nd) Tryd.func97 (by decide) AfC AfD (np:=2) (by decide) UZ (fun _=>r) (fun _=>r) (by decide)<|?_
 rintro ⟨x1,y2⟩
 show TrE (specs []) AcC (ME [] .ground [(.t 4)] VB VA) ⟨[(0,.int .u64 x1),(1,.int .u64 y2)],[],262144⟩ (OJ x1 y2)
 refine Mr<|?_
 unfold AcC OJ
 refine sQ<|rG<|aS r r<|nI<|xS<|sQ<|rG<|mV r r<|mV r r<|bN (v:=.int .u64 (IntKind.u64.wrap ((BitVec.ofInt IntKind.u64.bits x1 ||| BitVec.ofInt IntKind.u64.bits y2).toNat))) r r r r r<|aS r r<|nI<|xS<|rT<|Mx (b:=IntKind.u64.wrap ((BitVec.ofInt IntKind.u64.bits x1 ||| BitVec.ofInt IntKind.u64.bits y2).toNat)) r ?_ r r ?_ r
 all_goals first|(simp;done)|(simp;omega)|rfl|(simp [Mf,LZ];done)

def AcB : Mj:=(.seq (.reg [P 6 (.asg (.c .top) none)] false) (.seq (.reg [P 9 (.bld [(.int .u64 0),(.int .u64 0),(.int .u64 0),(.int .u64 0),(.int .u64 0),(.int .u64 0),(.int .u64 0),(.int .u64 0)] []),P 10 (.box (T 9) 8 122),P 7 (.asg (T 10) none)] false) (.seq (.seq (.reg [P 11 (.mv (C 0))] false) (.block 0 (.loop (.seq (.reg [P 12 (.bin .lss (T 11) (C 8))] false) (.seq (.cond (T 12) .skip (.exit 0)) (.seq (.block 1 (.seq (.reg [M 13 11,P 8 (.asg (T 13) none)] false) (.reg [M 14 7,M 15 8,M 16 2,M 17 0,M 18 8,⟨(some 19),(.nilck (T 17)),none,[3]⟩,⟨(some 20),(.ixP 1 8 (T 19) (T 18)),none,[5,4]⟩,⟨(some 21),(.ld 1 false (T 20)),none,[6]⟩,M 22 1,M 23 8,⟨(some 24),(.nilck (T 22)),none,[8]⟩,⟨(some 25),(.ixP 1 8 (T 24) (T 23)),none,[10,9]⟩,⟨(some 26),(.ld 1 false (T 25)),none,[11]⟩,⟨(some 27),(.call (T 16) [(T 21),(T 26)]),none,[2,7,12]⟩,⟨(some 28),(.nilck (T 14)),none,[0]⟩,⟨(some 29),(.ixP 1 8 (T 28) (T 15)),none,[14,1,0,1,2,3,4,5,6,7,8,9,10,11,12,13]⟩,⟨none,(.st 1 (T 29) (T 27)),none,[15,13,13,0,1,2,3,4,5,6,7,8,9,10,11,12,13]⟩] true))) (.reg [P 30 (.bin .add (T 11) (C 1)),M 11 30] false))))))) (.seq (.reg [M 31 7,P 6 (.asg (T 31) none)] false) .ret))))
theorem AfA : (Tryd.f96.body.bind (Mn Tryd.prog Tryd.f96.ntmps)) = some AcB:=by kernel_rfl
theorem AfB : Tryd.f96.results.toList.mapM (MC Tryd.prog) = some [(.t 6)]:=by kernel_rfl
def NJ (a : LV × LV) : List D:=[ML a.1,ML a.2,.clo 97 []]
def NI (ds : List D) : LV × LV:=(Ob (ds.getD 0 .top),Ob (ds.getD 1 .top))
theorem Pm (a : LV × LV) : NI (NJ a) = a:=by simp [NI,NJ]
def PL (b : LV × LV × LV) : D:=ML b.1
def PK (b : LV × LV × LV) : List D:=[ML b.2.1,ML b.2.2]
noncomputable def Ni : Dw.Spec:=Mk [(0,(8,122)),(1,(8,122))] (.ptr 8 122) NJ NI (fun a=>MP a.1 a.2) PL PK
set_option maxHeartbeats 4000000 in
theorem Te : Mi Tryd.prog 96 Ni:=by
 refine MB (Mq (l:=[(97,Sx)]) (by simp [YL])) Tryd.func96 (by decide) AfA AfB (np:=3) (by decide) Pm (fun _=>r) (fun _=>r) (by decide)<|?_
 rintro ⟨s1,t2⟩
 show TrE (specs [(97,Sx)]) AcB (ME [(0,(8,122)),(1,(8,122))] (.ptr 8 122) [(.t 6)] PL PK) ⟨[(0,.optr 8192 0 0 0),(1,.optr 8193 1 0 0),(2,.clo 97 [])],[(8192,some (0,⟨false,true,8,122,[.agg [.int .u64 s1.a0,.int .u64 s1.a1,.int .u64 s1.a2,.int .u64 s1.a3,.int .u64 s1.a4,.int .u64 s1.a5,.int .u64 s1.a6,.int .u64 s1.a7]]⟩)),(8193,some (1,⟨false,true,8,122,[.agg [.int .u64 t2.a0,.int .u64 t2.a1,.int .u64 t2.a2,.int .u64 t2.a3,.int .u64 t2.a4,.int .u64 t2.a5,.int .u64 t2.a6,.int .u64 t2.a7]]⟩))],262144⟩ (MP s1 t2)
 refine Mr<|?_
 unfold AcB MP
 refine sQ<|rG<|aS r r<|nI<|xS<|sQ<|rG<|bL (cs:=[.int .u64 0,.int .u64 0,.int .u64 0,.int .u64 0,.int .u64 0,.int .u64 0,.int .u64 0,.int .u64 0]) (ps:=[]) r r r r<|bX r r r r r<|aS r r<|nI<|xS<|sQ<|sQ<|rG<|mV r r<|nI<|xS<|bK<|lP (E:=fun (s : LV × Int) (g : Nat)=>[(0,.optr 8192 0 0 0),(1,.optr 8193 1 0 0),(2,.clo 97 []),(7,.optr 10 g 0 0),(11,.int .i64 s.2)]) (O:=fun s g=>[(10,some (g,⟨false,true,8,122,[.agg [.int .u64 s.1.a0,.int .u64 s.1.a1,.int .u64 s.1.a2,.int .u64 s.1.a3,.int .u64 s.1.a4,.int .u64 s.1.a5,.int .u64 s.1.a6,.int .u64 s.1.a7]]⟩)),(8192,some (0,⟨false,true,8,122,[.agg [.int .u64 s1.a0,.int .u64 s1.a1,.int .u64 s1.a2,.int .u64 s1.a3,.int .u64 s1.a4,.int .u64 s1.a5,.int .u64 s1.a6,.int .u64 s1.a7]]⟩)),(8193,some (1,⟨false,true,8,122,[.agg [.int .u64 t2.a0,.int .u64 t2.a1,.int .u64 t2.a2,.int .u64 t2.a3,.int .u64 t2.a4,.int .u64 t2.a5,.int .u64 t2.a6,.int .u64 t2.a7]]⟩))]) (body:=fun s=>MR s1 t2 s.1 s.2) (s:=((LV.mk 0 0 0 0 0 0 0 0),0)) _ ((hE ⟨rfl,r,r,r,r,trivial⟩ ⟨rfl,r,r,trivial⟩))<|?_
 rintro ⟨x3,x4⟩ v10x1 nn
 try dsimp only
 unfold MR
 refine sQ<|rG<|bN (v:=.bool (decide (x4 < 8))) r r r r r<|nI<|xS<|sQ<|cD (c:=(decide (x4 < 8))) r ?_ ?_
 ·exact sK<|xS<|sQ<|bK<|sQ<|rG<|mV r r<|aS r r<|nI<|xS<|rG<|mV r r<|mV r r<|mV r r<|mV r r<|mV r r<|nC r r r<|cK fun hq=>SX r r r hq<|bD fun s_e5 hs_e5=>TG (q:=s_e5) (l:=s1.toList) (en:=VF) (j:=x4.toNat) (by simp) r r r hs_e5 r (fun _=>r)<|mV r r<|mV r r<|nC r r r<|cK fun hq=>SX r r r hq<|bD fun t_e6 ht_e6=>TG (q:=t_e6) (l:=t2.toList) (en:=VF) (j:=x4.toNat) (by simp) r r r ht_e6 r (fun _=>r)<|bD fun r7 hr7=>cG (s_e5,t_e6) r r r UZ r r (by simp) r hr7 r<|nC r r r<|cK fun hq=>SX r r r hq<|bD fun x_o8 hx_o8=>Abh (q:=x_o8) (q':=r7) (l:=x3.toList) (en:=VF) (j:=x4.toNat) (z':=.agg [.int .u64 ((x3.set x4.toNat r7).a0),.int .u64 ((x3.set x4.toNat r7).a1),.int .u64 ((x3.set x4.toNat r7).a2),.int .u64 ((x3.set x4.toNat r7).a3),.int .u64 ((x3.set x4.toNat r7).a4),.int .u64 ((x3.set x4.toNat r7).a5),.int .u64 ((x3.set x4.toNat r7).a6),.int .u64 ((x3.set x4.toNat r7).a7)]) (by simp) r r r r r hx_o8 r r (congrArg (fun l=>D.agg (l.map VF)) (NL x3 x4.toNat r7).symm)<|Mp (by kernel_rfl)<|bM<|xS<|rG<|bN (v:=.int .i64 (IntKind.i64.wrap (x4 + 1))) r r r r r<|mV r r<|nI<|xL (s:=((x3.set x4.toNat r7),IntKind.i64.wrap (x4 + 1))) _ ((hE ⟨rfl,r,r,r,r,trivial⟩ ⟨rfl,r,r,trivial⟩))
 ·refine eT<|xE<|lE<|bH<|xS<|sQ<|rG<|mV r r<|aS r r<|nI<|xS<|rT<|ZK (b:=(x3,s1,t2)) r ?_ r ?_ r r ?_ r
  all_goals first|(simp;done)|(simp;omega)|rfl|(simp [Mf,LZ];done)

def Acp : Mj:=(.seq (.reg [⟨(some 4),(.asg (.c .nils) (some ⟨1,3⟩)),none,[]⟩] false) (.seq (.reg [M 5 0,P 6 (.call (.c (.clo 95 [])) [(T 5)]),M 7 1,P 8 (.call (.c (.clo 95 [])) [(T 7)]),P 9 (.call (.c (.clo 96 [])) [(T 6),(T 8),(.c (.clo 97 []))]),P 10 (.call (.c (.clo 98 [])) [(T 9)]),⟨(some 4),(.asg (T 10) (some ⟨1,3⟩)),none,[]⟩] false) .ret))
theorem Afe : (Tryd.f69.body.bind (Mn Tryd.prog Tryd.f69.ntmps)) = some Acp:=by kernel_rfl
theorem Aff : Tryd.f69.results.toList.mapM (MC Tryd.prog) = some [(.t 4)]:=by kernel_rfl
def OO (a : (List Int) × (List Int)) : List D:=[.sl (a.1.map Ed),.sl (a.2.map Ed)]
def Sy (ds : List D) : (List Int) × (List Int):=((uL uI) (ds.getD 0 .top),(uL uI) (ds.getD 1 .top))
theorem Pl (a : (List Int) × (List Int)) : Sy (OO a) = a:=by simp [Sy,OO,OH (u:=uI) (en:=Ed) (fun _=>rfl)]
def TS (b : (List Int)) : D:=.sl (b.map Ed)
def WQ (_b : (List Int)) : List D:=[]
noncomputable def NV : Dw.Spec:=Mk [] .val OO Sy (fun a=>Nu a.1 a.2) TS WQ
set_option maxHeartbeats 4000000 in
theorem Tb : Mi Tryd.prog 69 NV:=by
 refine MB (Mq (l:=[(95,NM),(401504,Ni),(98,MX)]) (by simp [Sz,Te,Py])) Tryd.func69 (by decide) Afe Aff (np:=2) (by decide) Pl (fun _=>r) (fun _=>r) (by decide)<|?_
 rintro ⟨a1,b2⟩
 show TrE (specs [(95,NM),(401504,Ni),(98,MX)]) Acp (ME [] .val [(.t 4)] TS WQ) ⟨[(0,.sl (a1.map Ed)),(1,.sl (b2.map Ed))],[],262144⟩ (Nu a1 b2)
 refine Mr<|?_
 unfold Acp Nu
 refine sQ<|rG<|aN (α:=Int) r Ed r<|nI<|xS<|sQ<|rG<|mV r r<|bD fun r3 hr3=>cP a1 r r r OP r r (by simp) r hr3<|mV r r<|bD fun r4 hr4=>cP b2 r r r OP r r (by simp) rfl hr4<|bD fun r5 hr5=>cP (r3,r4) rfl rfl (show _ = some Ni from by kernel_rfl) Pm rfl rfl (by simp) r hr5<|bD fun r6 hr6=>cR (l:=r6.1) (en:=Ed) r5.1 r r r Oe r r (by simp) r hr6 r<|aO (l:=r6.1) (en:=Ed) r r r r<|nI<|xS<|rT<|MT (b:=r6.1) r ?_ r r ?_ (by first | rfl | (simp only [Me]; rfl) | (simp only [Mh]; rfl) | (simp only [Me,Mh]; rfl) | simp [TS])
 all_goals first|(simp;done)|(simp;omega)|rfl|(simp [Mf,LZ];done)

def Acr : Mj:=(.seq (.reg [P 2 (.box (T 0) 5 66),⟨(some 4),(.asg (.c .nils) (some ⟨1,3⟩)),none,[]⟩] false) (.seq (.seq (.reg [P 8 (.ld 5 true (T 2)),P 9 (.call (.c (.clo 100 [])) [(T 8)]),M 7 9,P 10 (.ext (T 7) 0),P 11 (.ext (T 7) 1),P 5 (.asg (T 10) none),P 6 (.asg (T 11) none)] false) (.seq (.reg [M 12 6] false) (.cond (T 12) (.reg [M 13 1,M 14 5,P 15 (.call (.c (.clo 77 [])) [(T 13),(T 14)]),⟨(some 1),(.asg (T 15) (some ⟨1,3⟩)),none,[]⟩] false) .skip))) (.seq (.reg [M 16 1,P 17 (.ld 5 true (T 2)),P 18 (.call (.c (.clo 102 [])) [(T 17)]),P 19 (.call (.c (.clo 101 [])) [(T 18)]),P 20 (.call (.c (.clo 69 [])) [(T 16),(T 19)]),⟨(some 4),(.asg (T 20) (some ⟨1,3⟩)),none,[]⟩] false) .ret)))
theorem Afi : (Tryd.f74.body.bind (Mn Tryd.prog Tryd.f74.ntmps)) = some Acr:=by kernel_rfl
theorem Afj : Tryd.f74.results.toList.mapM (MC Tryd.prog) = some [(.t 4)]:=by kernel_rfl
def UJ (a : LS × (List Int)) : List D:=[LU a.1,.sl (a.2.map Ed)]
def UI (ds : List D) : LS × (List Int):=(RF (ds.getD 0 .top),(uL uI) (ds.getD 1 .top))
theorem Ti (a : LS × (List Int)) : UI (UJ a) = a:=by simp [UI,UJ,OH (u:=uI) (en:=Ed) (fun _=>rfl)]
def YY (b : (List Int)) : D:=.sl (b.map Ed)
def YX (_b : (List Int)) : List D:=[]
noncomputable def PE : Dw.Spec:=Mk [] .val UJ UI (fun a=>Qn a.1 a.2) YY YX
set_option maxHeartbeats 4000000 in
theorem VI : Mi Tryd.prog 74 PE:=by
 refine MB (Mq (l:=[(100,SA),(77,Ta),(102,UK),(101,WB),(69,NV)]) (by simp [YM,Zj,ZE,Aaf,Tb])) Tryd.func74 (by decide) Afi Afj (np:=2) (by decide) Ti (fun _=>r) (fun _=>r) (by decide)<|?_
 rintro ⟨x1,out2⟩
 show TrE (specs [(100,SA),(77,Ta),(102,UK),(101,WB),(69,NV)]) Acr (ME [] .val [(.t 4)] YY YX) ⟨[(0,.agg [.int .i64 x1.Op,.int .i64 x1.A,.int .i64 x1.B,.int .i64 x1.C,.int .u64 x1.Imm]),(1,.sl (out2.map Ed))],[],262144⟩ (Qn x1 out2)
 refine Mr<|?_
 unfold Acr Qn
 refine sQ<|rG<|bX r r r r r<|aN (α:=Int) r Ed r<|nI<|xS<|sQ<|sQ<|rG<|lO (v:=.agg [.int .i64 x1.Op,.int .i64 x1.A,.int .i64 x1.B,.int .i64 x1.C,.int .u64 x1.Imm]) (z:=.agg [.int .i64 x1.Op,.int .i64 x1.A,.int .i64 x1.B,.int .i64 x1.C,.int .u64 x1.Imm]) r r r r r r<|bD fun r3 hr3=>cG x1 r r r Vm r r (by simp) r hr3 r<|mV r r<|eX (v:=.int .i64 r3.1) r r r<|eX (v:=.bool r3.2) r r r<|aS r r<|aS r r<|nI<|xS<|sQ<|rG<|mV r r<|nI<|xS<|cD (c:=r3.2) r ?_ ?_
 ·refine rG<|mV r r<|mV r r<|bD fun r4 hr4=>cV (out2,r3.1) r r r Vz r r (by simp) r hr4<|aL r r<|nI<|xS<|sQ<|rG<|mV r r<|lO (v:=.agg [.int .i64 x1.Op,.int .i64 x1.A,.int .i64 x1.B,.int .i64 x1.C,.int .u64 x1.Imm]) (z:=.agg [.int .i64 x1.Op,.int .i64 x1.A,.int .i64 x1.B,.int .i64 x1.C,.int .u64 x1.Imm]) r r r r r r<|bD fun r5 hr5=>cR (l:=r5) (en:=Ed) x1 r r r TV r r (by simp) r hr5 r<|bD fun r6 hr6=>cR (l:=r6) (en:=Ed) r5 r r r Vy r r (by simp) (by first | rfl | (simp only [Me]; rfl) | (simp only [Mh]; rfl) | (simp only [Me,Mh]; rfl) | simp [QB]) hr6 r<|bD fun r7 hr7=>cV (r4,r6) r r r Pl r r (by simp) (by first | rfl | (simp only [Me]; rfl) | (simp only [Mh]; rfl) | (simp only [Me,Mh]; rfl) | simp [OO]) hr7<|aL r r<|nI<|xS<|rT<|MT (b:=r7) r ?_ r r ?_ r
  all_goals first|(simp;done)|(simp;omega)|rfl|(simp [Mf,LZ];done)
 ·refine sK<|xS<|sQ<|rG<|mV r r<|lO (v:=.agg [.int .i64 x1.Op,.int .i64 x1.A,.int .i64 x1.B,.int .i64 x1.C,.int .u64 x1.Imm]) (z:=.agg [.int .i64 x1.Op,.int .i64 x1.A,.int .i64 x1.B,.int .i64 x1.C,.int .u64 x1.Imm]) r r r r r r<|bD fun r8 hr8=>cR (l:=r8) (en:=Ed) x1 r r r TV r r (by simp) r hr8 r<|bD fun r9 hr9=>cR (l:=r9) (en:=Ed) r8 r r r Vy r r (by simp) (by first | rfl | (simp only [Me]; rfl) | (simp only [Mh]; rfl) | (simp only [Me,Mh]; rfl) | simp [QB]) hr9 r<|bD fun r10 hr10=>cV (out2,r9) r r r Pl r r (by simp) (by first | rfl | (simp only [Me]; rfl) | (simp only [Mh]; rfl) | (simp only [Me,Mh]; rfl) | simp [OO]) hr10<|aL r r<|nI<|xS<|rT<|MT (b:=r10) r ?_ r r ?_ r
  all_goals first|(simp;done)|(simp;omega)|rfl|(simp [Mf,LZ];done)

def Acl : Mj:=(.seq (.reg [P 4 (.asg (.c (.bool false)) none)] false) (.seq (.seq (.reg [M 6 0,P 7 (.len false (T 6)),M 8 1,P 9 (.len false (T 8)),P 10 (.bin .neq (T 7) (T 9))] false) (.cond (T 10) (.seq (.reg [P 4 (.asg (.c (.bool false)) none)] false) .ret) .skip)) (.seq (.seq (.reg [M 11 0,P 12 (.len false (T 11)),P 13 (.mv (C 0))] false) (.block 0 (.loop (.seq (.reg [P 14 (.bin .lss (T 13) (T 12))] false) (.seq (.cond (T 14) .skip (.exit 0)) (.seq (.block 1 (.seq (.reg [M 15 13,P 5 (.asg (T 15) none)] false) (.seq (.reg [M 16 0,M 17 5,⟨(some 18),(.ixA 1 (T 16) (T 17)),none,[0,1]⟩,⟨(some 19),(.ld 1 false (T 18)),none,[2]⟩,M 20 1,M 21 5,⟨(some 22),(.ixA 1 (T 20) (T 21)),none,[4,5]⟩,⟨(some 23),(.ld 1 false (T 22)),none,[6]⟩,⟨(some 24),(.bin .neq (T 19) (T 23)),none,[3,7]⟩] true) (.cond (T 24) (.seq (.reg [P 4 (.asg (.c (.bool false)) none)] false) .ret) .skip)))) (.reg [P 25 (.bin .add (T 13) (C 1)),M 13 25] false))))))) (.seq (.reg [P 4 (.asg (.c (.bool true)) none)] false) .ret))))
theorem AeW : (Tryd.f59.body.bind (Mn Tryd.prog Tryd.f59.ntmps)) = some Acl:=by kernel_rfl
theorem AeX : Tryd.f59.results.toList.mapM (MC Tryd.prog) = some [(.t 4)]:=by kernel_rfl
def OT (a : (List Int) × (List Int)) : List D:=[.sl (a.1.map Ed),.sl (a.2.map Ed)]
def OR (ds : List D) : (List Int) × (List Int):=((uL uI) (ds.getD 0 .top),(uL uI) (ds.getD 1 .top))
theorem RQ (a : (List Int) × (List Int)) : OR (OT a) = a:=by simp [OR,OT,OH (u:=uI) (en:=Ed) (fun _=>rfl)]
def Sl (b : Bool) : D:=.bool b
def Sk (_b : Bool) : List D:=[]
noncomputable def PI : Dw.Spec:=Mk [] .ground OT OR (fun a=>Nn a.1 a.2) Sl Sk
set_option maxHeartbeats 4000000 in
theorem Wl : Mi Tryd.prog 59 PI:=by
 refine MB (Nd) Tryd.func59 (by decide) AeW AeX (np:=2) (by decide) RQ (fun _=>r) (fun _=>r) (by decide)<|?_
 rintro ⟨s11,s22⟩
 show TrE (specs []) Acl (ME [] .ground [(.t 4)] Sl Sk) ⟨[(0,.sl (s11.map Ed)),(1,.sl (s22.map Ed))],[],262144⟩ (Nn s11 s22)
 refine Mr<|?_
 unfold Acl Nn
 refine sQ<|rG<|aS r r<|nI<|xS<|sQ<|sQ<|rG<|mV r r<|lS r r<|mV r r<|lS r r<|bN (v:=.bool ((s11.length : Int) != (s22.length : Int))) r r r r r<|nI<|xS<|cD (c:=((s11.length : Int) != (s22.length : Int))) r ?_ ?_
 ·refine sQ<|rG<|aS r r<|nI<|xS<|rT<|xR<|Mx (b:=false) r ?_ r r ?_ r
  all_goals first|(simp;done)|(simp;omega)|rfl|(simp [Mf,LZ];done)
 ·refine sK<|xS<|sQ<|sQ<|rG<|mV r r<|lS r r<|mV r r<|nI<|xS<|bK<|lP (E:=fun (s : Int) (g : Unit)=>[(0,.sl (s11.map Ed)),(1,.sl (s22.map Ed)),(12,.int .i64 (s11.length : Int)),(13,.int .i64 s)]) (O:=fun s g=>[]) (body:=fun s=>Np s11 s22 s) (s:=0) () ((hE ⟨rfl,r,r,r,trivial⟩ trivial))<|?_
  rintro x3 ⟨⟩ nn
  try dsimp only
  unfold Np
  refine sQ<|rG<|bN (v:=.bool (decide (x3 < (s11.length : Int)))) r r r r r<|nI<|xS<|sQ<|cD (c:=(decide (x3 < (s11.length : Int)))) r ?_ ?_
  ·refine sK<|xS<|sQ<|bK<|sQ<|rG<|mV r r<|aS r r<|nI<|xS<|sQ<|rG<|mV r r<|mV r r<|bD fun x_x4 hx_x4=>iS (en:=Ed) r r r hx_x4 r<|lF (v:=.int .i64 x_x4) r r r r<|mV r r<|mV r r<|bD fun x_x5 hx_x5=>iS (en:=Ed) r r r hx_x5 r<|lF (v:=.int .i64 x_x5) r r r r<|bN (v:=.bool (x_x4 != x_x5)) r r r r r<|Mp (by kernel_rfl)<|xS<|cD (c:=(x_x4 != x_x5)) r ?_ ?_
   ·refine sQ<|rG<|aS r r<|nI<|xS<|rT<|bR<|xR<|lR<|bR<|xR<|Mx (b:=false) r ?_ r r ?_ r
    all_goals first|(simp;done)|(simp;omega)|rfl|(simp [Mf,LZ];done)
   ·exact sK<|bM<|xS<|rG<|bN (v:=.int .i64 (IntKind.i64.wrap (x3 + 1))) r r r r r<|mV r r<|nI<|xL (s:=IntKind.i64.wrap (x3 + 1)) () ((hE ⟨rfl,r,r,r,trivial⟩ trivial))
  ·refine eT<|xE<|lE<|bH<|xS<|sQ<|rG<|aS r r<|nI<|xS<|rT<|Mx (b:=true) r ?_ r r ?_ r
   all_goals first|(simp;done)|(simp;omega)|rfl|(simp [Mf,LZ];done)

def Abc : Mj:=(.seq (.reg [M 4 0,P 5 (.nilck (T 4)),P 6 (.fldA 1 (T 5)),P 7 (.ld 1 false (T 6)),M 8 1,P 9 (.mget (.bool false) (T 7) (T 8)),P 10 (.un .not (T 9))] false) (.cond (T 10) (.seq (.reg [M 11 0,P 12 (.nilck (T 11)),P 13 (.fldA 1 (T 12)),P 14 (.ld 1 false (T 13)),M 15 1,⟨none,(.mset (T 14) (T 15) (.c (.bool true))),none,[]⟩] false) (.reg [M 16 0,M 17 0,P 18 (.nilck (T 17)),P 19 (.fldA 0 (T 18)),P 20 (.ld 1 false (T 19)),M 21 1,⟨(some 22),(.bldS 1 3 (.int .i64 0) 1 [⟨0,(T 21)⟩]),none,[]⟩,P 23 (.app 1 3 8 (T 20) (T 22)),P 24 (.nilck (T 16)),P 25 (.fldA 0 (T 24)),⟨none,(.st 1 (T 25) (T 23)),none,[]⟩] false)) .skip))
theorem AeS : (Tryd.f56.body.bind (Mn Tryd.prog Tryd.f56.ntmps)) = some Abc:=by kernel_rfl
theorem AeT : Tryd.f56.results.toList.mapM (MC Tryd.prog) = some []:=by kernel_rfl

def Ack : Mj:=(.seq (.reg [P 2 (.asg (C 0) none)] false) (.seq (.reg [M 4 0,⟨(some 5),(.nilck (T 4)),none,[0]⟩,⟨(some 6),(.fldA 0 (T 5)),none,[1]⟩,⟨(some 7),(.ld 1 false (T 6)),none,[2]⟩,M 8 0,⟨(some 9),(.nilck (T 8)),none,[4]⟩,⟨(some 10),(.fldA 0 (T 9)),none,[5]⟩,⟨(some 11),(.ld 1 false (T 10)),none,[6]⟩,⟨(some 12),(.len false (T 11)),none,[7]⟩,⟨(some 13),(.bin .sub (T 12) (C 1)),none,[8]⟩,⟨(some 14),(.ixA 1 (T 7) (T 13)),none,[3,9]⟩,⟨(some 15),(.ld 1 false (T 14)),none,[10]⟩,⟨(some 3),(.asg (T 15) none),none,[11,0,1,2,3,4,5,6,7,8,9,10,11]⟩] true) (.seq (.reg [M 16 0,M 17 0,⟨(some 18),(.nilck (T 17)),none,[1]⟩,⟨(some 19),(.fldA 0 (T 18)),none,[2]⟩,⟨(some 20),(.ld 1 false (T 19)),none,[3]⟩,M 21 0,⟨(some 22),(.nilck (T 21)),none,[5]⟩,⟨(some 23),(.fldA 0 (T 22)),none,[6]⟩,⟨(some 24),(.ld 1 false (T 23)),none,[7]⟩,⟨(some 25),(.len false (T 24)),none,[8]⟩,⟨(some 26),(.bin .sub (T 25) (C 1)),none,[9]⟩,⟨(some 27),(.slc 1 (T 20) none (some (T 26))),none,[4,10]⟩,⟨(some 28),(.nilck (T 16)),none,[0,0,1,2,3,4,5,6,7,8,9,10,11]⟩,⟨(some 29),(.fldA 0 (T 28)),none,[12,0,1,2,3,4,5,6,7,8,9,10,11]⟩,⟨none,(.st 1 (T 29) (T 27)),none,[13,11,0,1,2,3,4,5,6,7,8,9,10,11]⟩] true) (.seq (.reg [M 30 0,P 31 (.nilck (T 30)),P 32 (.fldA 1 (T 31)),P 33 (.ld 1 false (T 32)),M 34 3,⟨none,(.mdel (T 33) (T 34)),none,[]⟩] false) (.seq (.reg [M 35 3,P 2 (.asg (T 35) none)] false) .ret)))))
theorem AeU : (Tryd.f57.body.bind (Mn Tryd.prog Tryd.f57.ntmps)) = some Ack:=by kernel_rfl
theorem AeV : Tryd.f57.results.toList.mapM (MC Tryd.prog) = some [(.t 2)]:=by kernel_rfl

def Aaj : Mj:=(.seq (.reg [P 3 (.box (T 0) 3 27),P 4 (.box (T 1) 1 30),⟨(some 6),(.asg (.c .nils) (some ⟨1,3⟩)),none,[]⟩] false) (.seq (.reg [⟨(some 7),(.asg (.c .nils) (some ⟨1,3⟩)),none,[]⟩] false) (.seq (.seq (.reg [P 10 (.ld 3 true (T 3)),M 11 2,P 12 (.call (.c (.clo 88 [])) [(T 10),(T 11)]),P 13 (.len false (T 12)),P 14 (.mv (C 0))] false) (.block 0 (.loop (.seq (.reg [P 15 (.bin .lss (T 14) (T 13))] false) (.seq (.cond (T 15) .skip (.exit 0)) (.seq (.block 1 (.seq (.reg [P 16 (.ixA 1 (T 12) (T 14)),P 17 (.ld 1 false (T 16)),P 9 (.asg (T 17) none)] false) (.reg [M 18 7,P 19 (.fldA 2 (T 3)),⟨(some 20),(.ld 1 false (T 19)),none,[1]⟩,M 21 9,⟨(some 22),(.ixA 5 (T 20) (T 21)),none,[2,3]⟩,⟨(some 23),(.ld 5 true (T 22)),none,[4]⟩,P 24 (.fldA 0 (T 4)),⟨(some 25),(.ld 1 false (T 24)),none,[6]⟩,M 26 9,⟨(some 27),(.ixA 1 (T 25) (T 26)),none,[7,8]⟩,⟨(some 28),(.ld 1 false (T 27)),none,[9]⟩,⟨(some 29),(.call (.c (.clo 74 [])) [(T 23),(T 28)]),none,[5,10]⟩,⟨(some 30),(.call (.c (.clo 69 [])) [(T 18),(T 29)]),none,[0,11,11]⟩,⟨(some 7),(.asg (T 30) (some ⟨1,3⟩)),none,[12,12,0,1,2,3,4,5,6,7,8,9,10,11,12]⟩] true))) (.reg [P 31 (.bin .add (T 14) (C 1)),M 14 31] false))))))) (.seq (.reg [M 32 7,⟨(some 6),(.asg (T 32) (some ⟨1,3⟩)),none,[]⟩] false) .ret))))
theorem Abq : (Tryd.f58.body.bind (Mn Tryd.prog Tryd.f58.ntmps)) = some Aaj:=by kernel_rfl
theorem Abr : Tryd.f58.results.toList.mapM (MC Tryd.prog) = some [(.t 6)]:=by kernel_rfl

end Go.Proofs.YtcelninhkmhjkaaDoor
