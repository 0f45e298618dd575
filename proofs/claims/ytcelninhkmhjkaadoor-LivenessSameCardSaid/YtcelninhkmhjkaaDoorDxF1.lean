/-
  Programs on typed data, and the proofs that the code does what they say; written by a program (dx.py).
-/
import Derived.Test.YtcelninhkmhjkaaDoorProg
import Derived.Test.YtcelninhkmhjkaaDoorDc
import Derived.KernelRfl
import Derived.Test.YtcelninhkmhjkaaDoorSh
import Derived.Test.YtcelninhkmhjkaaDoorDxP
namespace Go.Proofs.YtcelninhkmhjkaaDoor
open Go Go.Dw Go.Proofs
set_option maxRecDepth 100000
open Go.Dw renaming Yj → mV,WN → bN,RP → lO,VR → bD,WR → cK,WT → nI,WX → xS,Yk → rG,Ym → sQ,Sn → aO,WM → aS,WU → oF,WO → bL,VS → bS,RB → cV,Rc → cG,RA → cR,WK → aP,RQ → sV,Tu → iS,So → iO,Tw → lS,Sp → lW,VT → fA,Zn → eX,Zt → nC,Ua → lF,Ux → sP,QC → pT,Qn → pF,Ze → uN,Aar → cT,WS → nW,WQ → bX,Uc → aN,Xr → aL,WY → cD,VX → bK,Yl → rT,Xb → sK,WZ → eT,WV → xC,VV → xL,Ui → xR,Uh → zR,VW → lR,Uv → hE,QD → lE,RC → bH,Qo → bM,Ug → bR,RD → xE,Yi → cP,Xa → lP,Ty → sC,rf → r
def AaC : Mi:=(.seq (.reg [P 2 (.asg (.c (.bool false)) none)] false) (.seq (.reg [M 3 0,P 4 (.bin .eql (T 3) (C 20)),M 5 4,⟨(some 6),(.mv (T 0)),(some ⟨5,false⟩),[]⟩,⟨(some 7),(.bin .eql (T 6) (C 23)),(some ⟨5,false⟩),[]⟩,P 8 (.pick (T 5) (.c (.bool true)) (T 7)),M 9 8,⟨(some 10),(.mv (T 0)),(some ⟨9,false⟩),[]⟩,⟨(some 11),(.bin .eql (T 10) (C 24)),(some ⟨9,false⟩),[]⟩,P 12 (.pick (T 9) (.c (.bool true)) (T 11)),P 2 (.asg (T 12) none)] false) .ret))
theorem AcO : (Tryd.f112.body.bind (Ml Tryd.prog Tryd.f112.ntmps)) = some AaC:=by kernel_rfl
theorem AcP : Tryd.f112.results.toList.mapM (MB Tryd.prog) = some [(.t 2)]:=by kernel_rfl
def Rz (a : Int) : List D:=[.int .i64 a]
def Ry (ds : List D) : Int:=uI (ds.getD 0 .top)
theorem Vh (a : Int) : Ry (Rz a) = a:=by simp [Ry,Rz,uI]
def VQ (b : Bool) : D:=.bool b
def VP (_b : Bool) : List D:=[]
noncomputable def SF : Dw.Spec:=Mj [] .ground Rz Ry (fun a=>Ql a) VQ VP
set_option maxHeartbeats 4000000 in
theorem Yu : Mg Tryd.prog 112 SF:=by
 refine MC (Nl) Tryd.func112 (by decide) AcO AcP (np:=1) (by decide) Vh (fun _=>r) (fun _=>r) (by decide)<|?_
 intro op1
 show TrE (specs []) AaC (MG [] .ground [(.t 2)] VQ VP) ⟨[(0,.int .i64 op1)],[],262144⟩ (Ql op1)
 refine Mu<|?_
 unfold AaC Ql
 refine sQ<|rG<|aS r r<|nI<|xS<|sQ<|rG<|mV r r<|bN (v:=.bool (op1 == 20)) r r r r r<|mV r r<|sP 5 (b:=(op1 == 20)) r ?_ ?_
 ·refine oF r<|oF r<|pT r r r r<|mV r r<|oF r<|oF r<|pT r r r r<|aS r r<|nI<|xS<|rT<|Mq (b:=true) r ?_ r r ?_ r
  all_goals first|(simp;done)|(simp;omega)|rfl|(simp [Md,Mc];done)
 ·refine mV r r<|bN (v:=.bool (op1 == 23)) r r r r r<|pF r r r r<|mV r r<|sP 9 (b:=(op1 == 23)) r ?_ ?_
  ·refine oF r<|oF r<|pT r r r r<|aS r r<|nI<|xS<|rT<|Mq (b:=true) r ?_ r r ?_ r
   all_goals first|(simp;done)|(simp;omega)|rfl|(simp [Md,Mc];done)
  ·refine mV r r<|bN (v:=.bool (op1 == 24)) r r r r r<|pF r r r r<|aS r r<|nI<|xS<|rT<|Mq (b:=(op1 == 24)) r ?_ r r ?_ r
   all_goals first|(simp;done)|(simp;omega)|rfl|(simp [Md,Mc];done)

def AbW : Mi:=(.seq (.reg [P 2 (.box (T 0) 3 27),⟨(some 4),(.asg (.c .nils) (some ⟨1,3⟩)),none,[]⟩] false) (.seq (.seq (.reg [M 7 1,P 8 (.bin .lss (T 7) (C 0)),M 9 8,⟨(some 10),(.mv (T 1)),(some ⟨9,false⟩),[]⟩,⟨(some 11),(.fldA 2 (T 2)),(some ⟨9,false⟩),[]⟩,⟨(some 12),(.ld 1 false (T 11)),(some ⟨9,false⟩),[]⟩,⟨(some 13),(.len false (T 12)),(some ⟨9,false⟩),[]⟩,⟨(some 14),(.bin .geq (T 10) (T 13)),(some ⟨9,false⟩),[]⟩,P 15 (.pick (T 9) (.c (.bool true)) (T 14))] false) (.cond (T 15) (.seq (.reg [⟨(some 4),(.asg (.c .nils) (some ⟨1,3⟩)),none,[]⟩] false) .ret) .skip)) (.seq (.reg [⟨(some 5),(.asg (.c .nils) (some ⟨1,3⟩)),none,[]⟩] false) (.seq (.reg [P 16 (.fldA 2 (T 2)),P 17 (.ld 1 false (T 16)),M 18 1,P 19 (.ixA 5 (T 17) (T 18)),P 20 (.ld 5 true (T 19)),P 6 (.new (.agg [(.int .i64 0),(.int .i64 0),(.int .i64 0),(.int .i64 0),(.int .u64 0)]) 5 66),⟨none,(.st 5 (T 6) (T 20)),none,[]⟩] false) (.seq (.seq (.reg [P 21 (.fldA 0 (T 6)),P 22 (.ld 1 false (T 21)),P 23 (.call (.c (.clo 112 [])) [(T 22)]),P 24 (.un .not (T 23))] false) (.cond (T 24) (.reg [M 25 5,M 26 1,P 27 (.bin .add (T 26) (C 1)),⟨(some 28),(.bldS 1 3 (.int .i64 0) 1 [⟨0,(T 27)⟩]),none,[]⟩,P 29 (.app 1 3 8 (T 25) (T 28)),⟨(some 5),(.asg (T 29) (some ⟨1,3⟩)),none,[]⟩] false) .skip)) (.seq (.seq (.reg [P 30 (.fldA 0 (T 6)),P 31 (.ld 1 false (T 30))] false) (.block 0 (.seq (.reg [P 33 (.bin .eql (T 31) (C 20)),P 32 (.asg (T 33) none)] false) (.cond (T 32) (.reg [M 34 5,P 35 (.fldA 1 (T 6)),P 36 (.ld 1 false (T 35)),⟨(some 37),(.bldS 1 3 (.int .i64 0) 1 [⟨0,(T 36)⟩]),none,[]⟩,P 38 (.app 1 3 8 (T 34) (T 37)),⟨(some 5),(.asg (T 38) (some ⟨1,3⟩)),none,[]⟩] false) (.seq (.reg [P 40 (.bin .eql (T 31) (C 21)),P 39 (.asg (T 40) none)] false) (.cond (T 39) (.reg [M 41 5,P 42 (.fldA 2 (T 6)),P 43 (.ld 1 false (T 42)),⟨(some 44),(.bldS 1 3 (.int .i64 0) 1 [⟨0,(T 43)⟩]),none,[]⟩,P 45 (.app 1 3 8 (T 41) (T 44)),⟨(some 5),(.asg (T 45) (some ⟨1,3⟩)),none,[]⟩] false) .skip)))))) (.seq (.reg [M 46 5,P 47 (.call (.c (.clo 113 [])) [(T 46)])] false) (.seq (.reg [M 48 5,P 49 (.call (.c (.clo 114 [])) [(T 48)]),⟨(some 4),(.asg (T 49) (some ⟨1,3⟩)),none,[]⟩] false) .ret))))))))
theorem AeM : (Tryd.f88.body.bind (Ml Tryd.prog Tryd.f88.ntmps)) = some AbW:=by kernel_rfl
theorem AeN : Tryd.f88.results.toList.mapM (MB Tryd.prog) = some [(.t 4)]:=by kernel_rfl
def UH (a : LY × Int) : List D:=[MP a.1,.int .i64 a.2]
def UG (ds : List D) : LY × Int:=(Re (ds.getD 0 .top),uI (ds.getD 1 .top))
theorem VB (a : LY × Int) : UG (UH a) = a:=by simp [UG,UH,uI]
def YE (b : (List Int)) : D:=.sl (b.map LR)
def YD (_b : (List Int)) : List D:=[]
noncomputable def Sk : Dw.Spec:=Mj [] (.row 1 3) UH UG (fun a=>Rq a.1 a.2) YE YD
set_option maxHeartbeats 4000000 in
theorem XS : Mg Tryd.prog 88 Sk:=by
 refine MC (Mt (l:=[(112,SF),(113,Qm),(114,Pc)]) (by simp [Yu,Wu,Vk])) Tryd.func88 (by decide) AeM AeN (np:=2) (by decide) VB (fun _=>r) (fun _=>r) (by decide)<|?_
 rintro ⟨f1,k2⟩
 show TrE (specs [(112,SF),(113,Qm),(114,Pc)]) AbW (MG [] (.row 1 3) [(.t 4)] YE YD) ⟨[(0,.agg [.int .i64 f1.Params,.sl (f1.Slots.map Ma),.sl (f1.Code.map LU)]),(1,.int .i64 k2)],[],262144⟩ (Rq f1 k2)
 refine Mu<|?_
 unfold AbW Rq
 refine sQ<|rG<|bX r r r r r<|aN (α:=Int) r LR r<|nI<|xS<|sC (E:=fun (s : Unit) (g : Nat)=>[(1,.int .i64 k2),(2,.optr 2 g 0 0)]) (O:=fun s g=>[(2,some (g,⟨false,true,3,27,[.agg [.int .i64 f1.Params,.sl (f1.Slots.map Ma),.sl (f1.Code.map LU)]]⟩))]) (j:=fun s=>Te f1 k2) ?_ ?_
 ·refine sQ<|rG<|mV r r<|bN (v:=.bool (decide (k2 < 0))) r r r r r<|mV r r<|sP 9 (b:=(decide (k2 < 0))) r ?_ ?_
  ·refine oF r<|oF r<|oF r<|oF r<|oF r<|pT r r r r<|nI<|xS<|RE r<|sQ<|rG<|aN (α:=Int) r LR r<|nI<|xS<|rT<|zR<|Mx (b:=([] : List Int)) r ?_ r r ?_ r ?_ (congrArg D.sl (LX _ _ r)) r
   all_goals first|(simp;done)|(simp;omega)|rfl|(simp [Md,Mc];done)
  ·refine mV r r<|fA r r<|lO (v:=.sl (f1.Code.map LU)) (z:=.agg [.int .i64 f1.Params,.sl (f1.Slots.map Ma),.sl (f1.Code.map LU)]) r r r r r r<|lS r r<|bN (v:=.bool (decide (k2 ≥ (f1.Code.length : Int)))) r r r r r<|pF r r r r<|nI<|xS<|cD (c:=(decide (k2 ≥ (f1.Code.length : Int)))) r ?_ ?_
   ·refine sQ<|rG<|aN (α:=Int) r LR r<|nI<|xS<|rT<|zR<|Mx (b:=([] : List Int)) r ?_ r r ?_ r ?_ (congrArg D.sl (LX _ _ r)) r
    all_goals first|(simp;done)|(simp;omega)|rfl|(simp [Md,Mc];done)
   ·exact sK<|xC (s:=()) _ ((hE ⟨rfl,r,trivial⟩ ⟨rfl,trivial⟩))
 ·rintro ⟨⟩ v2x1 nn
  try dsimp only
  unfold Te
  refine sQ<|rG<|aN (α:=Int) r LR r<|nI<|xS<|sQ<|rG<|fA r r<|lO (v:=.sl (f1.Code.map LU)) (z:=.agg [.int .i64 f1.Params,.sl (f1.Slots.map Ma),.sl (f1.Code.map LU)]) r r r r r r<|mV r r<|bD fun x_x3 hx_x3=>iS (en:=LU) r r r hx_x3 r<|lF (v:=.agg [.int .i64 x_x3.Op,.int .i64 x_x3.A,.int .i64 x_x3.B,.int .i64 x_x3.C,.int .u64 x_x3.Imm]) r r r r<|nW r<|sV (z':=.agg [.int .i64 x_x3.Op,.int .i64 x_x3.A,.int .i64 x_x3.B,.int .i64 x_x3.C,.int .u64 x_x3.Imm]) r r r r r r r r r<|nI<|xS<|sC (E:=fun (s : (List Int)) (g : Nat × Nat)=>[(5,.osl 5 g.1 0 s.length),(6,.optr 6 g.2 0 0)]) (O:=fun s g=>[(5,some (g.1,⟨false,false,1,3,s.map LR⟩)),(6,some (g.2,⟨false,true,5,66,[.agg [.int .i64 x_x3.Op,.int .i64 x_x3.A,.int .i64 x_x3.B,.int .i64 x_x3.C,.int .u64 x_x3.Imm]]⟩))]) (j:=fun s=>Rr x_x3 s) ?_ ?_
  ·refine sQ<|rG<|fA r r<|lO (v:=.int .i64 x_x3.Op) (z:=.agg [.int .i64 x_x3.Op,.int .i64 x_x3.A,.int .i64 x_x3.B,.int .i64 x_x3.C,.int .u64 x_x3.Imm]) r r r r r r<|bD fun r5 hr5=>cG x_x3.Op r r r Vh r r (by simp) r hr5 r<|uN (w:=.bool (!r5)) r r r r trivial<|nI<|xS<|cD (c:=(!r5)) r ?_ ?_
   ·exact rG<|mV r r<|mV r r<|bN (v:=.int .i64 (IntKind.i64.wrap (k2 + 1))) r r r r r<|bS ([IntKind.i64.wrap (k2 + 1)] : List Int) LR r r r (by simp) r r r<|cK fun hq=>aP (([] : List Int)) (([IntKind.i64.wrap (k2 + 1)] : List Int)) LR r r r r r r r (by simp) (Mo _ _ r) r r (by simp) (LX _ _ r) (fun _=>r) r hq<|aO (l:=([] : List Int) ++ ([IntKind.i64.wrap (k2 + 1)] : List Int)) (en:=LR) r r r r<|nI<|xC (s:=([] : List Int) ++ ([IntKind.i64.wrap (k2 + 1)] : List Int)) (_,_) ((hE ⟨rfl,r,trivial⟩ ⟨rfl,r,trivial⟩))
   ·exact sK<|xC (s:=([] : List Int)) (_,_) ((hE ⟨rfl,r,trivial⟩ ⟨rfl,r,trivial⟩))
  ·rintro l4 ⟨v5x2,v6x2⟩ nn
   try dsimp only
   unfold Rr
   refine sQ<|sQ<|rG<|fA r r<|lO (v:=.int .i64 x_x3.Op) (z:=.agg [.int .i64 x_x3.Op,.int .i64 x_x3.A,.int .i64 x_x3.B,.int .i64 x_x3.C,.int .u64 x_x3.Imm]) r r r r r r<|nI<|xS<|bK<|sQ<|rG<|bN (v:=.bool (x_x3.Op == 20)) r r r r r<|aS r r<|nI<|xS<|cD (c:=(x_x3.Op == 20)) r ?_ ?_
   ·refine rG<|mV r r<|fA r r<|lO (v:=.int .i64 x_x3.A) (z:=.agg [.int .i64 x_x3.Op,.int .i64 x_x3.A,.int .i64 x_x3.B,.int .i64 x_x3.C,.int .u64 x_x3.Imm]) r r r r r r<|bS ([x_x3.A] : List Int) LR r r r (by simp) r r r<|cK fun hq=>aP (l4) (([x_x3.A] : List Int)) LR r r r r r r r (by simp) (Mo _ _ r) r r (by simp) (LX _ _ r) (fun _=>r) r hq<|aO (l:=l4 ++ ([x_x3.A] : List Int)) (en:=LR) r r r r<|nI<|bM<|xS<|sQ<|rG<|mV r r<|cK fun hq=>Xs (l:=l4 ++ ([x_x3.A] : List Int)) (l':=Nm (l4 ++ ([x_x3.A] : List Int))) r r r r r r r hq r<|nI<|xS<|sQ<|rG<|mV r r<|cK fun hq=>VU (l:=Nm (l4 ++ ([x_x3.A] : List Int))) (l':=Lib.compact (Nm (l4 ++ ([x_x3.A] : List Int)))) r r r r r (by simp) r hq (TG _) r<|aO (l:=Lib.compact (Nm (l4 ++ ([x_x3.A] : List Int)))) (en:=LR) r r r r<|nI<|xS<|rT<|Mx (b:=Lib.compact (Nm (l4 ++ ([x_x3.A] : List Int)))) r ?_ r r ?_ r ?_ (congrArg D.sl (LX _ _ r)) r
    all_goals first|(simp;done)|(simp;omega)|rfl|(simp [Md,Mc];done)
   ·refine sQ<|rG<|bN (v:=.bool (x_x3.Op == 21)) r r r r r<|aS r r<|nI<|xS<|cD (c:=(x_x3.Op == 21)) r ?_ ?_
    ·refine rG<|mV r r<|fA r r<|lO (v:=.int .i64 x_x3.B) (z:=.agg [.int .i64 x_x3.Op,.int .i64 x_x3.A,.int .i64 x_x3.B,.int .i64 x_x3.C,.int .u64 x_x3.Imm]) r r r r r r<|bS ([x_x3.B] : List Int) LR r r r (by simp) r r r<|cK fun hq=>aP (l4) (([x_x3.B] : List Int)) LR r r r r r r r (by simp) (Mo _ _ r) r r (by simp) (LX _ _ r) (fun _=>r) r hq<|aO (l:=l4 ++ ([x_x3.B] : List Int)) (en:=LR) r r r r<|nI<|bM<|xS<|sQ<|rG<|mV r r<|cK fun hq=>Xs (l:=l4 ++ ([x_x3.B] : List Int)) (l':=Nm (l4 ++ ([x_x3.B] : List Int))) r r r r r r r hq r<|nI<|xS<|sQ<|rG<|mV r r<|cK fun hq=>VU (l:=Nm (l4 ++ ([x_x3.B] : List Int))) (l':=Lib.compact (Nm (l4 ++ ([x_x3.B] : List Int)))) r r r r r (by simp) r hq (TG _) r<|aO (l:=Lib.compact (Nm (l4 ++ ([x_x3.B] : List Int)))) (en:=LR) r r r r<|nI<|xS<|rT<|Mx (b:=Lib.compact (Nm (l4 ++ ([x_x3.B] : List Int)))) r ?_ r r ?_ r ?_ (congrArg D.sl (LX _ _ r)) r
     all_goals first|(simp;done)|(simp;omega)|rfl|(simp [Md,Mc];done)
    ·refine sK<|bM<|xS<|sQ<|rG<|mV r r<|cK fun hq=>Xs (l:=l4) (l':=Nm l4) r r r r r r r hq r<|nI<|xS<|sQ<|rG<|mV r r<|cK fun hq=>VU (l:=Nm l4) (l':=Lib.compact (Nm l4)) r r r r r (by simp) r hq (TG _) r<|aO (l:=Lib.compact (Nm l4)) (en:=LR) r r r r<|nI<|xS<|rT<|Mx (b:=Lib.compact (Nm l4)) r ?_ r r ?_ r ?_ (congrArg D.sl (LX _ _ r)) r
     all_goals first|(simp;done)|(simp;omega)|rfl|(simp [Md,Mc];done)

def AbF : Mi:=(.seq (.reg [P 1 (.box (T 0) 3 27),⟨(some 2),(.asg (.c .nils) (some ⟨1,36⟩)),none,[]⟩] false) (.seq (.reg [P 7 (.fldA 2 (T 1)),P 8 (.ld 1 false (T 7)),P 9 (.len false (T 8)),P 10 (.mkS 1 36 24 .nils (T 9) (T 9)),⟨(some 3),(.asg (T 10) (some ⟨1,36⟩)),none,[]⟩] false) (.seq (.seq (.reg [P 11 (.fldA 2 (T 1)),P 12 (.ld 1 false (T 11)),P 13 (.len false (T 12)),P 14 (.mv (C 0))] false) (.block 0 (.loop (.seq (.reg [P 15 (.bin .lss (T 14) (T 13))] false) (.seq (.cond (T 15) .skip (.exit 0)) (.seq (.block 1 (.seq (.reg [M 16 14,P 4 (.asg (T 16) none)] false) (.seq (.reg [P 17 (.ld 3 true (T 1)),M 18 4,P 19 (.call (.c (.clo 88 [])) [(T 17),(T 18)]),P 20 (.len false (T 19)),P 21 (.mv (C 0))] false) (.block 2 (.loop (.seq (.reg [P 22 (.bin .lss (T 21) (T 20))] false) (.seq (.cond (T 22) .skip (.exit 2)) (.seq (.block 3 (.seq (.reg [P 23 (.ixA 1 (T 19) (T 21)),P 24 (.ld 1 false (T 23)),P 6 (.asg (T 24) none)] false) (.reg [M 25 3,M 26 6,M 27 3,M 28 6,P 29 (.ixA 1 (T 27) (T 28)),P 30 (.ld 1 false (T 29)),M 31 4,⟨(some 32),(.bldS 1 3 (.int .i64 0) 1 [⟨0,(T 31)⟩]),none,[]⟩,P 33 (.app 1 3 8 (T 30) (T 32)),P 34 (.ixA 1 (T 25) (T 26)),⟨none,(.st 1 (T 34) (T 33)),none,[]⟩] false))) (.reg [P 35 (.bin .add (T 21) (C 1)),M 21 35] false))))))))) (.reg [P 36 (.bin .add (T 14) (C 1)),M 14 36] false))))))) (.seq (.reg [M 37 3,⟨(some 2),(.asg (T 37) (some ⟨1,36⟩)),none,[]⟩] false) .ret))))
theorem Aec : (Tryd.f55.body.bind (Ml Tryd.prog Tryd.f55.ntmps)) = some AbF:=by kernel_rfl
theorem Aed : Tryd.f55.results.toList.mapM (MB Tryd.prog) = some [(.t 2)]:=by kernel_rfl
def Td (a : LY) : List D:=[MP a]
def Tc (ds : List D) : LY:=Re (ds.getD 0 .top)
theorem WA (a : LY) : Tc (Td a) = a:=by simp [Tc,Td]
def UE (b : (List (List Int))) : D:=.sl (b.map (eL LR))
def Xw (_b : (List (List Int))) : List D:=[]
noncomputable def UF : Dw.Spec:=Mj [] .val Td Tc (fun a=>PS a) UE Xw
set_option maxHeartbeats 4000000 in
theorem Zi : Mg Tryd.prog 55 UF:=by
 refine MC (Mt (l:=[(88,Sk)]) (by simp [XS])) Tryd.func55 (by decide) Aec Aed (np:=1) (by decide) WA (fun _=>r) (fun _=>r) (by decide)<|?_
 intro f1
 show TrE (specs [(88,Sk)]) AbF (MG [] .val [(.t 2)] UE Xw) ⟨[(0,.agg [.int .i64 f1.Params,.sl (f1.Slots.map Ma),.sl (f1.Code.map LU)])],[],262144⟩ (PS f1)
 refine Mu<|?_
 unfold AbF PS
 refine sQ<|rG<|bX r r r r r<|aN (α:=(List Int)) r (eL LR) r<|nI<|xS<|sQ<|rG<|fA r r<|lO (v:=.sl (f1.Code.map LU)) (z:=.agg [.int .i64 f1.Params,.sl (f1.Slots.map Ma),.sl (f1.Code.map LU)]) r r r r r r<|lS r r<|cK fun hq=>Ud (α:=Int) r r r hq r<|aO (l:=List.replicate (f1.Code.length : Int).toNat ([] : (List Int))) (en:=(fun _=>D.nils)) r r r r<|nI<|QG (E:=[(1,.optr 1 _ 0 0),(3,.osl 4099 _ 0 ((List.replicate (f1.Code.length : Int).toNat ([] : (List Int))).length))]) (O:=[(1,some (_,⟨false,true,3,27,[.agg [.int .i64 f1.Params,.sl (f1.Slots.map Ma),.sl (f1.Code.map LU)]]⟩)),(4099,some (_,⟨false,false,1,36,(List.replicate (f1.Code.length : Int).toNat ([] : (List Int))).map (eR 1 3 LR)⟩))]) ((LB (g:=3) (g2:=4099) r r r (LK (l:=List.replicate (f1.Code.length : Int).toNat ([] : (List Int))) (s':=1) (ty':=3) LR (by decide) (fun _ h=>List.eq_of_mem_replicate h)) (hE ⟨rfl,r,trivial⟩ ⟨rfl,r,trivial⟩))) fun nn=>sQ<|sQ<|rG<|fA r r<|lO (v:=.sl (f1.Code.map LU)) (z:=.agg [.int .i64 f1.Params,.sl (f1.Slots.map Ma),.sl (f1.Code.map LU)]) r r r r r r<|lS r r<|mV r r<|nI<|xS<|bK<|lP (E:=fun (s : (List (List Int)) × Int) (g : Nat × Nat)=>[(1,.optr 1 g.1 0 0),(3,.osl 4099 g.2 0 s.1.length),(13,.int .i64 (f1.Code.length : Int)),(14,.int .i64 s.2)]) (O:=fun s g=>[(1,some (g.1,⟨false,true,3,27,[.agg [.int .i64 f1.Params,.sl (f1.Slots.map Ma),.sl (f1.Code.map LU)]]⟩)),(4099,some (g.2,⟨false,false,1,36,s.1.map (eR 1 3 LR)⟩))]) (body:=fun s=>RG f1 s.1 s.2) (s:=(List.replicate (f1.Code.length : Int).toNat ([] : (List Int)),0)) (_,_) ((hE ⟨rfl,r,r,r,trivial⟩ ⟨rfl,r,trivial⟩))<|?_
 rintro ⟨l2,x3⟩ ⟨v1x1,v4099x1⟩ nn
 try dsimp only
 unfold RG
 refine sQ<|rG<|bN (v:=.bool (decide (x3 < (f1.Code.length : Int)))) r r r r r<|nI<|xS<|sQ<|cD (c:=(decide (x3 < (f1.Code.length : Int)))) r ?_ ?_
 ·refine sK<|xS<|sQ<|bK<|sQ<|rG<|mV r r<|aS r r<|nI<|xS<|sQ<|rG<|lO (v:=.agg [.int .i64 f1.Params,.sl (f1.Slots.map Ma),.sl (f1.Code.map LU)]) (z:=.agg [.int .i64 f1.Params,.sl (f1.Slots.map Ma),.sl (f1.Code.map LU)]) r r r r r r<|mV r r<|bD fun r4 hr4=>cR (l:=r4) (en:=LR) (f1,x3) r r r VB r r (by simp) r hr4 r<|lW r r<|mV r r<|nI<|xS<|bK<|lP (E:=fun (s : (List (List Int)) × Int) (g : Nat × Nat × Nat)=>[(1,.optr 1 g.1 0 0),(3,.osl 4099 g.2.2 0 s.1.length),(4,.int .i64 x3),(13,.int .i64 (f1.Code.length : Int)),(14,.int .i64 x3),(19,.osl 19 g.2.1 0 r4.length),(20,.int .i64 (r4.length : Int)),(21,.int .i64 s.2)]) (O:=fun s g=>[(1,some (g.1,⟨false,true,3,27,[.agg [.int .i64 f1.Params,.sl (f1.Slots.map Ma),.sl (f1.Code.map LU)]]⟩)),(19,some (g.2.1,⟨false,false,1,3,r4.map LR⟩)),(4099,some (g.2.2,⟨false,false,1,36,s.1.map (eR 1 3 LR)⟩))]) (body:=fun s=>RH r4 x3 s.1 s.2) (s:=(l2,0)) (_,_,_) ((hE ⟨rfl,r,r,r,r,r,r,r,trivial⟩ ⟨rfl,r,r,trivial⟩))<|?_
  rintro ⟨l5,x6⟩ ⟨v1x2,v19x2,v4099x2⟩ nn
  try dsimp only
  unfold RH
  refine sQ<|rG<|bN (v:=.bool (decide (x6 < (r4.length : Int)))) r r r r r<|nI<|xS<|sQ<|cD (c:=(decide (x6 < (r4.length : Int)))) r ?_ ?_
  ·exact sK<|xS<|sQ<|bK<|sQ<|rG<|cK fun hq=>iO (l:=r4) (en:=LR) r r r r r hq<|bD fun x_e7 hx_e7=>lO (v:=.int .i64 x_e7) (z:=LR x_e7) r r r (Np hx_e7) r r<|aS r r<|nI<|xS<|rG<|mV r r<|mV r r<|mV r r<|mV r r<|cK fun hq=>iO (l:=l5) (en:=(eR 1 3 LR)) r r r r r hq<|bD fun l_e8 hl_e8=>LJ (q:=l_e8) LR r r r hl_e8<|mV r r<|bS ([x3] : List Int) LR r r r (by simp) r r r<|cK fun hq=>LH (l_e8) (([x3] : List Int)) LR r r r r r r r (by simp) (Mo _ _ r) r r (by simp) (LX _ _ r) (fun _=>r) r hq (fun _=>r)<|cK fun hq=>Lz (by simp) r r r r (by simpa using hq)<|LA (l:=l5) (q:=l_e8) (q':=l_e8 ++ ([x3] : List Int)) LR rfl rfl rfl rfl (.inr ⟨_,_,_,rfl⟩) hl_e8 rfl rfl ⟨⟨rfl,rfl,by simp,LG fun _=>rfl⟩,trivial,rfl⟩ (congrArg (fun z=>[D.row _ _ z]) (LX _ _ rfl)) rfl<|nI<|bM<|xS<|rG<|bN (v:=.int .i64 (IntKind.i64.wrap (x6 + 1))) rfl rfl rfl rfl rfl<|mV rfl rfl<|nI<|xL (s:=(l5.set x_e7.toNat (l_e8 ++ ([x3] : List Int)),IntKind.i64.wrap (x6 + 1))) (_,_,_) ((hE ⟨rfl,(Zl (q:=l5.length) rfl (by simp)),r,r,r,r,r,r,trivial⟩ ⟨rfl,r,r,trivial⟩))
  ·exact eT<|xE<|lE<|bH<|bM<|xS<|rG<|bN (v:=.int .i64 (IntKind.i64.wrap (x3 + 1))) r r r r r<|mV r r<|nI<|xL (s:=(l5,IntKind.i64.wrap (x3 + 1))) (_,_) ((hE ⟨rfl,r,r,r,trivial⟩ ⟨rfl,r,trivial⟩))
 ·refine eT<|xE<|lE<|bH<|QG (E:=[(3,.osl 4099 _ 0 l2.length)]) (O:=[(4099,some (_,⟨false,false,1,36,l2.map (eL LR)⟩))]) ((LF (g:=4099) r (LL (l:=l2) LR (fun _=>r)) (hE ⟨rfl,trivial⟩ ⟨rfl,trivial⟩))) fun nn=>sQ<|rG<|mV r r<|Ly r r r<|nI<|xS<|rT<|MN (b:=l2) r ?_ r r ?_ (by first | rfl | (simp only [Mr,Mz]; rfl) | simp [UE])
  all_goals first|(simp;done)|(simp;omega)|rfl|(simp [Md,Mc];done)

def Aav : Mi:=(.seq (.reg [P 1 (.box (T 0) 5 66),P 2 (.asg (C 0) none),P 3 (.asg (.c (.bool false)) none)] false) (.seq (.seq (.reg [P 4 (.fldA 0 (T 1)),P 5 (.ld 1 false (T 4))] false) (.block 0 (.seq (.seq (.reg [P 7 (.bin .eql (T 5) (C 16)),P 6 (.asg (T 7) none)] false) (.cond (T 6) .skip (.reg [P 8 (.bin .eql (T 5) (C 17)),P 6 (.asg (T 8) none)] false))) (.cond (T 6) (.seq (.reg [P 9 (.fldA 1 (T 1)),P 10 (.ld 1 false (T 9)),P 2 (.asg (T 10) none),P 3 (.asg (.c (.bool true)) none)] false) .ret) .skip)))) (.seq (.reg [P 2 (.asg (C 0) none),P 3 (.asg (.c (.bool false)) none)] false) .ret)))
theorem AcA : (Tryd.f100.body.bind (Ml Tryd.prog Tryd.f100.ntmps)) = some Aav:=by kernel_rfl
theorem AcB : Tryd.f100.results.toList.mapM (MB Tryd.prog) = some [(.t 2),(.t 3)]:=by kernel_rfl
def Rp (a : LS) : List D:=[LU a]
def Ro (ds : List D) : LS:=RF (ds.getD 0 .top)
theorem Vd (a : LS) : Ro (Rp a) = a:=by simp [Ro,Rp]
def VA (b : Int × Bool) : D:=.tup [.int .i64 b.1,.bool b.2]
def Vz (_b : Int × Bool) : List D:=[]
noncomputable def SA : Dw.Spec:=Mj [] .ground Rp Ro (fun a=>OT a) VA Vz
set_option maxHeartbeats 4000000 in
theorem Ys : Mg Tryd.prog 100 SA:=by
 refine MC (Nl) Tryd.func100 (by decide) AcA AcB (np:=1) (by decide) Vd (fun _=>r) (fun _=>r) (by decide)<|?_
 intro x1
 show TrE (specs []) Aav (MG [] .ground [(.t 2),(.t 3)] VA Vz) ⟨[(0,.agg [.int .i64 x1.Op,.int .i64 x1.A,.int .i64 x1.B,.int .i64 x1.C,.int .u64 x1.Imm])],[],262144⟩ (OT x1)
 refine Mu<|?_
 unfold Aav OT
 refine sQ<|rG<|bX r r r r r<|aS r r<|aS r r<|nI<|xS<|sQ<|sQ<|rG<|fA r r<|lO (v:=.int .i64 x1.Op) (z:=.agg [.int .i64 x1.Op,.int .i64 x1.A,.int .i64 x1.B,.int .i64 x1.C,.int .u64 x1.Imm]) r r r r r r<|nI<|xS<|bK<|sQ<|sQ<|rG<|bN (v:=.bool (x1.Op == 16)) r r r r r<|aS r r<|nI<|xS<|cD (c:=(x1.Op == 16)) r ?_ ?_
 ·refine sK<|xS<|cD (c:=(x1.Op == 16)) r ?_ ?_
  ·refine sQ<|rG<|fA r r<|lO (v:=.int .i64 x1.A) (z:=.agg [.int .i64 x1.Op,.int .i64 x1.A,.int .i64 x1.B,.int .i64 x1.C,.int .u64 x1.Imm]) r r r r r r<|aS r r<|aS r r<|nI<|xS<|rT<|bR<|xR<|OW (b:=(x1.A,true)) r ?_ r r ?_ r (by decide)
   all_goals first|(simp;done)|(simp;omega)|rfl|(simp [Md,Mc];done)
  ·refine sK<|bM<|xS<|sQ<|rG<|aS r r<|aS r r<|nI<|xS<|rT<|OW (b:=(0,false)) r ?_ r r ?_ r (by decide)
   all_goals first|(simp;done)|(simp;omega)|rfl|(simp [Md,Mc];done)
 ·refine rG<|bN (v:=.bool (x1.Op == 17)) r r r r r<|aS r r<|nI<|xS<|cD (c:=(x1.Op == 17)) r ?_ ?_
  ·refine sQ<|rG<|fA r r<|lO (v:=.int .i64 x1.A) (z:=.agg [.int .i64 x1.Op,.int .i64 x1.A,.int .i64 x1.B,.int .i64 x1.C,.int .u64 x1.Imm]) r r r r r r<|aS r r<|aS r r<|nI<|xS<|rT<|bR<|xR<|OW (b:=(x1.A,true)) r ?_ r r ?_ r (by decide)
   all_goals first|(simp;done)|(simp;omega)|rfl|(simp [Md,Mc];done)
  ·refine sK<|bM<|xS<|sQ<|rG<|aS r r<|aS r r<|nI<|xS<|rT<|OW (b:=(0,false)) r ?_ r r ?_ r (by decide)
   all_goals first|(simp;done)|(simp;omega)|rfl|(simp [Md,Mc];done)

def AaD : Mi:=(.seq (.reg [P 2 (.asg (.c (.bool false)) none)] false) (.seq (.reg [M 3 0,P 4 (.bin .geq (T 3) (C 0)),M 5 4,⟨(some 6),(.mv (T 0)),(some ⟨5,true⟩),[]⟩,⟨(some 7),(.bin .lss (T 6) (C 512)),(some ⟨5,true⟩),[]⟩,P 8 (.pick (T 5) (T 7) (.c (.bool false))),P 2 (.asg (T 8) none)] false) .ret))
theorem AcQ : (Tryd.f115.body.bind (Ml Tryd.prog Tryd.f115.ntmps)) = some AaD:=by kernel_rfl
theorem AcR : Tryd.f115.results.toList.mapM (MB Tryd.prog) = some [(.t 2)]:=by kernel_rfl
def Qh (a : Int) : List D:=[.int .i64 a]
def Qg (ds : List D) : Int:=uI (ds.getD 0 .top)
theorem SX (a : Int) : Qg (Qh a) = a:=by simp [Qg,Qh,uI]
def TA (b : Bool) : D:=.bool b
def Tz (_b : Bool) : List D:=[]
noncomputable def QH : Dw.Spec:=Mj [] .ground Qh Qg (fun a=>Og a) TA Tz
set_option maxHeartbeats 4000000 in
theorem Xg : Mg Tryd.prog 115 QH:=by
 refine MC (Nl) Tryd.func115 (by decide) AcQ AcR (np:=1) (by decide) SX (fun _=>r) (fun _=>r) (by decide)<|?_
 intro n1
 show TrE (specs []) AaD (MG [] .ground [(.t 2)] TA Tz) ⟨[(0,.int .i64 n1)],[],262144⟩ (Og n1)
 refine Mu<|?_
 unfold AaD Og
 refine sQ<|rG<|aS r r<|nI<|xS<|sQ<|rG<|mV r r<|bN (v:=.bool (decide (n1 ≥ 0))) r r r r r<|mV r r<|sP 5 (b:=(decide (n1 ≥ 0))) r ?_ ?_
 ·refine mV r r<|bN (v:=.bool (decide (n1 < 512))) r r r r r<|pT r r r r<|aS r r<|nI<|xS<|rT<|Mq (b:=(decide (n1 < 512))) r ?_ r r ?_ r
  all_goals first|(simp;done)|(simp;omega)|rfl|(simp [Md,Mc];done)
 ·refine oF r<|oF r<|pF r r r r<|aS r r<|nI<|xS<|rT<|Mq (b:=false) r ?_ r r ?_ r
  all_goals first|(simp;done)|(simp;omega)|rfl|(simp [Md,Mc];done)

def Aay : Mi:=(.seq (.reg [M 7 1,P 8 (.cvt .u64 (T 7)),P 9 (.bin .rem (T 8) (.c (.int .u64 64))),P 10 (.bin .shl (.c (.int .u64 1)) (T 9)),P 6 (.asg (T 10) none)] false) (.block 0 (.seq (.reg [M 22 1,P 23 (.call (.c (.clo 115 [])) [(T 22)]),P 24 (.un .not (T 23)),P 21 (.asg (T 24) none)] false) (.cond (T 21) .skip (.seq (.reg [M 26 2,P 25 (.asg (T 26) none)] false) (.cond (T 25) (.reg [M 27 0,M 28 1,⟨(some 29),(.bin .quo (T 28) (C 64)),none,[1]⟩,⟨(some 30),(.nilck (T 27)),none,[0]⟩,⟨(some 31),(.ixP 1 8 (T 30) (T 29)),none,[3,2]⟩,⟨(some 32),(.ld 1 false (T 31)),none,[4]⟩,M 33 6,⟨(some 34),(.bin .or (T 32) (T 33)),none,[5,6]⟩,⟨(some 35),(.nilck (T 27)),none,[0]⟩,⟨(some 36),(.ixP 1 8 (T 35) (T 29)),none,[8,2,0,1,2,3,4,5,6,7]⟩,⟨none,(.st 1 (T 36) (T 34)),none,[9,7,0,1,2,3,4,5,6,7]⟩] true) (.reg [M 11 0,M 12 1,⟨(some 13),(.bin .quo (T 12) (C 64)),none,[1]⟩,⟨(some 14),(.nilck (T 11)),none,[0]⟩,⟨(some 15),(.ixP 1 8 (T 14) (T 13)),none,[3,2]⟩,⟨(some 16),(.ld 1 false (T 15)),none,[4]⟩,M 17 6,⟨(some 18),(.bin .andNot (T 16) (T 17)),none,[5,6]⟩,⟨(some 19),(.nilck (T 11)),none,[0]⟩,⟨(some 20),(.ixP 1 8 (T 19) (T 13)),none,[8,2,0,1,2,3,4,5,6,7]⟩,⟨none,(.st 1 (T 20) (T 18)),none,[9,7,0,1,2,3,4,5,6,7]⟩] true)))))))
theorem AcG : (Tryd.f103.body.bind (Ml Tryd.prog Tryd.f103.ntmps)) = some Aay:=by kernel_rfl
theorem AcH : Tryd.f103.results.toList.mapM (MB Tryd.prog) = some []:=by kernel_rfl
def PN (a : LV × Int × Bool) : List D:=[MM a.1,.int .i64 a.2.1,.bool a.2.2]
def PM (ds : List D) : LV × Int × Bool:=(Om (ds.getD 0 .top),uI (ds.getD 1 .top),uBo (ds.getD 2 .top))
theorem Qf (a : LV × Int × Bool) : PM (PN a) = a:=by simp [PM,PN,uI,uBo]
def SV (b : LV) : D:=.tup []
def SU (b : LV) : List D:=[MM b]
noncomputable def Ob : Dw.Spec:=Mj [(0,(8,122))] .val PN PM (fun a=>Ns a.1 a.2.1 a.2.2) SV SU
set_option maxHeartbeats 4000000 in
theorem SI : Mg Tryd.prog 103 Ob:=by
 refine MC (Mt (l:=[(115,QH)]) (by simp [Xg])) Tryd.func103 (by decide) AcG AcH (np:=3) (by decide) Qf (fun _=>r) (fun _=>r) (by decide)<|?_
 rintro ⟨s1,n2,in3⟩
 show TrE (specs [(115,QH)]) Aay (MG [(0,(8,122))] .val [] SV SU) ⟨[(0,.optr 8192 0 0 0),(1,.int .i64 n2),(2,.bool in3)],[(8192,some (0,⟨false,true,8,122,[.agg [.int .u64 s1.a0,.int .u64 s1.a1,.int .u64 s1.a2,.int .u64 s1.a3,.int .u64 s1.a4,.int .u64 s1.a5,.int .u64 s1.a6,.int .u64 s1.a7]]⟩))],262144⟩ (Ns s1 n2 in3)
 refine Mu<|?_
 unfold Aay Ns
 refine sQ<|rG<|mV r r<|cT r r<|bN (v:=.int .u64 ((IntKind.u64.wrap (n2)).tmod 64)) r r r r ⟨rfl,(by decide)⟩<|cK fun hq=>bN (v:=.int .u64 (IntKind.u64.wrap (1 * 2 ^ (Nat.min ((IntKind.u64.wrap (n2)).tmod 64).toNat IntKind.u64.bits)))) r r r r hq<|aS r r<|nI<|xS<|bK<|sQ<|rG<|mV r r<|bD fun r4 hr4=>cG n2 r r r SX r r (by simp) r hr4 r<|uN (w:=.bool (!r4)) r r r r trivial<|aS r r<|nI<|xS<|cD (c:=(!r4)) r ?_ ?_
 ·refine sK<|bM<|Wt (b:=s1) r ?_ r r ?_ r (by decide)
  all_goals first|(simp;done)|(simp;omega)|rfl|(simp [Md,Mc];done)
 ·refine sQ<|rG<|mV r r<|aS r r<|nI<|xS<|cD (c:=in3) r ?_ ?_
  ·refine rG<|mV r r<|mV r r<|bN (v:=.int .i64 (IntKind.i64.wrap (n2.tdiv 64))) r r r r ⟨rfl,(by decide)⟩<|nC r r r<|cK fun hq=>SP r r r hq<|bD fun s_e5 hs_e5=>Tv (q:=s_e5) (l:=s1.toList) (en:=Vy) (j:=(IntKind.i64.wrap (n2.tdiv 64)).toNat) (by simp) r r r hs_e5 r (fun _=>r)<|mV r r<|bN (v:=.int .u64 (IntKind.u64.wrap ((BitVec.ofInt IntKind.u64.bits s_e5 ||| BitVec.ofInt IntKind.u64.bits (IntKind.u64.wrap (1 * 2 ^ (Nat.min ((IntKind.u64.wrap (n2)).tmod 64).toNat IntKind.u64.bits)))).toNat))) r r r r r<|nC r r r<|cK fun hq=>SP r r r hq<|bD fun s_o6 hs_o6=>Wm (q:=s_o6) (q':=IntKind.u64.wrap ((BitVec.ofInt IntKind.u64.bits s_e5 ||| BitVec.ofInt IntKind.u64.bits (IntKind.u64.wrap (1 * 2 ^ (Nat.min ((IntKind.u64.wrap (n2)).tmod 64).toNat IntKind.u64.bits)))).toNat)) (l:=s1.toList) (en:=Vy) (j:=(IntKind.i64.wrap (n2.tdiv 64)).toNat) (z':=.agg [.int .u64 ((s1.set ((IntKind.i64.wrap (n2.tdiv 64)).toNat) (IntKind.u64.wrap ((BitVec.ofInt IntKind.u64.bits s_e5 ||| BitVec.ofInt IntKind.u64.bits (IntKind.u64.wrap (1 * 2 ^ (Nat.min ((IntKind.u64.wrap (n2)).tmod 64).toNat IntKind.u64.bits)))).toNat))).a0),.int .u64 ((s1.set ((IntKind.i64.wrap (n2.tdiv 64)).toNat) (IntKind.u64.wrap ((BitVec.ofInt IntKind.u64.bits s_e5 ||| BitVec.ofInt IntKind.u64.bits (IntKind.u64.wrap (1 * 2 ^ (Nat.min ((IntKind.u64.wrap (n2)).tmod 64).toNat IntKind.u64.bits)))).toNat))).a1),.int .u64 ((s1.set ((IntKind.i64.wrap (n2.tdiv 64)).toNat) (IntKind.u64.wrap ((BitVec.ofInt IntKind.u64.bits s_e5 ||| BitVec.ofInt IntKind.u64.bits (IntKind.u64.wrap (1 * 2 ^ (Nat.min ((IntKind.u64.wrap (n2)).tmod 64).toNat IntKind.u64.bits)))).toNat))).a2),.int .u64 ((s1.set ((IntKind.i64.wrap (n2.tdiv 64)).toNat) (IntKind.u64.wrap ((BitVec.ofInt IntKind.u64.bits s_e5 ||| BitVec.ofInt IntKind.u64.bits (IntKind.u64.wrap (1 * 2 ^ (Nat.min ((IntKind.u64.wrap (n2)).tmod 64).toNat IntKind.u64.bits)))).toNat))).a3),.int .u64 ((s1.set ((IntKind.i64.wrap (n2.tdiv 64)).toNat) (IntKind.u64.wrap ((BitVec.ofInt IntKind.u64.bits s_e5 ||| BitVec.ofInt IntKind.u64.bits (IntKind.u64.wrap (1 * 2 ^ (Nat.min ((IntKind.u64.wrap (n2)).tmod 64).toNat IntKind.u64.bits)))).toNat))).a4),.int .u64 ((s1.set ((IntKind.i64.wrap (n2.tdiv 64)).toNat) (IntKind.u64.wrap ((BitVec.ofInt IntKind.u64.bits s_e5 ||| BitVec.ofInt IntKind.u64.bits (IntKind.u64.wrap (1 * 2 ^ (Nat.min ((IntKind.u64.wrap (n2)).tmod 64).toNat IntKind.u64.bits)))).toNat))).a5),.int .u64 ((s1.set ((IntKind.i64.wrap (n2.tdiv 64)).toNat) (IntKind.u64.wrap ((BitVec.ofInt IntKind.u64.bits s_e5 ||| BitVec.ofInt IntKind.u64.bits (IntKind.u64.wrap (1 * 2 ^ (Nat.min ((IntKind.u64.wrap (n2)).tmod 64).toNat IntKind.u64.bits)))).toNat))).a6),.int .u64 ((s1.set ((IntKind.i64.wrap (n2.tdiv 64)).toNat) (IntKind.u64.wrap ((BitVec.ofInt IntKind.u64.bits s_e5 ||| BitVec.ofInt IntKind.u64.bits (IntKind.u64.wrap (1 * 2 ^ (Nat.min ((IntKind.u64.wrap (n2)).tmod 64).toNat IntKind.u64.bits)))).toNat))).a7)]) (by simp) r r r r r hs_o6 r r (congrArg (fun l=>D.agg (l.map Vy)) (NY s1 ((IntKind.i64.wrap (n2.tdiv 64)).toNat) (IntKind.u64.wrap ((BitVec.ofInt IntKind.u64.bits s_e5 ||| BitVec.ofInt IntKind.u64.bits (IntKind.u64.wrap (1 * 2 ^ (Nat.min ((IntKind.u64.wrap (n2)).tmod 64).toNat IntKind.u64.bits)))).toNat))).symm) r r<|Mp (by kernel_rfl)<|bM<|Wt (b:=(s1.set ((IntKind.i64.wrap (n2.tdiv 64)).toNat) (IntKind.u64.wrap ((BitVec.ofInt IntKind.u64.bits s_e5 ||| BitVec.ofInt IntKind.u64.bits (IntKind.u64.wrap (1 * 2 ^ (Nat.min ((IntKind.u64.wrap (n2)).tmod 64).toNat IntKind.u64.bits)))).toNat)))) r ?_ r r ?_ r (by decide)
   all_goals first|(simp;done)|(simp;omega)|rfl|(simp [Md,Mc];done)
  ·refine rG<|mV r r<|mV r r<|bN (v:=.int .i64 (IntKind.i64.wrap (n2.tdiv 64))) r r r r ⟨rfl,(by decide)⟩<|nC r r r<|cK fun hq=>SP r r r hq<|bD fun s_e7 hs_e7=>Tv (q:=s_e7) (l:=s1.toList) (en:=Vy) (j:=(IntKind.i64.wrap (n2.tdiv 64)).toNat) (by simp) r r r hs_e7 r (fun _=>r)<|mV r r<|bN (v:=.int .u64 (IntKind.u64.wrap ((BitVec.ofInt IntKind.u64.bits s_e7 &&& ~~~ BitVec.ofInt IntKind.u64.bits (IntKind.u64.wrap (1 * 2 ^ (Nat.min ((IntKind.u64.wrap (n2)).tmod 64).toNat IntKind.u64.bits)))).toNat))) r r r r r<|nC r r r<|cK fun hq=>SP r r r hq<|bD fun s_o8 hs_o8=>Wm (q:=s_o8) (q':=IntKind.u64.wrap ((BitVec.ofInt IntKind.u64.bits s_e7 &&& ~~~ BitVec.ofInt IntKind.u64.bits (IntKind.u64.wrap (1 * 2 ^ (Nat.min ((IntKind.u64.wrap (n2)).tmod 64).toNat IntKind.u64.bits)))).toNat)) (l:=s1.toList) (en:=Vy) (j:=(IntKind.i64.wrap (n2.tdiv 64)).toNat) (z':=.agg [.int .u64 ((s1.set ((IntKind.i64.wrap (n2.tdiv 64)).toNat) (IntKind.u64.wrap ((BitVec.ofInt IntKind.u64.bits s_e7 &&& ~~~ BitVec.ofInt IntKind.u64.bits (IntKind.u64.wrap (1 * 2 ^ (Nat.min ((IntKind.u64.wrap (n2)).tmod 64).toNat IntKind.u64.bits)))).toNat))).a0),.int .u64 ((s1.set ((IntKind.i64.wrap (n2.tdiv 64)).toNat) (IntKind.u64.wrap ((BitVec.ofInt IntKind.u64.bits s_e7 &&& ~~~ BitVec.ofInt IntKind.u64.bits (IntKind.u64.wrap (1 * 2 ^ (Nat.min ((IntKind.u64.wrap (n2)).tmod 64).toNat IntKind.u64.bits)))).toNat))).a1),.int .u64 ((s1.set ((IntKind.i64.wrap (n2.tdiv 64)).toNat) (IntKind.u64.wrap ((BitVec.ofInt IntKind.u64.bits s_e7 &&& ~~~ BitVec.ofInt IntKind.u64.bits (IntKind.u64.wrap (1 * 2 ^ (Nat.min ((IntKind.u64.wrap (n2)).tmod 64).toNat IntKind.u64.bits)))).toNat))).a2),.int .u64 ((s1.set ((IntKind.i64.wrap (n2.tdiv 64)).toNat) (IntKind.u64.wrap ((BitVec.ofInt IntKind.u64.bits s_e7 &&& ~~~ BitVec.ofInt IntKind.u64.bits (IntKind.u64.wrap (1 * 2 ^ (Nat.min ((IntKind.u64.wrap (n2)).tmod 64).toNat IntKind.u64.bits)))).toNat))).a3),.int .u64 ((s1.set ((IntKind.i64.wrap (n2.tdiv 64)).toNat) (IntKind.u64.wrap ((BitVec.ofInt IntKind.u64.bits s_e7 &&& ~~~ BitVec.ofInt IntKind.u64.bits (IntKind.u64.wrap (1 * 2 ^ (Nat.min ((IntKind.u64.wrap (n2)).tmod 64).toNat IntKind.u64.bits)))).toNat))).a4),.int .u64 ((s1.set ((IntKind.i64.wrap (n2.tdiv 64)).toNat) (IntKind.u64.wrap ((BitVec.ofInt IntKind.u64.bits s_e7 &&& ~~~ BitVec.ofInt IntKind.u64.bits (IntKind.u64.wrap (1 * 2 ^ (Nat.min ((IntKind.u64.wrap (n2)).tmod 64).toNat IntKind.u64.bits)))).toNat))).a5),.int .u64 ((s1.set ((IntKind.i64.wrap (n2.tdiv 64)).toNat) (IntKind.u64.wrap ((BitVec.ofInt IntKind.u64.bits s_e7 &&& ~~~ BitVec.ofInt IntKind.u64.bits (IntKind.u64.wrap (1 * 2 ^ (Nat.min ((IntKind.u64.wrap (n2)).tmod 64).toNat IntKind.u64.bits)))).toNat))).a6),.int .u64 ((s1.set ((IntKind.i64.wrap (n2.tdiv 64)).toNat) (IntKind.u64.wrap ((BitVec.ofInt IntKind.u64.bits s_e7 &&& ~~~ BitVec.ofInt IntKind.u64.bits (IntKind.u64.wrap (1 * 2 ^ (Nat.min ((IntKind.u64.wrap (n2)).tmod 64).toNat IntKind.u64.bits)))).toNat))).a7)]) (by simp) r r r r r hs_o8 r r (congrArg (fun l=>D.agg (l.map Vy)) (NY s1 ((IntKind.i64.wrap (n2.tdiv 64)).toNat) (IntKind.u64.wrap ((BitVec.ofInt IntKind.u64.bits s_e7 &&& ~~~ BitVec.ofInt IntKind.u64.bits (IntKind.u64.wrap (1 * 2 ^ (Nat.min ((IntKind.u64.wrap (n2)).tmod 64).toNat IntKind.u64.bits)))).toNat))).symm) r r<|Mp (by kernel_rfl)<|bM<|Wt (b:=(s1.set ((IntKind.i64.wrap (n2.tdiv 64)).toNat) (IntKind.u64.wrap ((BitVec.ofInt IntKind.u64.bits s_e7 &&& ~~~ BitVec.ofInt IntKind.u64.bits (IntKind.u64.wrap (1 * 2 ^ (Nat.min ((IntKind.u64.wrap (n2)).tmod 64).toNat IntKind.u64.bits)))).toNat)))) r ?_ r r ?_ r (by decide)
   all_goals first|(simp;done)|(simp;omega)|rfl|(simp [Md,Mc];done)

def AbY : Mi:=(.seq (.reg [P 2 (.asg (.c .top) none)] false) (.seq (.reg [P 6 (.bld [(.int .u64 0),(.int .u64 0),(.int .u64 0),(.int .u64 0),(.int .u64 0),(.int .u64 0),(.int .u64 0),(.int .u64 0)] []),P 7 (.box (T 6) 8 122),P 3 (.asg (T 7) none)] false) (.seq (.seq (.reg [M 8 0,P 9 (.len false (T 8)),P 10 (.mv (C 0))] false) (.block 0 (.loop (.seq (.reg [P 11 (.bin .lss (T 10) (T 9))] false) (.seq (.cond (T 11) .skip (.exit 0)) (.seq (.block 1 (.seq (.reg [P 12 (.ixA 1 (T 8) (T 10)),P 13 (.ld 1 false (T 12)),P 5 (.asg (T 13) none)] false) (.reg [M 14 3,M 15 5,P 16 (.call (.c (.clo 103 [])) [(T 14),(T 15),(.c (.bool true))])] false))) (.reg [P 17 (.bin .add (T 10) (C 1)),M 10 17] false))))))) (.seq (.reg [M 18 3,P 2 (.asg (T 18) none)] false) .ret))))
theorem AeQ : (Tryd.f95.body.bind (Ml Tryd.prog Tryd.f95.ntmps)) = some AbY:=by kernel_rfl
theorem AeR : Tryd.f95.results.toList.mapM (MB Tryd.prog) = some [(.t 2)]:=by kernel_rfl
def RV (a : (List Int)) : List D:=[.sl (a.map LR)]
def RU (ds : List D) : (List Int):=(uL uI) (ds.getD 0 .top)
theorem OZ (a : (List Int)) : RU (RV a) = a:=by simp [RU,RV,Ox (u:=uI) (en:=LR) (fun _=>rfl)]
def Wc (b : LV) : D:=MM b
def Wb (_b : LV) : List D:=[]
noncomputable def Oa : Dw.Spec:=Mj [] (.ptr 8 122) RV RU (fun a=>NI a) Wc Wb
set_option maxHeartbeats 4000000 in
theorem Sy : Mg Tryd.prog 95 Oa:=by
 refine MC (Mt (l:=[(103,Ob)]) (by simp [SI])) Tryd.func95 (by decide) AeQ AeR (np:=1) (by decide) OZ (fun _=>r) (fun _=>r) (by decide)<|?_
 intro l1
 show TrE (specs [(103,Ob)]) AbY (MG [] (.ptr 8 122) [(.t 2)] Wc Wb) ⟨[(0,.sl (l1.map LR))],[],262144⟩ (NI l1)
 refine Mu<|?_
 unfold AbY NI
 refine sQ<|rG<|aS r r<|nI<|xS<|sQ<|rG<|bL (cs:=[.int .u64 0,.int .u64 0,.int .u64 0,.int .u64 0,.int .u64 0,.int .u64 0,.int .u64 0,.int .u64 0]) (ps:=[]) r r r r<|bX r r r r r<|aS r r<|nI<|xS<|sQ<|sQ<|rG<|mV r r<|lS r r<|mV r r<|nI<|xS<|bK<|lP (E:=fun (s : LV × Int) (g : Nat)=>[(3,.optr 7 g 0 0),(8,.sl (l1.map LR)),(9,.int .i64 (l1.length : Int)),(10,.int .i64 s.2)]) (O:=fun s g=>[(7,some (g,⟨false,true,8,122,[.agg [.int .u64 s.1.a0,.int .u64 s.1.a1,.int .u64 s.1.a2,.int .u64 s.1.a3,.int .u64 s.1.a4,.int .u64 s.1.a5,.int .u64 s.1.a6,.int .u64 s.1.a7]]⟩))]) (body:=fun s=>Qq l1 s.1 s.2) (s:=((LV.mk 0 0 0 0 0 0 0 0),0)) _ ((hE ⟨rfl,r,r,r,trivial⟩ ⟨rfl,trivial⟩))<|?_
 rintro ⟨x2,x3⟩ v7x1 nn
 try dsimp only
 unfold Qq
 refine sQ<|rG<|bN (v:=.bool (decide (x3 < (l1.length : Int)))) r r r r r<|nI<|xS<|sQ<|cD (c:=(decide (x3 < (l1.length : Int)))) r ?_ ?_
 ·exact sK<|xS<|sQ<|bK<|sQ<|rG<|bD fun x_x4 hx_x4=>iS (en:=LR) r r r hx_x4 r<|lF (v:=.int .i64 x_x4) r r r r<|aS r r<|nI<|xS<|rG<|mV r r<|mV r r<|bD fun r5 hr5=>cV (x2,x_x4,true) r r r Qf r r (by simp) r hr5<|nI<|bM<|xS<|rG<|bN (v:=.int .i64 (IntKind.i64.wrap (x3 + 1))) r r r r r<|mV r r<|nI<|xL (s:=(r5,IntKind.i64.wrap (x3 + 1))) _ ((hE ⟨rfl,r,r,r,trivial⟩ ⟨rfl,trivial⟩))
 ·refine eT<|xE<|lE<|bH<|xS<|sQ<|rG<|mV r r<|aS r r<|nI<|xS<|rT<|Zm (b:=x2) r ?_ r ?_ r r ?_ r
  all_goals first|(simp;done)|(simp;omega)|rfl|(simp [Md,Mc];done)

def Acb : Mi:=(.seq (.reg [⟨(some 2),(.asg (.c .nils) (some ⟨1,3⟩)),none,[]⟩] false) (.seq (.reg [⟨(some 3),(.asg (.c .nils) (some ⟨1,3⟩)),none,[]⟩] false) (.seq (.seq (.reg [M 6 0,P 7 (.mv (C 0))] false) (.block 0 (.loop (.seq (.reg [P 8 (.bin .lss (T 7) (C 8))] false) (.seq (.cond (T 8) .skip (.exit 0)) (.seq (.block 1 (.seq (.reg [M 9 7,P 10 (.nilck (T 6)),⟨(some 11),(.ixP 1 8 (T 10) (T 7)),none,[1]⟩,⟨(some 12),(.ld 1 false (T 11)),none,[2]⟩,⟨(some 4),(.asg (T 9) none),none,[0,0]⟩,⟨(some 5),(.asg (T 12) none),none,[3,4,0,1,2,3,4]⟩] true) (.block 2 (.loop (.seq (.seq (.reg [M 13 5,P 14 (.bin .neq (T 13) (.c (.int .u64 0)))] false) (.cond (T 14) .skip (.exit 2))) (.seq (.block 3 (.reg [M 19 3,M 20 4,P 21 (.bin .mul (C 64) (T 20)),M 22 5,P 23 (.call (.c (.clo 117 [])) [(T 22)]),P 24 (.bin .add (T 21) (T 23)),⟨(some 25),(.bldS 1 3 (.int .i64 0) 1 [⟨0,(T 24)⟩]),none,[]⟩,P 26 (.app 1 3 8 (T 19) (T 25)),⟨(some 3),(.asg (T 26) (some ⟨1,3⟩)),none,[]⟩] false)) (.reg [M 15 5,M 16 5,P 17 (.bin .sub (T 16) (.c (.int .u64 1))),P 18 (.bin .and (T 15) (T 17)),P 5 (.asg (T 18) none)] false))))))) (.reg [P 27 (.bin .add (T 7) (C 1)),M 7 27] false))))))) (.seq (.reg [M 28 3,⟨(some 2),(.asg (T 28) (some ⟨1,3⟩)),none,[]⟩] false) .ret))))
theorem AeW : (Tryd.f98.body.bind (Ml Tryd.prog Tryd.f98.ntmps)) = some Acb:=by kernel_rfl
theorem AeX : Tryd.f98.results.toList.mapM (MB Tryd.prog) = some [(.t 2)]:=by kernel_rfl
def Pn (a : LV) : List D:=[MM a]
def Pm (ds : List D) : LV:=Om (ds.getD 0 .top)
theorem Oq (a : LV) : Pm (Pn a) = a:=by simp [Pm,Pn]
def SH (b : (List Int) × LV) : D:=.sl (b.1.map LR)
def SG (b : (List Int) × LV) : List D:=[MM b.2]
noncomputable def Na : Dw.Spec:=Mj [(0,(8,122))] (.row 1 3) Pn Pm (fun a=>MZ a) SH SG
set_option maxHeartbeats 4000000 in
theorem PL : Mg Tryd.prog 98 Na:=by
 refine MC (Mt (l:=[(117,Zf)]) (by simp [Adk])) Tryd.func98 (by decide) AeW AeX (np:=1) (by decide) Oq (fun _=>r) (fun _=>r) (by decide)<|?_
 intro s1
 show TrE (specs [(117,Zf)]) Acb (MG [(0,(8,122))] (.row 1 3) [(.t 2)] SH SG) ⟨[(0,.optr 8192 0 0 0)],[(8192,some (0,⟨false,true,8,122,[.agg [.int .u64 s1.a0,.int .u64 s1.a1,.int .u64 s1.a2,.int .u64 s1.a3,.int .u64 s1.a4,.int .u64 s1.a5,.int .u64 s1.a6,.int .u64 s1.a7]]⟩))],262144⟩ (MZ s1)
 refine Mu<|?_
 unfold Acb MZ
 refine sQ<|rG<|aN (α:=Int) r LR r<|nI<|xS<|sQ<|rG<|aN (α:=Int) r LR r<|nI<|xS<|sQ<|sQ<|rG<|mV r r<|mV r r<|nI<|xS<|bK<|lP (E:=fun (s : (List Int) × Int) (g : Nat)=>[(3,.osl 3 g 0 s.1.length),(6,.optr 8192 0 0 0),(7,.int .i64 s.2)]) (O:=fun s g=>[(3,some (g,⟨false,false,1,3,s.1.map LR⟩)),(8192,some (0,⟨false,true,8,122,[.agg [.int .u64 s1.a0,.int .u64 s1.a1,.int .u64 s1.a2,.int .u64 s1.a3,.int .u64 s1.a4,.int .u64 s1.a5,.int .u64 s1.a6,.int .u64 s1.a7]]⟩))]) (body:=fun s=>On s1 s.1 s.2) (s:=(([] : List Int),0)) _ ((hE ⟨rfl,r,r,trivial⟩ ⟨rfl,r,trivial⟩))<|?_
 rintro ⟨l2,x3⟩ v3x1 nn
 try dsimp only
 unfold On
 refine sQ<|rG<|bN (v:=.bool (decide (x3 < 8))) r r r r r<|nI<|xS<|sQ<|cD (c:=(decide (x3 < 8))) r ?_ ?_
 ·refine sK<|xS<|sQ<|bK<|sQ<|rG<|mV r r<|nC r r r<|cK fun hq=>SP r r r hq<|bD fun s_e4 hs_e4=>Tv (q:=s_e4) (l:=s1.toList) (en:=Vy) (j:=x3.toNat) (by simp) r r r hs_e4 r (fun _=>r)<|aS r r<|aS r r<|Mp (by kernel_rfl)<|xS<|bK<|lP (E:=fun (s : (List Int) × Int) (g : Nat)=>[(3,.osl 3 g 0 s.1.length),(4,.int .i64 x3),(5,.int .u64 s.2),(6,.optr 8192 0 0 0),(7,.int .i64 x3)]) (O:=fun s g=>[(3,some (g,⟨false,false,1,3,s.1.map LR⟩)),(8192,some (0,⟨false,true,8,122,[.agg [.int .u64 s1.a0,.int .u64 s1.a1,.int .u64 s1.a2,.int .u64 s1.a3,.int .u64 s1.a4,.int .u64 s1.a5,.int .u64 s1.a6,.int .u64 s1.a7]]⟩))]) (body:=fun s=>Oo x3 s.1 s.2) (s:=(l2,s_e4)) _ ((hE ⟨rfl,r,r,r,r,trivial⟩ ⟨rfl,r,trivial⟩))<|?_
  rintro ⟨l5,x6⟩ v3x2 nn
  try dsimp only
  unfold Oo
  refine sQ<|sQ<|rG<|mV r r<|bN (v:=.bool (x6 != 0)) r r r r r<|nI<|xS<|cD (c:=(x6 != 0)) r ?_ ?_
  ·exact sK<|xS<|sQ<|bK<|rG<|mV r r<|mV r r<|bN (v:=.int .i64 (IntKind.i64.wrap (64 * x3))) r r r r r<|mV r r<|bD fun r7 hr7=>cG x6 r r r Aas r r (by simp) r hr7 r<|bN (v:=.int .i64 (IntKind.i64.wrap ((IntKind.i64.wrap (64 * x3)) + r7))) r r r r r<|bS ([IntKind.i64.wrap ((IntKind.i64.wrap (64 * x3)) + r7)] : List Int) LR r r r (by simp) r r r<|cK fun hq=>aP (l5) (([IntKind.i64.wrap ((IntKind.i64.wrap (64 * x3)) + r7)] : List Int)) LR r r r r r r r (by simp) (Mo _ _ r) r r (by simp) (LX _ _ r) (fun _=>r) r hq<|aO (l:=l5 ++ ([IntKind.i64.wrap ((IntKind.i64.wrap (64 * x3)) + r7)] : List Int)) (en:=LR) r r r r<|nI<|bM<|xS<|rG<|mV r r<|mV r r<|bN (v:=.int .u64 (IntKind.u64.wrap (x6 - 1))) r r r r r<|bN (v:=.int .u64 (IntKind.u64.wrap ((BitVec.ofInt IntKind.u64.bits x6 &&& BitVec.ofInt IntKind.u64.bits (IntKind.u64.wrap (x6 - 1))).toNat))) r r r r r<|aS r r<|nI<|xL (s:=(l5 ++ ([IntKind.i64.wrap ((IntKind.i64.wrap (64 * x3)) + r7)] : List Int),IntKind.u64.wrap ((BitVec.ofInt IntKind.u64.bits x6 &&& BitVec.ofInt IntKind.u64.bits (IntKind.u64.wrap (x6 - 1))).toNat))) _ ((hE ⟨rfl,r,r,r,r,trivial⟩ ⟨rfl,r,trivial⟩))
  ·exact eT<|xE<|lE<|bH<|bM<|xS<|rG<|bN (v:=.int .i64 (IntKind.i64.wrap (x3 + 1))) r r r r r<|mV r r<|nI<|xL (s:=(l5,IntKind.i64.wrap (x3 + 1))) _ ((hE ⟨rfl,r,r,trivial⟩ ⟨rfl,r,trivial⟩))
 ·refine eT<|xE<|lE<|bH<|xS<|sQ<|rG<|mV r r<|aO (l:=l2) (en:=LR) r r r r<|nI<|xS<|rT<|Mx (b:=(l2,s1)) r ?_ r r ?_ r ?_ (congrArg D.sl (LX _ _ r)) r
  all_goals first|(simp;done)|(simp;omega)|rfl|(simp [Md,Mc];done)

def AbS : Mi:=(.seq (.reg [⟨(some 4),(.asg (.c .nils) (some ⟨1,3⟩)),none,[]⟩] false) (.seq (.reg [M 6 0,P 7 (.call (.c (.clo 95 [])) [(T 6)]),P 5 (.asg (T 7) none)] false) (.seq (.reg [M 8 5,M 9 1,P 10 (.call (.c (.clo 103 [])) [(T 8),(T 9),(.c (.bool false))])] false) (.seq (.reg [M 11 5,P 12 (.call (.c (.clo 98 [])) [(T 11)]),⟨(some 4),(.asg (T 12) (some ⟨1,3⟩)),none,[]⟩] false) .ret))))
theorem AeE : (Tryd.f77.body.bind (Ml Tryd.prog Tryd.f77.ntmps)) = some AbS:=by kernel_rfl
theorem AeF : Tryd.f77.results.toList.mapM (MB Tryd.prog) = some [(.t 4)]:=by kernel_rfl
def RT (a : (List Int) × Int) : List D:=[.sl (a.1.map LR),.int .i64 a.2]
def RS (ds : List D) : (List Int) × Int:=((uL uI) (ds.getD 0 .top),uI (ds.getD 1 .top))
theorem Vq (a : (List Int) × Int) : RS (RT a) = a:=by simp [RS,RT,uI,Ox (u:=uI) (en:=LR) (fun _=>rfl)]
def SR (b : (List Int)) : D:=.sl (b.map LR)
def VZ (_b : (List Int)) : List D:=[]
noncomputable def SS : Dw.Spec:=Mj [] .val RT RS (fun a=>OI a.1 a.2) SR VZ
set_option maxHeartbeats 4000000 in
theorem YL : Mg Tryd.prog 77 SS:=by
 refine MC (Mt (l:=[(95,Oa),(103,Ob),(98,Na)]) (by simp [Sy,SI,PL])) Tryd.func77 (by decide) AeE AeF (np:=2) (by decide) Vq (fun _=>r) (fun _=>r) (by decide)<|?_
 rintro ⟨s1,n2⟩
 show TrE (specs [(95,Oa),(103,Ob),(98,Na)]) AbS (MG [] .val [(.t 4)] SR VZ) ⟨[(0,.sl (s1.map LR)),(1,.int .i64 n2)],[],262144⟩ (OI s1 n2)
 refine Mu<|?_
 unfold AbS OI
 refine sQ<|rG<|aN (α:=Int) r LR r<|nI<|xS<|sQ<|rG<|mV r r<|bD fun r3 hr3=>cP s1 r r r OZ r r (by simp) r hr3<|aS r r<|nI<|xS<|sQ<|rG<|mV r r<|mV r r<|bD fun r4 hr4=>cV (r3,n2,false) r r r Qf r r (by simp) r hr4<|nI<|xS<|sQ<|rG<|mV r r<|bD fun r5 hr5=>cR (l:=r5.1) (en:=LR) r4 r r r Oq r r (by simp) r hr5 r<|aO (l:=r5.1) (en:=LR) r r r r<|nI<|xS<|rT<|MN (b:=r5.1) r ?_ r r ?_ (by first | rfl | (simp only [Mr,Mz]; rfl) | simp [SR])
 all_goals first|(simp;done)|(simp;omega)|rfl|(simp [Md,Mc];done)

def Aax : Mi:=(.seq (.reg [P 1 (.box (T 0) 5 66),⟨(some 2),(.asg (.c .nils) (some ⟨1,3⟩)),none,[]⟩] false) (.seq (.seq (.reg [P 3 (.fldA 0 (T 1)),P 4 (.ld 1 false (T 3))] false) (.block 0 (.seq (.seq (.reg [P 6 (.bin .eql (T 4) (C 15)),P 5 (.asg (T 6) none)] false) (.cond (T 5) .skip (.reg [P 7 (.bin .eql (T 4) (C 17)),P 5 (.asg (T 7) none)] false))) (.cond (T 5) (.seq (.reg [P 8 (.fldA 2 (T 1)),P 9 (.ld 1 false (T 8)),⟨(some 10),(.bldS 1 3 (.int .i64 0) 1 [⟨0,(T 9)⟩]),none,[]⟩,⟨(some 2),(.asg (T 10) (some ⟨1,3⟩)),none,[]⟩] false) .ret) .skip)))) (.seq (.reg [⟨(some 2),(.asg (.c .nils) (some ⟨1,3⟩)),none,[]⟩] false) .ret)))
theorem AcE : (Tryd.f102.body.bind (Ml Tryd.prog Tryd.f102.ntmps)) = some Aax:=by kernel_rfl
theorem AcF : Tryd.f102.results.toList.mapM (MB Tryd.prog) = some [(.t 2)]:=by kernel_rfl
def Tb (a : LS) : List D:=[LU a]
def Ta (ds : List D) : LS:=RF (ds.getD 0 .top)
theorem TI (a : LS) : Ta (Tb a) = a:=by simp [Ta,Tb]
def Xv (b : (List Int)) : D:=.sl (b.map LR)
def Xu (_b : (List Int)) : List D:=[]
noncomputable def UD : Dw.Spec:=Mj [] (.row 1 3) Tb Ta (fun a=>PR a) Xv Xu
set_option maxHeartbeats 4000000 in
theorem Zh : Mg Tryd.prog 102 UD:=by
 refine MC (Nl) Tryd.func102 (by decide) AcE AcF (np:=1) (by decide) TI (fun _=>r) (fun _=>r) (by decide)<|?_
 intro x1
 show TrE (specs []) Aax (MG [] (.row 1 3) [(.t 2)] Xv Xu) ⟨[(0,.agg [.int .i64 x1.Op,.int .i64 x1.A,.int .i64 x1.B,.int .i64 x1.C,.int .u64 x1.Imm])],[],262144⟩ (PR x1)
 refine Mu<|?_
 unfold Aax PR
 refine sQ<|rG<|bX r r r r r<|aN (α:=Int) r LR r<|nI<|xS<|sQ<|sQ<|rG<|fA r r<|lO (v:=.int .i64 x1.Op) (z:=.agg [.int .i64 x1.Op,.int .i64 x1.A,.int .i64 x1.B,.int .i64 x1.C,.int .u64 x1.Imm]) r r r r r r<|nI<|xS<|bK<|sQ<|sQ<|rG<|bN (v:=.bool (x1.Op == 15)) r r r r r<|aS r r<|nI<|xS<|cD (c:=(x1.Op == 15)) r ?_ ?_
 ·refine sK<|xS<|cD (c:=(x1.Op == 15)) r ?_ ?_
  ·refine sQ<|rG<|fA r r<|lO (v:=.int .i64 x1.B) (z:=.agg [.int .i64 x1.Op,.int .i64 x1.A,.int .i64 x1.B,.int .i64 x1.C,.int .u64 x1.Imm]) r r r r r r<|bS ([x1.B] : List Int) LR r r r (by simp) r r r<|aO (l:=([x1.B] : List Int)) (en:=LR) r r r r<|nI<|xS<|rT<|bR<|xR<|Mx (b:=([x1.B] : List Int)) r ?_ r r ?_ r ?_ (congrArg D.sl (LX _ _ r)) r
   all_goals first|(simp;done)|(simp;omega)|rfl|(simp [Md,Mc];done)
  ·refine sK<|bM<|xS<|sQ<|rG<|aN (α:=Int) r LR r<|nI<|xS<|rT<|Mx (b:=([] : List Int)) r ?_ r r ?_ r ?_ (congrArg D.sl (LX _ _ r)) r
   all_goals first|(simp;done)|(simp;omega)|rfl|(simp [Md,Mc];done)
 ·refine rG<|bN (v:=.bool (x1.Op == 17)) r r r r r<|aS r r<|nI<|xS<|cD (c:=(x1.Op == 17)) r ?_ ?_
  ·refine sQ<|rG<|fA r r<|lO (v:=.int .i64 x1.B) (z:=.agg [.int .i64 x1.Op,.int .i64 x1.A,.int .i64 x1.B,.int .i64 x1.C,.int .u64 x1.Imm]) r r r r r r<|bS ([x1.B] : List Int) LR r r r (by simp) r r r<|aO (l:=([x1.B] : List Int)) (en:=LR) r r r r<|nI<|xS<|rT<|bR<|xR<|Mx (b:=([x1.B] : List Int)) r ?_ r r ?_ r ?_ (congrArg D.sl (LX _ _ r)) r
   all_goals first|(simp;done)|(simp;omega)|rfl|(simp [Md,Mc];done)
  ·refine sK<|bM<|xS<|sQ<|rG<|aN (α:=Int) r LR r<|nI<|xS<|rT<|Mx (b:=([] : List Int)) r ?_ r r ?_ r ?_ (congrArg D.sl (LX _ _ r)) r
   all_goals first|(simp;done)|(simp;omega)|rfl|(simp [Md,Mc];done)

def Aaw : Mi:=(.seq (.reg [⟨(some 2),(.asg (.c .nils) (some ⟨1,3⟩)),none,[]⟩] false) (.seq (.reg [M 3 0,P 4 (.call (.c (.clo 95 [])) [(T 3)]),P 5 (.call (.c (.clo 98 [])) [(T 4)]),⟨(some 2),(.asg (T 5) (some ⟨1,3⟩)),none,[]⟩] false) .ret))
theorem AcC : (Tryd.f101.body.bind (Ml Tryd.prog Tryd.f101.ntmps)) = some Aaw:=by kernel_rfl
theorem AcD : Tryd.f101.results.toList.mapM (MB Tryd.prog) = some [(.t 2)]:=by kernel_rfl
def Qy (a : (List Int)) : List D:=[.sl (a.map LR)]
def Uz (ds : List D) : (List Int):=(uL uI) (ds.getD 0 .top)
theorem Vp (a : (List Int)) : Uz (Qy a) = a:=by simp [Uz,Qy,Ox (u:=uI) (en:=LR) (fun _=>rfl)]
def Yx (b : (List Int)) : D:=.sl (b.map LR)
def Yw (_b : (List Int)) : List D:=[]
noncomputable def Wn : Dw.Spec:=Mj [] (.row 1 3) Qy Uz (fun a=>Qp a) Yx Yw
set_option maxHeartbeats 4000000 in
theorem ZJ : Mg Tryd.prog 101 Wn:=by
 refine MC (Mt (l:=[(95,Oa),(98,Na)]) (by simp [Sy,PL])) Tryd.func101 (by decide) AcC AcD (np:=1) (by decide) Vp (fun _=>r) (fun _=>r) (by decide)<|?_
 intro l1
 show TrE (specs [(95,Oa),(98,Na)]) Aaw (MG [] (.row 1 3) [(.t 2)] Yx Yw) ⟨[(0,.sl (l1.map LR))],[],262144⟩ (Qp l1)
 refine Mu<|?_
 unfold Aaw Qp
 refine sQ<|rG<|aN (α:=Int) r LR r<|nI<|xS<|sQ<|rG<|mV r r<|bD fun r2 hr2=>cP l1 r r r OZ r r (by simp) r hr2<|bD fun r3 hr3=>cR (l:=r3.1) (en:=LR) r2 r r r Oq r r (by simp) r hr3 r<|aO (l:=r3.1) (en:=LR) r r r r<|nI<|xS<|rT<|Mx (b:=r3.1) r ?_ r r ?_ r ?_ (congrArg D.sl (LX _ _ r)) r
 all_goals first|(simp;done)|(simp;omega)|rfl|(simp [Md,Mc];done)

def Aca : Mi:=(.seq (.reg [P 4 (.asg (.c (.int .u64 0)) none)] false) (.seq (.reg [M 5 0,M 6 1,P 7 (.bin .or (T 5) (T 6)),P 4 (.asg (T 7) none)] false) .ret))
theorem AeU : (Tryd.f97.body.bind (Ml Tryd.prog Tryd.f97.ntmps)) = some Aca:=by kernel_rfl
theorem AeV : Tryd.f97.results.toList.mapM (MB Tryd.prog) = some [(.t 4)]:=by kernel_rfl
def Rh (a : Int × Int) : List D:=[.int .u64 a.1,.int .u64 a.2]
def Rg (ds : List D) : Int × Int:=(uI (ds.getD 0 .top),uI (ds.getD 1 .top))
theorem UO (a : Int × Int) : Rg (Rh a) = a:=by simp [Rg,Rh,uI]
def Vs (b : Int) : D:=.int .u64 b
def Vr (_b : Int) : List D:=[]
noncomputable def Sw : Dw.Spec:=Mj [] .ground Rh Rg (fun a=>OR a.1 a.2) Vs Vr
set_option maxHeartbeats 4000000 in
theorem Yq : Mg Tryd.prog 97 Sw:=by
 refine MC (Nl) Tryd.func97 (by decide) AeU AeV (np:=2) (by decide) UO (fun _=>r) (fun _=>r) (by decide)<|?_
 rintro ⟨x1,y2⟩
 show TrE (specs []) Aca (MG [] .ground [(.t 4)] Vs Vr) ⟨[(0,.int .u64 x1),(1,.int .u64 y2)],[],262144⟩ (OR x1 y2)
 refine Mu<|?_
 unfold Aca OR
 refine sQ<|rG<|aS r r<|nI<|xS<|sQ<|rG<|mV r r<|mV r r<|bN (v:=.int .u64 (IntKind.u64.wrap ((BitVec.ofInt IntKind.u64.bits x1 ||| BitVec.ofInt IntKind.u64.bits y2).toNat))) r r r r r<|aS r r<|nI<|xS<|rT<|Mq (b:=IntKind.u64.wrap ((BitVec.ofInt IntKind.u64.bits x1 ||| BitVec.ofInt IntKind.u64.bits y2).toNat)) r ?_ r r ?_ r
 all_goals first|(simp;done)|(simp;omega)|rfl|(simp [Md,Mc];done)

def AbZ : Mi:=(.seq (.reg [P 6 (.asg (.c .top) none)] false) (.seq (.reg [P 9 (.bld [(.int .u64 0),(.int .u64 0),(.int .u64 0),(.int .u64 0),(.int .u64 0),(.int .u64 0),(.int .u64 0),(.int .u64 0)] []),P 10 (.box (T 9) 8 122),P 7 (.asg (T 10) none)] false) (.seq (.seq (.reg [P 11 (.mv (C 0))] false) (.block 0 (.loop (.seq (.reg [P 12 (.bin .lss (T 11) (C 8))] false) (.seq (.cond (T 12) .skip (.exit 0)) (.seq (.block 1 (.seq (.reg [M 13 11,P 8 (.asg (T 13) none)] false) (.reg [M 14 7,M 15 8,M 16 2,M 17 0,M 18 8,⟨(some 19),(.nilck (T 17)),none,[3]⟩,⟨(some 20),(.ixP 1 8 (T 19) (T 18)),none,[5,4]⟩,⟨(some 21),(.ld 1 false (T 20)),none,[6]⟩,M 22 1,M 23 8,⟨(some 24),(.nilck (T 22)),none,[8]⟩,⟨(some 25),(.ixP 1 8 (T 24) (T 23)),none,[10,9]⟩,⟨(some 26),(.ld 1 false (T 25)),none,[11]⟩,⟨(some 27),(.call (T 16) [(T 21),(T 26)]),none,[2,7,12]⟩,⟨(some 28),(.nilck (T 14)),none,[0]⟩,⟨(some 29),(.ixP 1 8 (T 28) (T 15)),none,[14,1,0,1,2,3,4,5,6,7,8,9,10,11,12,13]⟩,⟨none,(.st 1 (T 29) (T 27)),none,[15,13,13,0,1,2,3,4,5,6,7,8,9,10,11,12,13]⟩] true))) (.reg [P 30 (.bin .add (T 11) (C 1)),M 11 30] false))))))) (.seq (.reg [M 31 7,P 6 (.asg (T 31) none)] false) .ret))))
theorem AeS : (Tryd.f96.body.bind (Ml Tryd.prog Tryd.f96.ntmps)) = some AbZ:=by kernel_rfl
theorem AeT : Tryd.f96.results.toList.mapM (MB Tryd.prog) = some [(.t 6)]:=by kernel_rfl
def NW (a : LV × LV) : List D:=[MM a.1,MM a.2,.clo 97 []]
def NV (ds : List D) : LV × LV:=(Om (ds.getD 0 .top),Om (ds.getD 1 .top))
theorem Pw (a : LV × LV) : NV (NW a) = a:=by simp [NV,NW]
def PY (b : LV × LV × LV) : D:=MM b.1
def PX (b : LV × LV × LV) : List D:=[MM b.2.1,MM b.2.2]
noncomputable def Nr : Dw.Spec:=Mj [(0,(8,122)),(1,(8,122))] (.ptr 8 122) NW NV (fun a=>MV a.1 a.2) PY PX
set_option maxHeartbeats 4000000 in
theorem SW : Mg Tryd.prog 96 Nr:=by
 refine MC (Mt (l:=[(97,Sw)]) (by simp [Yq])) Tryd.func96 (by decide) AeS AeT (np:=3) (by decide) Pw (fun _=>r) (fun _=>r) (by decide)<|?_
 rintro ⟨s1,t2⟩
 show TrE (specs [(97,Sw)]) AbZ (MG [(0,(8,122)),(1,(8,122))] (.ptr 8 122) [(.t 6)] PY PX) ⟨[(0,.optr 8192 0 0 0),(1,.optr 8193 1 0 0),(2,.clo 97 [])],[(8192,some (0,⟨false,true,8,122,[.agg [.int .u64 s1.a0,.int .u64 s1.a1,.int .u64 s1.a2,.int .u64 s1.a3,.int .u64 s1.a4,.int .u64 s1.a5,.int .u64 s1.a6,.int .u64 s1.a7]]⟩)),(8193,some (1,⟨false,true,8,122,[.agg [.int .u64 t2.a0,.int .u64 t2.a1,.int .u64 t2.a2,.int .u64 t2.a3,.int .u64 t2.a4,.int .u64 t2.a5,.int .u64 t2.a6,.int .u64 t2.a7]]⟩))],262144⟩ (MV s1 t2)
 refine Mu<|?_
 unfold AbZ MV
 refine sQ<|rG<|aS r r<|nI<|xS<|sQ<|rG<|bL (cs:=[.int .u64 0,.int .u64 0,.int .u64 0,.int .u64 0,.int .u64 0,.int .u64 0,.int .u64 0,.int .u64 0]) (ps:=[]) r r r r<|bX r r r r r<|aS r r<|nI<|xS<|sQ<|sQ<|rG<|mV r r<|nI<|xS<|bK<|lP (E:=fun (s : LV × Int) (g : Nat)=>[(0,.optr 8192 0 0 0),(1,.optr 8193 1 0 0),(2,.clo 97 []),(7,.optr 10 g 0 0),(11,.int .i64 s.2)]) (O:=fun s g=>[(10,some (g,⟨false,true,8,122,[.agg [.int .u64 s.1.a0,.int .u64 s.1.a1,.int .u64 s.1.a2,.int .u64 s.1.a3,.int .u64 s.1.a4,.int .u64 s.1.a5,.int .u64 s.1.a6,.int .u64 s.1.a7]]⟩)),(8192,some (0,⟨false,true,8,122,[.agg [.int .u64 s1.a0,.int .u64 s1.a1,.int .u64 s1.a2,.int .u64 s1.a3,.int .u64 s1.a4,.int .u64 s1.a5,.int .u64 s1.a6,.int .u64 s1.a7]]⟩)),(8193,some (1,⟨false,true,8,122,[.agg [.int .u64 t2.a0,.int .u64 t2.a1,.int .u64 t2.a2,.int .u64 t2.a3,.int .u64 t2.a4,.int .u64 t2.a5,.int .u64 t2.a6,.int .u64 t2.a7]]⟩))]) (body:=fun s=>MX s1 t2 s.1 s.2) (s:=((LV.mk 0 0 0 0 0 0 0 0),0)) _ ((hE ⟨rfl,r,r,r,r,trivial⟩ ⟨rfl,r,r,trivial⟩))<|?_
 rintro ⟨x3,x4⟩ v10x1 nn
 try dsimp only
 unfold MX
 refine sQ<|rG<|bN (v:=.bool (decide (x4 < 8))) r r r r r<|nI<|xS<|sQ<|cD (c:=(decide (x4 < 8))) r ?_ ?_
 ·exact sK<|xS<|sQ<|bK<|sQ<|rG<|mV r r<|aS r r<|nI<|xS<|rG<|mV r r<|mV r r<|mV r r<|mV r r<|mV r r<|nC r r r<|cK fun hq=>SP r r r hq<|bD fun s_e5 hs_e5=>Tv (q:=s_e5) (l:=s1.toList) (en:=Vy) (j:=x4.toNat) (by simp) r r r hs_e5 r (fun _=>r)<|mV r r<|mV r r<|nC r r r<|cK fun hq=>SP r r r hq<|bD fun t_e6 ht_e6=>Tv (q:=t_e6) (l:=t2.toList) (en:=Vy) (j:=x4.toNat) (by simp) r r r ht_e6 r (fun _=>r)<|bD fun r7 hr7=>cG (s_e5,t_e6) r r r UO r r (by simp) r hr7 r<|nC r r r<|cK fun hq=>SP r r r hq<|bD fun x_o8 hx_o8=>AaM (q:=x_o8) (q':=r7) (l:=x3.toList) (en:=Vy) (j:=x4.toNat) (z':=.agg [.int .u64 ((x3.set x4.toNat r7).a0),.int .u64 ((x3.set x4.toNat r7).a1),.int .u64 ((x3.set x4.toNat r7).a2),.int .u64 ((x3.set x4.toNat r7).a3),.int .u64 ((x3.set x4.toNat r7).a4),.int .u64 ((x3.set x4.toNat r7).a5),.int .u64 ((x3.set x4.toNat r7).a6),.int .u64 ((x3.set x4.toNat r7).a7)]) (by simp) r r r r r hx_o8 r r (congrArg (fun l=>D.agg (l.map Vy)) (NY x3 x4.toNat r7).symm)<|Mp (by kernel_rfl)<|bM<|xS<|rG<|bN (v:=.int .i64 (IntKind.i64.wrap (x4 + 1))) r r r r r<|mV r r<|nI<|xL (s:=((x3.set x4.toNat r7),IntKind.i64.wrap (x4 + 1))) _ ((hE ⟨rfl,r,r,r,r,trivial⟩ ⟨rfl,r,r,trivial⟩))
 ·refine eT<|xE<|lE<|bH<|xS<|sQ<|rG<|mV r r<|aS r r<|nI<|xS<|rT<|Zm (b:=(x3,s1,t2)) r ?_ r ?_ r r ?_ r
  all_goals first|(simp;done)|(simp;omega)|rfl|(simp [Md,Mc];done)

def AbM : Mi:=(.seq (.reg [⟨(some 4),(.asg (.c .nils) (some ⟨1,3⟩)),none,[]⟩] false) (.seq (.reg [M 5 0,P 6 (.call (.c (.clo 95 [])) [(T 5)]),M 7 1,P 8 (.call (.c (.clo 95 [])) [(T 7)]),P 9 (.call (.c (.clo 96 [])) [(T 6),(T 8),(.c (.clo 97 []))]),P 10 (.call (.c (.clo 98 [])) [(T 9)]),⟨(some 4),(.asg (T 10) (some ⟨1,3⟩)),none,[]⟩] false) .ret))
theorem Aes : (Tryd.f69.body.bind (Ml Tryd.prog Tryd.f69.ntmps)) = some AbM:=by kernel_rfl
theorem Aet : Tryd.f69.results.toList.mapM (MB Tryd.prog) = some [(.t 4)]:=by kernel_rfl
def OY (a : (List Int) × (List Int)) : List D:=[.sl (a.1.map LR),.sl (a.2.map LR)]
def Sx (ds : List D) : (List Int) × (List Int):=((uL uI) (ds.getD 0 .top),(uL uI) (ds.getD 1 .top))
theorem Rb (a : (List Int) × (List Int)) : Sx (OY a) = a:=by simp [Sx,OY,Ox (u:=uI) (en:=LR) (fun _=>rfl)]
def TF (b : (List Int)) : D:=.sl (b.map LR)
def Wx (_b : (List Int)) : List D:=[]
noncomputable def Qe : Dw.Spec:=Mj [] .val OY Sx (fun a=>NZ a.1 a.2) TF Wx
set_option maxHeartbeats 4000000 in
theorem Wa : Mg Tryd.prog 69 Qe:=by
 refine MC (Mt (l:=[(95,Oa),(401504,Nr),(98,Na)]) (by simp [Sy,SW,PL])) Tryd.func69 (by decide) Aes Aet (np:=2) (by decide) Rb (fun _=>r) (fun _=>r) (by decide)<|?_
 rintro ⟨a1,b2⟩
 show TrE (specs [(95,Oa),(401504,Nr),(98,Na)]) AbM (MG [] .val [(.t 4)] TF Wx) ⟨[(0,.sl (a1.map LR)),(1,.sl (b2.map LR))],[],262144⟩ (NZ a1 b2)
 refine Mu<|?_
 unfold AbM NZ
 refine sQ<|rG<|aN (α:=Int) r LR r<|nI<|xS<|sQ<|rG<|mV r r<|bD fun r3 hr3=>cP a1 r r r OZ r r (by simp) r hr3<|mV r r<|bD fun r4 hr4=>cP b2 r r r OZ r r (by simp) rfl hr4<|bD fun r5 hr5=>cP (r3,r4) rfl rfl (show _ = some Nr from by kernel_rfl) Pw rfl rfl (by simp) r hr5<|bD fun r6 hr6=>cR (l:=r6.1) (en:=LR) r5.1 r r r Oq r r (by simp) r hr6 r<|aO (l:=r6.1) (en:=LR) r r r r<|nI<|xS<|rT<|MN (b:=r6.1) r ?_ r r ?_ (by first | rfl | (simp only [Mr,Mz]; rfl) | simp [TF])
 all_goals first|(simp;done)|(simp;omega)|rfl|(simp [Md,Mc];done)

def AbQ : Mi:=(.seq (.reg [P 2 (.box (T 0) 5 66),⟨(some 4),(.asg (.c .nils) (some ⟨1,3⟩)),none,[]⟩] false) (.seq (.seq (.reg [P 8 (.ld 5 true (T 2)),P 9 (.call (.c (.clo 100 [])) [(T 8)]),M 7 9,P 10 (.ext (T 7) 0),P 11 (.ext (T 7) 1),P 5 (.asg (T 10) none),P 6 (.asg (T 11) none)] false) (.seq (.reg [M 12 6] false) (.cond (T 12) (.reg [M 13 1,M 14 5,P 15 (.call (.c (.clo 77 [])) [(T 13),(T 14)]),⟨(some 1),(.asg (T 15) (some ⟨1,3⟩)),none,[]⟩] false) .skip))) (.seq (.reg [M 16 1,P 17 (.ld 5 true (T 2)),P 18 (.call (.c (.clo 102 [])) [(T 17)]),P 19 (.call (.c (.clo 101 [])) [(T 18)]),P 20 (.call (.c (.clo 69 [])) [(T 16),(T 19)]),⟨(some 4),(.asg (T 20) (some ⟨1,3⟩)),none,[]⟩] false) .ret)))
theorem AeA : (Tryd.f74.body.bind (Ml Tryd.prog Tryd.f74.ntmps)) = some AbQ:=by kernel_rfl
theorem AeB : Tryd.f74.results.toList.mapM (MB Tryd.prog) = some [(.t 4)]:=by kernel_rfl
def UC (a : LS × (List Int)) : List D:=[LU a.1,.sl (a.2.map LR)]
def UB (ds : List D) : LS × (List Int):=(RF (ds.getD 0 .top),(uL uI) (ds.getD 1 .top))
theorem XR (a : LS × (List Int)) : UB (UC a) = a:=by simp [UB,UC,Ox (u:=uI) (en:=LR) (fun _=>rfl)]
def YC (b : (List Int)) : D:=.sl (b.map LR)
def YB (_b : (List Int)) : List D:=[]
noncomputable def Ws : Dw.Spec:=Mj [] .val UC UB (fun a=>SM a.1 a.2) YC YB
set_option maxHeartbeats 4000000 in
theorem ZN : Mg Tryd.prog 74 Ws:=by
 refine MC (Mt (l:=[(100,SA),(77,SS),(102,UD),(101,Wn),(69,Qe)]) (by simp [Ys,YL,Zh,ZJ,Wa])) Tryd.func74 (by decide) AeA AeB (np:=2) (by decide) XR (fun _=>r) (fun _=>r) (by decide)<|?_
 rintro ⟨x1,out2⟩
 show TrE (specs [(100,SA),(77,SS),(102,UD),(101,Wn),(69,Qe)]) AbQ (MG [] .val [(.t 4)] YC YB) ⟨[(0,.agg [.int .i64 x1.Op,.int .i64 x1.A,.int .i64 x1.B,.int .i64 x1.C,.int .u64 x1.Imm]),(1,.sl (out2.map LR))],[],262144⟩ (SM x1 out2)
 refine Mu<|?_
 unfold AbQ SM
 refine sQ<|rG<|bX r r r r r<|aN (α:=Int) r LR r<|nI<|xS<|sQ<|sQ<|rG<|lO (v:=.agg [.int .i64 x1.Op,.int .i64 x1.A,.int .i64 x1.B,.int .i64 x1.C,.int .u64 x1.Imm]) (z:=.agg [.int .i64 x1.Op,.int .i64 x1.A,.int .i64 x1.B,.int .i64 x1.C,.int .u64 x1.Imm]) r r r r r r<|bD fun r3 hr3=>cG x1 r r r Vd r r (by simp) r hr3 r<|mV r r<|eX (v:=.int .i64 r3.1) r r r<|eX (v:=.bool r3.2) r r r<|aS r r<|aS r r<|nI<|xS<|sQ<|rG<|mV r r<|nI<|xS<|cD (c:=r3.2) r ?_ ?_
 ·refine rG<|mV r r<|mV r r<|bD fun r4 hr4=>cV (out2,r3.1) r r r Vq r r (by simp) r hr4<|aL r r<|nI<|xS<|sQ<|rG<|mV r r<|lO (v:=.agg [.int .i64 x1.Op,.int .i64 x1.A,.int .i64 x1.B,.int .i64 x1.C,.int .u64 x1.Imm]) (z:=.agg [.int .i64 x1.Op,.int .i64 x1.A,.int .i64 x1.B,.int .i64 x1.C,.int .u64 x1.Imm]) r r r r r r<|bD fun r5 hr5=>cR (l:=r5) (en:=LR) x1 r r r TI r r (by simp) r hr5 r<|bD fun r6 hr6=>cR (l:=r6) (en:=LR) r5 r r r Vp r r (by simp) (by first | rfl | (simp only [Mr,Mz]; rfl) | simp [Qy]) hr6 r<|bD fun r7 hr7=>cV (r4,r6) r r r Rb r r (by simp) (by first | rfl | (simp only [Mr,Mz]; rfl) | simp [OY]) hr7<|aL r r<|nI<|xS<|rT<|MN (b:=r7) r ?_ r r ?_ r
  all_goals first|(simp;done)|(simp;omega)|rfl|(simp [Md,Mc];done)
 ·refine sK<|xS<|sQ<|rG<|mV r r<|lO (v:=.agg [.int .i64 x1.Op,.int .i64 x1.A,.int .i64 x1.B,.int .i64 x1.C,.int .u64 x1.Imm]) (z:=.agg [.int .i64 x1.Op,.int .i64 x1.A,.int .i64 x1.B,.int .i64 x1.C,.int .u64 x1.Imm]) r r r r r r<|bD fun r8 hr8=>cR (l:=r8) (en:=LR) x1 r r r TI r r (by simp) r hr8 r<|bD fun r9 hr9=>cR (l:=r9) (en:=LR) r8 r r r Vp r r (by simp) (by first | rfl | (simp only [Mr,Mz]; rfl) | simp [Qy]) hr9 r<|bD fun r10 hr10=>cV (out2,r9) r r r Rb r r (by simp) (by first | rfl | (simp only [Mr,Mz]; rfl) | simp [OY]) hr10<|aL r r<|nI<|xS<|rT<|MN (b:=r10) r ?_ r r ?_ r
  all_goals first|(simp;done)|(simp;omega)|rfl|(simp [Md,Mc];done)

def AbI : Mi:=(.seq (.reg [P 4 (.asg (.c (.bool false)) none)] false) (.seq (.seq (.reg [M 6 0,P 7 (.len false (T 6)),M 8 1,P 9 (.len false (T 8)),P 10 (.bin .neq (T 7) (T 9))] false) (.cond (T 10) (.seq (.reg [P 4 (.asg (.c (.bool false)) none)] false) .ret) .skip)) (.seq (.seq (.reg [M 11 0,P 12 (.len false (T 11)),P 13 (.mv (C 0))] false) (.block 0 (.loop (.seq (.reg [P 14 (.bin .lss (T 13) (T 12))] false) (.seq (.cond (T 14) .skip (.exit 0)) (.seq (.block 1 (.seq (.reg [M 15 13,P 5 (.asg (T 15) none)] false) (.seq (.reg [M 16 0,M 17 5,⟨(some 18),(.ixA 1 (T 16) (T 17)),none,[0,1]⟩,⟨(some 19),(.ld 1 false (T 18)),none,[2]⟩,M 20 1,M 21 5,⟨(some 22),(.ixA 1 (T 20) (T 21)),none,[4,5]⟩,⟨(some 23),(.ld 1 false (T 22)),none,[6]⟩,⟨(some 24),(.bin .neq (T 19) (T 23)),none,[3,7]⟩] true) (.cond (T 24) (.seq (.reg [P 4 (.asg (.c (.bool false)) none)] false) .ret) .skip)))) (.reg [P 25 (.bin .add (T 13) (C 1)),M 13 25] false))))))) (.seq (.reg [P 4 (.asg (.c (.bool true)) none)] false) .ret))))
theorem Aek : (Tryd.f59.body.bind (Ml Tryd.prog Tryd.f59.ntmps)) = some AbI:=by kernel_rfl
theorem Ael : Tryd.f59.results.toList.mapM (MB Tryd.prog) = some [(.t 4)]:=by kernel_rfl
def Pe (a : (List Int) × (List Int)) : List D:=[.sl (a.1.map LR),.sl (a.2.map LR)]
def Pd (ds : List D) : (List Int) × (List Int):=((uL uI) (ds.getD 0 .top),(uL uI) (ds.getD 1 .top))
theorem Pr (a : (List Int) × (List Int)) : Pd (Pe a) = a:=by simp [Pd,Pe,Ox (u:=uI) (en:=LR) (fun _=>rfl)]
def Sm (b : Bool) : D:=.bool b
def Sl (_b : Bool) : List D:=[]
noncomputable def NH : Dw.Spec:=Mj [] .ground Pe Pd (fun a=>Nh a.1 a.2) Sm Sl
set_option maxHeartbeats 4000000 in
theorem RR : Mg Tryd.prog 59 NH:=by
 refine MC (Nl) Tryd.func59 (by decide) Aek Ael (np:=2) (by decide) Pr (fun _=>r) (fun _=>r) (by decide)<|?_
 rintro ⟨s11,s22⟩
 show TrE (specs []) AbI (MG [] .ground [(.t 4)] Sm Sl) ⟨[(0,.sl (s11.map LR)),(1,.sl (s22.map LR))],[],262144⟩ (Nh s11 s22)
 refine Mu<|?_
 unfold AbI Nh
 refine sQ<|rG<|aS r r<|nI<|xS<|sQ<|sQ<|rG<|mV r r<|lS r r<|mV r r<|lS r r<|bN (v:=.bool ((s11.length : Int) != (s22.length : Int))) r r r r r<|nI<|xS<|cD (c:=((s11.length : Int) != (s22.length : Int))) r ?_ ?_
 ·refine sQ<|rG<|aS r r<|nI<|xS<|rT<|xR<|Mq (b:=false) r ?_ r r ?_ r
  all_goals first|(simp;done)|(simp;omega)|rfl|(simp [Md,Mc];done)
 ·refine sK<|xS<|sQ<|sQ<|rG<|mV r r<|lS r r<|mV r r<|nI<|xS<|bK<|lP (E:=fun (s : Int) (g : Unit)=>[(0,.sl (s11.map LR)),(1,.sl (s22.map LR)),(12,.int .i64 (s11.length : Int)),(13,.int .i64 s)]) (O:=fun s g=>[]) (body:=fun s=>Nz s11 s22 s) (s:=0) () ((hE ⟨rfl,r,r,r,trivial⟩ trivial))<|?_
  rintro x3 ⟨⟩ nn
  try dsimp only
  unfold Nz
  refine sQ<|rG<|bN (v:=.bool (decide (x3 < (s11.length : Int)))) r r r r r<|nI<|xS<|sQ<|cD (c:=(decide (x3 < (s11.length : Int)))) r ?_ ?_
  ·refine sK<|xS<|sQ<|bK<|sQ<|rG<|mV r r<|aS r r<|nI<|xS<|sQ<|rG<|mV r r<|mV r r<|bD fun x_x4 hx_x4=>iS (en:=LR) r r r hx_x4 r<|lF (v:=.int .i64 x_x4) r r r r<|mV r r<|mV r r<|bD fun x_x5 hx_x5=>iS (en:=LR) r r r hx_x5 r<|lF (v:=.int .i64 x_x5) r r r r<|bN (v:=.bool (x_x4 != x_x5)) r r r r r<|Mp (by kernel_rfl)<|xS<|cD (c:=(x_x4 != x_x5)) r ?_ ?_
   ·refine sQ<|rG<|aS r r<|nI<|xS<|rT<|bR<|xR<|lR<|bR<|xR<|Mq (b:=false) r ?_ r r ?_ r
    all_goals first|(simp;done)|(simp;omega)|rfl|(simp [Md,Mc];done)
   ·exact sK<|bM<|xS<|rG<|bN (v:=.int .i64 (IntKind.i64.wrap (x3 + 1))) r r r r r<|mV r r<|nI<|xL (s:=IntKind.i64.wrap (x3 + 1)) () ((hE ⟨rfl,r,r,r,trivial⟩ trivial))
  ·refine eT<|xE<|lE<|bH<|xS<|sQ<|rG<|aS r r<|nI<|xS<|rT<|Mq (b:=true) r ?_ r r ?_ r
   all_goals first|(simp;done)|(simp;omega)|rfl|(simp [Md,Mc];done)

def AaG : Mi:=(.seq (.reg [M 4 0,P 5 (.nilck (T 4)),P 6 (.fldA 1 (T 5)),P 7 (.ld 1 false (T 6)),M 8 1,P 9 (.mget (.bool false) (T 7) (T 8)),P 10 (.un .not (T 9))] false) (.cond (T 10) (.seq (.reg [M 11 0,P 12 (.nilck (T 11)),P 13 (.fldA 1 (T 12)),P 14 (.ld 1 false (T 13)),M 15 1,⟨none,(.mset (T 14) (T 15) (.c (.bool true))),none,[]⟩] false) (.reg [M 16 0,M 17 0,P 18 (.nilck (T 17)),P 19 (.fldA 0 (T 18)),P 20 (.ld 1 false (T 19)),M 21 1,⟨(some 22),(.bldS 1 3 (.int .i64 0) 1 [⟨0,(T 21)⟩]),none,[]⟩,P 23 (.app 1 3 8 (T 20) (T 22)),P 24 (.nilck (T 16)),P 25 (.fldA 0 (T 24)),⟨none,(.st 1 (T 25) (T 23)),none,[]⟩] false)) .skip))
theorem Aee : (Tryd.f56.body.bind (Ml Tryd.prog Tryd.f56.ntmps)) = some AaG:=by kernel_rfl
theorem Aef : Tryd.f56.results.toList.mapM (MB Tryd.prog) = some []:=by kernel_rfl

def AbG : Mi:=(.seq (.reg [P 2 (.asg (C 0) none)] false) (.seq (.reg [M 4 0,⟨(some 5),(.nilck (T 4)),none,[0]⟩,⟨(some 6),(.fldA 0 (T 5)),none,[1]⟩,⟨(some 7),(.ld 1 false (T 6)),none,[2]⟩,M 8 0,⟨(some 9),(.nilck (T 8)),none,[4]⟩,⟨(some 10),(.fldA 0 (T 9)),none,[5]⟩,⟨(some 11),(.ld 1 false (T 10)),none,[6]⟩,⟨(some 12),(.len false (T 11)),none,[7]⟩,⟨(some 13),(.bin .sub (T 12) (C 1)),none,[8]⟩,⟨(some 14),(.ixA 1 (T 7) (T 13)),none,[3,9]⟩,⟨(some 15),(.ld 1 false (T 14)),none,[10]⟩,⟨(some 3),(.asg (T 15) none),none,[11,0,1,2,3,4,5,6,7,8,9,10,11]⟩] true) (.seq (.reg [M 16 0,M 17 0,⟨(some 18),(.nilck (T 17)),none,[1]⟩,⟨(some 19),(.fldA 0 (T 18)),none,[2]⟩,⟨(some 20),(.ld 1 false (T 19)),none,[3]⟩,M 21 0,⟨(some 22),(.nilck (T 21)),none,[5]⟩,⟨(some 23),(.fldA 0 (T 22)),none,[6]⟩,⟨(some 24),(.ld 1 false (T 23)),none,[7]⟩,⟨(some 25),(.len false (T 24)),none,[8]⟩,⟨(some 26),(.bin .sub (T 25) (C 1)),none,[9]⟩,⟨(some 27),(.slc 1 (T 20) none (some (T 26))),none,[4,10]⟩,⟨(some 28),(.nilck (T 16)),none,[0,0,1,2,3,4,5,6,7,8,9,10,11]⟩,⟨(some 29),(.fldA 0 (T 28)),none,[12,0,1,2,3,4,5,6,7,8,9,10,11]⟩,⟨none,(.st 1 (T 29) (T 27)),none,[13,11,0,1,2,3,4,5,6,7,8,9,10,11]⟩] true) (.seq (.reg [M 30 0,P 31 (.nilck (T 30)),P 32 (.fldA 1 (T 31)),P 33 (.ld 1 false (T 32)),M 34 3,⟨none,(.mdel (T 33) (T 34)),none,[]⟩] false) (.seq (.reg [M 35 3,P 2 (.asg (T 35) none)] false) .ret)))))
theorem Aeg : (Tryd.f57.body.bind (Ml Tryd.prog Tryd.f57.ntmps)) = some AbG:=by kernel_rfl
theorem Aeh : Tryd.f57.results.toList.mapM (MB Tryd.prog) = some [(.t 2)]:=by kernel_rfl

def AbH : Mi:=(.seq (.reg [P 3 (.box (T 0) 3 27),P 4 (.box (T 1) 1 30),⟨(some 6),(.asg (.c .nils) (some ⟨1,3⟩)),none,[]⟩] false) (.seq (.reg [⟨(some 7),(.asg (.c .nils) (some ⟨1,3⟩)),none,[]⟩] false) (.seq (.seq (.reg [P 10 (.ld 3 true (T 3)),M 11 2,P 12 (.call (.c (.clo 88 [])) [(T 10),(T 11)]),P 13 (.len false (T 12)),P 14 (.mv (C 0))] false) (.block 0 (.loop (.seq (.reg [P 15 (.bin .lss (T 14) (T 13))] false) (.seq (.cond (T 15) .skip (.exit 0)) (.seq (.block 1 (.seq (.reg [P 16 (.ixA 1 (T 12) (T 14)),P 17 (.ld 1 false (T 16)),P 9 (.asg (T 17) none)] false) (.reg [M 18 7,P 19 (.fldA 2 (T 3)),⟨(some 20),(.ld 1 false (T 19)),none,[1]⟩,M 21 9,⟨(some 22),(.ixA 5 (T 20) (T 21)),none,[2,3]⟩,⟨(some 23),(.ld 5 true (T 22)),none,[4]⟩,P 24 (.fldA 0 (T 4)),⟨(some 25),(.ld 1 false (T 24)),none,[6]⟩,M 26 9,⟨(some 27),(.ixA 1 (T 25) (T 26)),none,[7,8]⟩,⟨(some 28),(.ld 1 false (T 27)),none,[9]⟩,⟨(some 29),(.call (.c (.clo 74 [])) [(T 23),(T 28)]),none,[5,10]⟩,⟨(some 30),(.call (.c (.clo 69 [])) [(T 18),(T 29)]),none,[0,11,11]⟩,⟨(some 7),(.asg (T 30) (some ⟨1,3⟩)),none,[12,12,0,1,2,3,4,5,6,7,8,9,10,11,12]⟩] true))) (.reg [P 31 (.bin .add (T 14) (C 1)),M 14 31] false))))))) (.seq (.reg [M 32 7,⟨(some 6),(.asg (T 32) (some ⟨1,3⟩)),none,[]⟩] false) .ret))))
theorem Aei : (Tryd.f58.body.bind (Ml Tryd.prog Tryd.f58.ntmps)) = some AbH:=by kernel_rfl
theorem Aej : Tryd.f58.results.toList.mapM (MB Tryd.prog) = some [(.t 6)]:=by kernel_rfl

end Go.Proofs.YtcelninhkmhjkaaDoor
