/-
  Programs on typed data, and the proofs that the code does what they say; written by a program (dx.py).
-/
import Derived.Test.YtcelninhkmhjkaaDoorProg
import Derived.Test.YtcelninhkmhjkaaDoorDc
import Derived.KernelRfl
import Derived.Test.YtcelninhkmhjkaaDoorDxP
namespace Go.Proofs.YtcelninhkmhjkaaDoor
open Go Go.Dw Go.Proofs
set_option maxRecDepth 100000
open Go.Dw renaming Yo → mV,WO → bN,RK → lO,VU → bD,WS → cK,WU → nI,WY → xS,Yq → rG,Ys → sQ,Sk → aO,WN → aS,WV → oF,WQ → bL,VV → bS,Rv → cV,QZ → cG,Ru → cR,WM → aP,RL → sV,Uj → sE,Ty → iS,Sl → iO,TA → lS,Sm → lW,VW → fA,Zy → eX,Ug → lF,UA → sP,Qz → pT,Qe → pF,Zn → uN,WT → nW,WR → bX,Sj → aN,WZ → cD,Wa → bK,Yr → rT,Xc → sK,Xa → eT,WX → xC,VY → xL,Un → xR,Um → zR,VZ → lR,Uy → hE,QA → lE,Rx → bH,Qf → bM,Ul → bR,Ry → xE,Xb → lP,TC → sC,Uh → bC,rf → r
def Ace : Mj:=(.seq (.reg [P 2 (.box (T 0) 3 27),⟨(some 4),(.asg (.c .nils) (some ⟨1,3⟩)),none,[]⟩] false) (.seq (.seq (.reg [M 6 1,P 7 (.bin .lss (T 6) (C 0)),M 8 7,⟨(some 9),(.mv (T 1)),(some ⟨8,false⟩),[]⟩,⟨(some 10),(.fldA 2 (T 2)),(some ⟨8,false⟩),[]⟩,⟨(some 11),(.ld 1 false (T 10)),(some ⟨8,false⟩),[]⟩,⟨(some 12),(.len false (T 11)),(some ⟨8,false⟩),[]⟩,⟨(some 13),(.bin .geq (T 9) (T 12)),(some ⟨8,false⟩),[]⟩,P 14 (.pick (T 8) (.c (.bool true)) (T 13))] false) (.cond (T 14) (.seq (.reg [⟨(some 4),(.asg (.c .nils) (some ⟨1,3⟩)),none,[]⟩] false) .ret) .skip)) (.seq (.reg [P 15 (.fldA 2 (T 2)),P 16 (.ld 1 false (T 15)),M 17 1,P 18 (.ixA 5 (T 16) (T 17)),P 19 (.ld 5 true (T 18)),P 5 (.new (.agg [(.int .i64 0),(.int .i64 0),(.int .i64 0),(.int .i64 0),(.int .u64 0)]) 5 66),⟨none,(.st 5 (T 5) (T 19)),none,[]⟩] false) (.seq (.seq (.reg [P 20 (.fldA 0 (T 5)),P 21 (.ld 1 false (T 20))] false) (.block 0 (.seq (.reg [P 23 (.bin .eql (T 21) (C 20)),P 22 (.asg (T 23) none)] false) (.cond (T 22) (.seq (.reg [P 24 (.fldA 1 (T 5)),P 25 (.ld 1 false (T 24)),⟨(some 26),(.bldS 1 3 (.int .i64 0) 1 [⟨0,(T 25)⟩]),none,[]⟩,⟨(some 4),(.asg (T 26) (some ⟨1,3⟩)),none,[]⟩] false) .ret) (.seq (.seq (.reg [P 28 (.bin .eql (T 21) (C 23)),P 27 (.asg (T 28) none)] false) (.cond (T 27) .skip (.reg [P 29 (.bin .eql (T 21) (C 24)),P 27 (.asg (T 29) none)] false))) (.cond (T 27) (.seq (.reg [⟨(some 4),(.asg (.c .nils) (some ⟨1,3⟩)),none,[]⟩] false) .ret) (.seq (.reg [P 31 (.bin .eql (T 21) (C 21)),P 30 (.asg (T 31) none)] false) (.cond (T 30) (.block 1 (.seq (.reg [P 33 (.fldA 2 (T 5)),P 34 (.ld 1 false (T 33)),M 35 1,P 36 (.bin .add (T 35) (C 1)),P 37 (.bin .lss (T 34) (T 36)),P 32 (.asg (T 37) none)] false) (.cond (T 32) (.seq (.reg [P 38 (.fldA 2 (T 5)),P 39 (.ld 1 false (T 38)),M 40 1,P 41 (.bin .add (T 40) (C 1)),⟨(some 42),(.bldS 1 3 (.int .i64 0) 2 [⟨0,(T 39)⟩,⟨1,(T 41)⟩]),none,[]⟩,⟨(some 4),(.asg (T 42) (some ⟨1,3⟩)),none,[]⟩] false) .ret) (.seq (.reg [P 44 (.fldA 2 (T 5)),P 45 (.ld 1 false (T 44)),M 46 1,P 47 (.bin .add (T 46) (C 1)),P 48 (.bin .gtr (T 45) (T 47)),P 43 (.asg (T 48) none)] false) (.cond (T 43) (.seq (.reg [M 49 1,P 50 (.bin .add (T 49) (C 1)),P 51 (.fldA 2 (T 5)),P 52 (.ld 1 false (T 51)),⟨(some 53),(.bldS 1 3 (.int .i64 0) 2 [⟨0,(T 50)⟩,⟨1,(T 52)⟩]),none,[]⟩,⟨(some 4),(.asg (T 53) (some ⟨1,3⟩)),none,[]⟩] false) .ret) .skip))))) .skip)))))))) (.seq (.reg [M 54 1,P 55 (.bin .add (T 54) (C 1)),⟨(some 56),(.bldS 1 3 (.int .i64 0) 1 [⟨0,(T 55)⟩]),none,[]⟩,⟨(some 4),(.asg (T 56) (some ⟨1,3⟩)),none,[]⟩] false) .ret)))))
theorem AeE : (Tryd.f60.body.bind (Mm Tryd.prog Tryd.f60.ntmps)) = some Ace:=by kernel_rfl
theorem AeF : Tryd.f60.results.toList.mapM (MB Tryd.prog) = some [(.t 4)]:=by kernel_rfl
def TX (a : LW × Int) : List D:=[MN a.1,.int .i64 a.2]
def TW (ds : List D) : LW × Int:=(Qu (ds.getD 0 .top),uI (ds.getD 1 .top))
theorem XI (a : LW × Int) : TW (TX a) = a:=by simp [TW,TX,uI]
def Yf (b : (List Int)) : D:=.sl (b.map Ed)
def Ye (_b : (List Int)) : List D:=[]
noncomputable def VL : Dw.Spec:=Mk [] (.row 1 3) TX TW (fun a=>RH a.1 a.2) Yf Ye
set_option maxHeartbeats 4000000 in
theorem ZJ : Mi Tryd.prog 60 VL:=by
 refine MA (Nh) Tryd.func60 (by decide) AeE AeF (np:=2) (by decide) XI (fun _=>r) (fun _=>r) (by decide)<|?_
 rintro ⟨f1,k2⟩
 show TrE (specs []) Ace (MD [] (.row 1 3) [(.t 4)] Yf Ye) ⟨[(0,.agg [.int .i64 f1.Params,.sl (f1.Slots.map LY),.sl (f1.Code.map LU)]),(1,.int .i64 k2)],[],262144⟩ (RH f1 k2)
 refine Mu<|?_
 unfold Ace RH
 refine sQ<|rG<|bX r r r r r<|aN (α:=Int) r Ed r<|nI<|xS<|sC (E:=fun (s : Unit) (g : Nat)=>[(1,.int .i64 k2),(2,.optr 2 g 0 0)]) (O:=fun s g=>[(2,some (g,⟨false,true,3,27,[.agg [.int .i64 f1.Params,.sl (f1.Slots.map LY),.sl (f1.Code.map LU)]]⟩))]) (j:=fun s=>Sr f1 k2) ?_ ?_
 ·refine sQ<|rG<|mV r r<|bN (v:=.bool (decide (k2 < 0))) r r r r r<|mV r r<|sP 8 (b:=(decide (k2 < 0))) r ?_ ?_
  ·refine oF r<|oF r<|oF r<|oF r<|oF r<|pT r r r r<|nI<|xS<|Qg r<|sQ<|rG<|aN (α:=Int) r Ed r<|nI<|xS<|rT<|zR<|My (b:=([] : List Int)) r ?_ r r ?_ r ?_ (congrArg D.sl (LX _ _ r)) r
   all_goals first|(simp;done)|(simp;omega)|rfl|(simp [Md,LZ];done)
  ·refine mV r r<|fA r r<|lO (v:=.sl (f1.Code.map LU)) (z:=.agg [.int .i64 f1.Params,.sl (f1.Slots.map LY),.sl (f1.Code.map LU)]) r r r r r r<|lS r r<|bN (v:=.bool (decide (k2 ≥ (f1.Code.length : Int)))) r r r r r<|pF r r r r<|nI<|xS<|cD (c:=(decide (k2 ≥ (f1.Code.length : Int)))) r ?_ ?_
   ·refine sQ<|rG<|aN (α:=Int) r Ed r<|nI<|xS<|rT<|zR<|My (b:=([] : List Int)) r ?_ r r ?_ r ?_ (congrArg D.sl (LX _ _ r)) r
    all_goals first|(simp;done)|(simp;omega)|rfl|(simp [Md,LZ];done)
   ·exact sK<|xC (s:=()) _ ((hE ⟨rfl,r,trivial⟩ ⟨rfl,trivial⟩))
 ·rintro ⟨⟩ v2x1 nn
  try dsimp only
  unfold Sr
  refine sQ<|rG<|fA r r<|lO (v:=.sl (f1.Code.map LU)) (z:=.agg [.int .i64 f1.Params,.sl (f1.Slots.map LY),.sl (f1.Code.map LU)]) r r r r r r<|mV r r<|bD fun x_x3 hx_x3=>iS (en:=LU) r r r hx_x3 r<|lF (v:=.agg [.int .i64 x_x3.Op,.int .i64 x_x3.A,.int .i64 x_x3.B,.int .i64 x_x3.C,.int .u64 x_x3.Imm]) r r r r<|nW r<|sV (z':=.agg [.int .i64 x_x3.Op,.int .i64 x_x3.A,.int .i64 x_x3.B,.int .i64 x_x3.C,.int .u64 x_x3.Imm]) r r r r r r r r r<|nI<|xS<|sQ<|sQ<|rG<|fA r r<|lO (v:=.int .i64 x_x3.Op) (z:=.agg [.int .i64 x_x3.Op,.int .i64 x_x3.A,.int .i64 x_x3.B,.int .i64 x_x3.C,.int .u64 x_x3.Imm]) r r r r r r<|nI<|xS<|bK<|sQ<|rG<|bN (v:=.bool (x_x3.Op == 20)) r r r r r<|aS r r<|nI<|xS<|cD (c:=(x_x3.Op == 20)) r ?_ ?_
  ·refine sQ<|rG<|fA r r<|lO (v:=.int .i64 x_x3.A) (z:=.agg [.int .i64 x_x3.Op,.int .i64 x_x3.A,.int .i64 x_x3.B,.int .i64 x_x3.C,.int .u64 x_x3.Imm]) r r r r r r<|bS ([x_x3.A] : List Int) Ed r r r (by simp) r r r<|aO (l:=([x_x3.A] : List Int)) (en:=Ed) r r r r<|nI<|xS<|rT<|bR<|xR<|My (b:=([x_x3.A] : List Int)) r ?_ r r ?_ r ?_ (congrArg D.sl (LX _ _ r)) r
   all_goals first|(simp;done)|(simp;omega)|rfl|(simp [Md,LZ];done)
  ·refine sC (E:=fun (s : Bool) (g : Nat)=>[(1,.int .i64 k2),(5,.optr 5 g 0 0),(21,.int .i64 x_x3.Op),(27,.bool s)]) (O:=fun s g=>[(5,some (g,⟨false,true,5,66,[.agg [.int .i64 x_x3.Op,.int .i64 x_x3.A,.int .i64 x_x3.B,.int .i64 x_x3.C,.int .u64 x_x3.Imm]]⟩))]) (j:=fun s=>Nt x_x3 k2 s) ?_ ?_
   ·refine sQ<|rG<|bN (v:=.bool (x_x3.Op == 23)) r r r r r<|aS r r<|nI<|xS<|cD (c:=(x_x3.Op == 23)) r ?_ ?_
    ·exact sK<|xC (s:=(x_x3.Op == 23)) _ ((hE ⟨rfl,r,r,r,trivial⟩ ⟨rfl,trivial⟩))
    ·exact rG<|bN (v:=.bool (x_x3.Op == 24)) r r r r r<|aS r r<|nI<|xC (s:=(x_x3.Op == 24)) _ ((hE ⟨rfl,r,r,r,trivial⟩ ⟨rfl,trivial⟩))
   ·rintro x4 v5x2 nn
    try dsimp only
    unfold Nt
    refine cD (c:=x4) r ?_ ?_
    ·refine sQ<|rG<|aN (α:=Int) r Ed r<|nI<|xS<|rT<|bR<|xR<|My (b:=([] : List Int)) r ?_ r r ?_ r ?_ (congrArg D.sl (LX _ _ r)) r
     all_goals first|(simp;done)|(simp;omega)|rfl|(simp [Md,LZ];done)
    ·refine sQ<|rG<|bN (v:=.bool (x_x3.Op == 21)) r r r r r<|aS r r<|nI<|xS<|cD (c:=(x_x3.Op == 21)) r ?_ ?_
     ·refine bK<|sQ<|rG<|fA r r<|lO (v:=.int .i64 x_x3.B) (z:=.agg [.int .i64 x_x3.Op,.int .i64 x_x3.A,.int .i64 x_x3.B,.int .i64 x_x3.C,.int .u64 x_x3.Imm]) r r r r r r<|mV r r<|bN (v:=.int .i64 (IntKind.i64.wrap (k2 + 1))) r r r r r<|bN (v:=.bool (decide (x_x3.B < (IntKind.i64.wrap (k2 + 1))))) r r r r r<|aS r r<|nI<|xS<|cD (c:=(decide (x_x3.B < (IntKind.i64.wrap (k2 + 1))))) r ?_ ?_
      ·refine sQ<|rG<|fA r r<|lO (v:=.int .i64 x_x3.B) (z:=.agg [.int .i64 x_x3.Op,.int .i64 x_x3.A,.int .i64 x_x3.B,.int .i64 x_x3.C,.int .u64 x_x3.Imm]) r r r r r r<|mV r r<|bN (v:=.int .i64 (IntKind.i64.wrap (k2 + 1))) r r r r r<|bS ([x_x3.B,IntKind.i64.wrap (k2 + 1)] : List Int) Ed r r r (by simp) r r r<|aO (l:=([x_x3.B,IntKind.i64.wrap (k2 + 1)] : List Int)) (en:=Ed) r r r r<|nI<|xS<|rT<|bR<|bR<|xR<|My (b:=([x_x3.B,IntKind.i64.wrap (k2 + 1)] : List Int)) r ?_ r r ?_ r ?_ (congrArg D.sl (LX _ _ r)) r
       all_goals first|(simp;done)|(simp;omega)|rfl|(simp [Md,LZ];done)
      ·refine sQ<|rG<|fA r r<|lO (v:=.int .i64 x_x3.B) (z:=.agg [.int .i64 x_x3.Op,.int .i64 x_x3.A,.int .i64 x_x3.B,.int .i64 x_x3.C,.int .u64 x_x3.Imm]) r r r r r r<|mV r r<|bN (v:=.int .i64 (IntKind.i64.wrap (k2 + 1))) r r r r r<|bN (v:=.bool (decide (x_x3.B > (IntKind.i64.wrap (k2 + 1))))) r r r r r<|aS r r<|nI<|xS<|cD (c:=(decide (x_x3.B > (IntKind.i64.wrap (k2 + 1))))) r ?_ ?_
       ·refine sQ<|rG<|mV r r<|bN (v:=.int .i64 (IntKind.i64.wrap (k2 + 1))) r r r r r<|fA r r<|lO (v:=.int .i64 x_x3.B) (z:=.agg [.int .i64 x_x3.Op,.int .i64 x_x3.A,.int .i64 x_x3.B,.int .i64 x_x3.C,.int .u64 x_x3.Imm]) r r r r r r<|bS ([IntKind.i64.wrap (k2 + 1),x_x3.B] : List Int) Ed r r r (by simp) r r r<|aO (l:=([IntKind.i64.wrap (k2 + 1),x_x3.B] : List Int)) (en:=Ed) r r r r<|nI<|xS<|rT<|bR<|bR<|xR<|My (b:=([IntKind.i64.wrap (k2 + 1),x_x3.B] : List Int)) r ?_ r r ?_ r ?_ (congrArg D.sl (LX _ _ r)) r
        all_goals first|(simp;done)|(simp;omega)|rfl|(simp [Md,LZ];done)
       ·refine sK<|bM<|bM<|xS<|sQ<|rG<|mV r r<|bN (v:=.int .i64 (IntKind.i64.wrap (k2 + 1))) r r r r r<|bS ([IntKind.i64.wrap (k2 + 1)] : List Int) Ed r r r (by simp) r r r<|aO (l:=([IntKind.i64.wrap (k2 + 1)] : List Int)) (en:=Ed) r r r r<|nI<|xS<|rT<|My (b:=([IntKind.i64.wrap (k2 + 1)] : List Int)) r ?_ r r ?_ r ?_ (congrArg D.sl (LX _ _ r)) r
        all_goals first|(simp;done)|(simp;omega)|rfl|(simp [Md,LZ];done)
     ·refine sK<|bM<|xS<|sQ<|rG<|mV r r<|bN (v:=.int .i64 (IntKind.i64.wrap (k2 + 1))) r r r r r<|bS ([IntKind.i64.wrap (k2 + 1)] : List Int) Ed r r r (by simp) r r r<|aO (l:=([IntKind.i64.wrap (k2 + 1)] : List Int)) (en:=Ed) r r r r<|nI<|xS<|rT<|My (b:=([IntKind.i64.wrap (k2 + 1)] : List Int)) r ?_ r r ?_ r ?_ (congrArg D.sl (LX _ _ r)) r
      all_goals first|(simp;done)|(simp;omega)|rfl|(simp [Md,LZ];done)

def Acr : Mj:=(.seq (.reg [P 1 (.box (T 0) 5 66),P 2 (.asg (.c (.bool false)) none)] false) (.seq (.reg [P 3 (.fldA 0 (T 1)),P 4 (.ld 1 false (T 3)),P 5 (.bin .eql (T 4) (C 16)),M 6 5,⟨(some 7),(.fldA 0 (T 1)),(some ⟨6,false⟩),[]⟩,⟨(some 8),(.ld 1 false (T 7)),(some ⟨6,false⟩),[]⟩,⟨(some 9),(.bin .eql (T 8) (C 17)),(some ⟨6,false⟩),[]⟩,P 10 (.pick (T 6) (.c (.bool true)) (T 9)),P 2 (.asg (T 10) none)] false) .ret))
theorem Afe : (Tryd.f89.body.bind (Mm Tryd.prog Tryd.f89.ntmps)) = some Acr:=by kernel_rfl
theorem Aff : Tryd.f89.results.toList.mapM (MB Tryd.prog) = some [(.t 2)]:=by kernel_rfl
def QY (a : LS) : List D:=[LU a]
def QX (ds : List D) : LS:=Rz (ds.getD 0 .top)
theorem Uz (a : LS) : QX (QY a) = a:=by simp [QX,QY]
def Vl (b : Bool) : D:=.bool b
def Vk (_b : Bool) : List D:=[]
noncomputable def Sd : Dw.Spec:=Mk [] .ground QY QX (fun a=>Px a) Vl Vk
set_option maxHeartbeats 4000000 in
theorem Yg : Mi Tryd.prog 89 Sd:=by
 refine MA (Nh) Tryd.func89 (by decide) Afe Aff (np:=1) (by decide) Uz (fun _=>r) (fun _=>r) (by decide)<|?_
 intro x1
 show TrE (specs []) Acr (MD [] .ground [(.t 2)] Vl Vk) ⟨[(0,.agg [.int .i64 x1.Op,.int .i64 x1.A,.int .i64 x1.B,.int .i64 x1.C,.int .u64 x1.Imm])],[],262144⟩ (Px x1)
 refine Mu<|?_
 unfold Acr Px
 refine sQ<|rG<|bX r r r r r<|aS r r<|nI<|xS<|sQ<|rG<|fA r r<|lO (v:=.int .i64 x1.Op) (z:=.agg [.int .i64 x1.Op,.int .i64 x1.A,.int .i64 x1.B,.int .i64 x1.C,.int .u64 x1.Imm]) r r r r r r<|bN (v:=.bool (x1.Op == 16)) r r r r r<|mV r r<|sP 6 (b:=(x1.Op == 16)) r ?_ ?_
 ·refine oF r<|oF r<|oF r<|pT r r r r<|aS r r<|nI<|xS<|rT<|Mq (b:=true) r ?_ r r ?_ r
  all_goals first|(simp;done)|(simp;omega)|rfl|(simp [Md,LZ];done)
 ·refine fA r r<|lO (v:=.int .i64 x1.Op) (z:=.agg [.int .i64 x1.Op,.int .i64 x1.A,.int .i64 x1.B,.int .i64 x1.C,.int .u64 x1.Imm]) r r r r r r<|bN (v:=.bool (x1.Op == 17)) r r r r r<|pF r r r r<|aS r r<|nI<|xS<|rT<|Mq (b:=(x1.Op == 17)) r ?_ r r ?_ r
  all_goals first|(simp;done)|(simp;omega)|rfl|(simp [Md,LZ];done)

def Acg : Mj:=(.seq (.reg [P 1 (.box (T 0) 5 66),P 2 (.asg (C 0) none),P 3 (.asg (.c (.bool false)) none)] false) (.seq (.seq (.reg [P 4 (.ld 5 true (T 1)),P 5 (.call (.c (.clo 89 [])) [(T 4)])] false) (.cond (T 5) (.seq (.reg [P 6 (.fldA 1 (T 1)),P 7 (.ld 1 false (T 6)),P 2 (.asg (T 7) none),P 3 (.asg (.c (.bool true)) none)] false) .ret) .skip)) (.seq (.reg [P 2 (.asg (C 0) none),P 3 (.asg (.c (.bool false)) none)] false) .ret)))
theorem AeI : (Tryd.f62.body.bind (Mm Tryd.prog Tryd.f62.ntmps)) = some Acg:=by kernel_rfl
theorem AeJ : Tryd.f62.results.toList.mapM (MB Tryd.prog) = some [(.t 2),(.t 3)]:=by kernel_rfl
def Sc (a : LS) : List D:=[LU a]
def Sb (ds : List D) : LS:=Rz (ds.getD 0 .top)
theorem VM (a : LS) : Sb (Sc a) = a:=by simp [Sb,Sc]
def Wn (b : Int × Bool) : D:=.tup [.int .i64 b.1,.bool b.2]
def Wm (_b : Int × Bool) : List D:=[]
noncomputable def Tv : Dw.Spec:=Mk [] .ground Sc Sb (fun a=>Qy a) Wn Wm
set_option maxHeartbeats 4000000 in
theorem YZ : Mi Tryd.prog 62 Tv:=by
 refine MA (Mv (l:=[(89,Sd)]) (by simp [Yg])) Tryd.func62 (by decide) AeI AeJ (np:=1) (by decide) VM (fun _=>r) (fun _=>r) (by decide)<|?_
 intro x1
 show TrE (specs [(89,Sd)]) Acg (MD [] .ground [(.t 2),(.t 3)] Wn Wm) ⟨[(0,.agg [.int .i64 x1.Op,.int .i64 x1.A,.int .i64 x1.B,.int .i64 x1.C,.int .u64 x1.Imm])],[],262144⟩ (Qy x1)
 refine Mu<|?_
 unfold Acg Qy
 refine sQ<|rG<|bX r r r r r<|aS r r<|aS r r<|nI<|xS<|sQ<|sQ<|rG<|lO (v:=.agg [.int .i64 x1.Op,.int .i64 x1.A,.int .i64 x1.B,.int .i64 x1.C,.int .u64 x1.Imm]) (z:=.agg [.int .i64 x1.Op,.int .i64 x1.A,.int .i64 x1.B,.int .i64 x1.C,.int .u64 x1.Imm]) r r r r r r<|bD fun r2 hr2=>cG x1 r r r Uz r r (by simp) r hr2 r<|nI<|xS<|cD (c:=r2) r ?_ ?_
 ·refine sQ<|rG<|fA r r<|lO (v:=.int .i64 x1.A) (z:=.agg [.int .i64 x1.Op,.int .i64 x1.A,.int .i64 x1.B,.int .i64 x1.C,.int .u64 x1.Imm]) r r r r r r<|aS r r<|aS r r<|nI<|xS<|rT<|xR<|OQ (b:=(x1.A,true)) r ?_ r r ?_ r (by decide)
  all_goals first|(simp;done)|(simp;omega)|rfl|(simp [Md,LZ];done)
 ·refine sK<|xS<|sQ<|rG<|aS r r<|aS r r<|nI<|xS<|rT<|OQ (b:=(0,false)) r ?_ r r ?_ r (by decide)
  all_goals first|(simp;done)|(simp;omega)|rfl|(simp [Md,LZ];done)

def AbR : Mj:=(.seq (.reg [⟨(some 4),(.asg (.c .nils) (some ⟨1,3⟩)),none,[]⟩] false) (.seq (.reg [⟨(some 5),(.asg (.c .nils) (some ⟨1,3⟩)),none,[]⟩] false) (.seq (.seq (.reg [P 6 (.asg (C 0) none)] false) (.block 0 (.loop (.seq (.seq (.reg [M 7 6,M 8 0,P 9 (.len false (T 8)),P 10 (.bin .lss (T 7) (T 9))] false) (.cond (T 10) .skip (.exit 0))) (.seq (.block 1 (.seq (.reg [M 13 0,M 14 6,P 15 (.ixA 1 (T 13) (T 14)),P 16 (.ld 1 false (T 15)),M 17 1,P 18 (.bin .neq (T 16) (T 17))] false) (.cond (T 18) (.reg [M 19 5,M 20 0,M 21 6,P 22 (.ixA 1 (T 20) (T 21)),P 23 (.ld 1 false (T 22)),⟨(some 24),(.bldS 1 3 (.int .i64 0) 1 [⟨0,(T 23)⟩]),none,[]⟩,P 25 (.app 1 3 8 (T 19) (T 24)),⟨(some 5),(.asg (T 25) (some ⟨1,3⟩)),none,[]⟩] false) .skip))) (.reg [M 11 6,P 12 (.bin .add (T 11) (C 1)),P 6 (.asg (T 12) none)] false)))))) (.seq (.reg [M 26 5,⟨(some 4),(.asg (T 26) (some ⟨1,3⟩)),none,[]⟩] false) .ret))))
theorem Aee : (Tryd.f29.body.bind (Mm Tryd.prog Tryd.f29.ntmps)) = some AbR:=by kernel_rfl
theorem Aef : Tryd.f29.results.toList.mapM (MB Tryd.prog) = some [(.t 4)]:=by kernel_rfl
def SE (a : (List Int) × Int) : List D:=[.sl (a.1.map Ed),.int .i64 a.2]
def SD (ds : List D) : (List Int) × Int:=((uL uI) (ds.getD 0 .top),uI (ds.getD 1 .top))
theorem Wh (a : (List Int) × Int) : SD (SE a) = a:=by simp [SD,SE,uI,Oh (u:=uI) (en:=Ed) (fun _=>rfl)]
def WG (b : (List Int)) : D:=.sl (b.map Ed)
def WE (_b : (List Int)) : List D:=[]
noncomputable def TQ : Dw.Spec:=Mk [] (.row 1 3) SE SD (fun a=>Qa a.1 a.2) WG WE
set_option maxHeartbeats 4000000 in
theorem Zh : Mi Tryd.prog 29 TQ:=by
 refine MA (Nh) Tryd.func29 (by decide) Aee Aef (np:=2) (by decide) Wh (fun _=>r) (fun _=>r) (by decide)<|?_
 rintro ⟨s1,n2⟩
 show TrE (specs []) AbR (MD [] (.row 1 3) [(.t 4)] WG WE) ⟨[(0,.sl (s1.map Ed)),(1,.int .i64 n2)],[],262144⟩ (Qa s1 n2)
 refine Mu<|?_
 unfold AbR Qa
 refine sQ<|rG<|aN (α:=Int) r Ed r<|nI<|xS<|sQ<|rG<|aN (α:=Int) r Ed r<|nI<|xS<|sQ<|sQ<|rG<|aS r r<|nI<|xS<|bK<|lP (E:=fun (s : (List Int) × Int) (g : Nat)=>[(0,.sl (s1.map Ed)),(1,.int .i64 n2),(5,.osl 5 g 0 s.1.length),(6,.int .i64 s.2)]) (O:=fun s g=>[(5,some (g,⟨false,false,1,3,s.1.map Ed⟩))]) (body:=fun s=>NW s1 n2 s.1 s.2) (s:=(([] : List Int),0)) _ ((hE ⟨rfl,r,r,r,trivial⟩ ⟨rfl,trivial⟩))<|?_
 rintro ⟨out3,i4⟩ v5x1 nn
 try dsimp only
 unfold NW
 refine sQ<|sQ<|rG<|mV r r<|mV r r<|lS r r<|bN (v:=.bool (decide (i4 < (s1.length : Int)))) r r r r r<|nI<|xS<|cD (c:=(decide (i4 < (s1.length : Int)))) r ?_ ?_
 ·refine sK<|xS<|sQ<|bK<|sQ<|rG<|mV r r<|mV r r<|bD fun x_x5 hx_x5=>iS (en:=Ed) r r r hx_x5 r<|lF (v:=.int .i64 x_x5) r r r r<|mV r r<|bN (v:=.bool (x_x5 != n2)) r r r r r<|nI<|xS<|cD (c:=(x_x5 != n2)) r ?_ ?_
  ·exact rG<|mV r r<|mV r r<|mV r r<|bD fun x_x6 hx_x6=>iS (en:=Ed) r r r hx_x6 r<|lF (v:=.int .i64 x_x6) r r r r<|bS ([x_x6] : List Int) Ed r r r (by simp) r r r<|cK fun hq=>aP (out3) (([x_x6] : List Int)) Ed r r r r r r r (by simp) (Ml _ _ r) r r (by simp) (LX _ _ r) (fun _=>r) r hq<|aO (l:=out3 ++ ([x_x6] : List Int)) (en:=Ed) r r r r<|nI<|bM<|xS<|rG<|mV r r<|bN (v:=.int .i64 (IntKind.i64.wrap (i4 + 1))) r r r r r<|aS r r<|nI<|xL (s:=(out3 ++ ([x_x6] : List Int),IntKind.i64.wrap (i4 + 1))) _ ((hE ⟨rfl,r,r,r,trivial⟩ ⟨rfl,trivial⟩))
  ·exact sK<|bM<|xS<|rG<|mV r r<|bN (v:=.int .i64 (IntKind.i64.wrap (i4 + 1))) r r r r r<|aS r r<|nI<|xL (s:=(out3,IntKind.i64.wrap (i4 + 1))) _ ((hE ⟨rfl,r,r,r,trivial⟩ ⟨rfl,trivial⟩))
 ·refine eT<|xE<|lE<|bH<|xS<|sQ<|rG<|mV r r<|aO (l:=out3) (en:=Ed) r r r r<|nI<|xS<|rT<|My (b:=out3) r ?_ r r ?_ r ?_ (congrArg D.sl (LX _ _ r)) r
  all_goals first|(simp;done)|(simp;omega)|rfl|(simp [Md,LZ];done)

def Acf : Mj:=(.seq (.reg [P 1 (.box (T 0) 5 66),⟨(some 2),(.asg (.c .nils) (some ⟨1,3⟩)),none,[]⟩] false) (.seq (.seq (.reg [P 3 (.fldA 0 (T 1)),P 4 (.ld 1 false (T 3)),P 5 (.bin .eql (T 4) (C 15)),M 6 5,⟨(some 7),(.fldA 0 (T 1)),(some ⟨6,false⟩),[]⟩,⟨(some 8),(.ld 1 false (T 7)),(some ⟨6,false⟩),[]⟩,⟨(some 9),(.bin .eql (T 8) (C 17)),(some ⟨6,false⟩),[]⟩,P 10 (.pick (T 6) (.c (.bool true)) (T 9))] false) (.cond (T 10) (.seq (.reg [P 11 (.fldA 2 (T 1)),P 12 (.ld 1 false (T 11)),⟨(some 13),(.bldS 1 3 (.int .i64 0) 1 [⟨0,(T 12)⟩]),none,[]⟩,⟨(some 2),(.asg (T 13) (some ⟨1,3⟩)),none,[]⟩] false) .ret) .skip)) (.seq (.reg [⟨(some 2),(.asg (.c .nils) (some ⟨1,3⟩)),none,[]⟩] false) .ret)))
theorem AeG : (Tryd.f61.body.bind (Mm Tryd.prog Tryd.f61.ntmps)) = some Acf:=by kernel_rfl
theorem AeH : Tryd.f61.results.toList.mapM (MB Tryd.prog) = some [(.t 2)]:=by kernel_rfl
def Ua (a : LS) : List D:=[LU a]
def TZ (ds : List D) : LS:=Rz (ds.getD 0 .top)
theorem UR (a : LS) : TZ (Ua a) = a:=by simp [TZ,Ua]
def Yi (b : (List Int)) : D:=.sl (b.map Ed)
def Yh (_b : (List Int)) : List D:=[]
noncomputable def VP : Dw.Spec:=Mk [] (.row 1 3) Ua TZ (fun a=>Qt a) Yi Yh
set_option maxHeartbeats 4000000 in
theorem ZK : Mi Tryd.prog 61 VP:=by
 refine MA (Nh) Tryd.func61 (by decide) AeG AeH (np:=1) (by decide) UR (fun _=>r) (fun _=>r) (by decide)<|?_
 intro x1
 show TrE (specs []) Acf (MD [] (.row 1 3) [(.t 2)] Yi Yh) ⟨[(0,.agg [.int .i64 x1.Op,.int .i64 x1.A,.int .i64 x1.B,.int .i64 x1.C,.int .u64 x1.Imm])],[],262144⟩ (Qt x1)
 refine Mu<|?_
 unfold Acf Qt
 refine sQ<|rG<|bX r r r r r<|aN (α:=Int) r Ed r<|nI<|xS<|sQ<|sQ<|rG<|fA r r<|lO (v:=.int .i64 x1.Op) (z:=.agg [.int .i64 x1.Op,.int .i64 x1.A,.int .i64 x1.B,.int .i64 x1.C,.int .u64 x1.Imm]) r r r r r r<|bN (v:=.bool (x1.Op == 15)) r r r r r<|mV r r<|sP 6 (b:=(x1.Op == 15)) r ?_ ?_
 ·refine oF r<|oF r<|oF r<|pT r r r r<|nI<|xS<|Qg r<|sQ<|rG<|fA r r<|lO (v:=.int .i64 x1.B) (z:=.agg [.int .i64 x1.Op,.int .i64 x1.A,.int .i64 x1.B,.int .i64 x1.C,.int .u64 x1.Imm]) r r r r r r<|bS ([x1.B] : List Int) Ed r r r (by simp) r r r<|aO (l:=([x1.B] : List Int)) (en:=Ed) r r r r<|nI<|xS<|rT<|xR<|My (b:=([x1.B] : List Int)) r ?_ r r ?_ r ?_ (congrArg D.sl (LX _ _ r)) r
  all_goals first|(simp;done)|(simp;omega)|rfl|(simp [Md,LZ];done)
 ·refine fA r r<|lO (v:=.int .i64 x1.Op) (z:=.agg [.int .i64 x1.Op,.int .i64 x1.A,.int .i64 x1.B,.int .i64 x1.C,.int .u64 x1.Imm]) r r r r r r<|bN (v:=.bool (x1.Op == 17)) r r r r r<|pF r r r r<|nI<|xS<|cD (c:=(x1.Op == 17)) r ?_ ?_
  ·refine sQ<|rG<|fA r r<|lO (v:=.int .i64 x1.B) (z:=.agg [.int .i64 x1.Op,.int .i64 x1.A,.int .i64 x1.B,.int .i64 x1.C,.int .u64 x1.Imm]) r r r r r r<|bS ([x1.B] : List Int) Ed r r r (by simp) r r r<|aO (l:=([x1.B] : List Int)) (en:=Ed) r r r r<|nI<|xS<|rT<|xR<|My (b:=([x1.B] : List Int)) r ?_ r r ?_ r ?_ (congrArg D.sl (LX _ _ r)) r
   all_goals first|(simp;done)|(simp;omega)|rfl|(simp [Md,LZ];done)
  ·refine sK<|xS<|sQ<|rG<|aN (α:=Int) r Ed r<|nI<|xS<|rT<|My (b:=([] : List Int)) r ?_ r r ?_ r ?_ (congrArg D.sl (LX _ _ r)) r
   all_goals first|(simp;done)|(simp;omega)|rfl|(simp [Md,LZ];done)

def Acn : Mj:=(.seq (.reg [P 2 (.asg (.c (.bool false)) none)] false) (.seq (.reg [M 3 0,P 4 (.bin .geq (T 3) (C 0)),M 5 4,⟨(some 6),(.mv (T 0)),(some ⟨5,true⟩),[]⟩,⟨(some 7),(.bin .lss (T 6) (C 512)),(some ⟨5,true⟩),[]⟩,P 8 (.pick (T 5) (T 7) (.c (.bool false))),P 2 (.asg (T 8) none)] false) .ret))
theorem AeW : (Tryd.f80.body.bind (Mm Tryd.prog Tryd.f80.ntmps)) = some Acn:=by kernel_rfl
theorem AeX : Tryd.f80.results.toList.mapM (MB Tryd.prog) = some [(.t 2)]:=by kernel_rfl
def TV (a : Int) : List D:=[.int .i64 a]
def TU (ds : List D) : Int:=uI (ds.getD 0 .top)
theorem XH (a : Int) : TU (TV a) = a:=by simp [TU,TV,uI]
def Yd (b : Bool) : D:=.bool b
def Yc (_b : Bool) : List D:=[]
noncomputable def VK : Dw.Spec:=Mk [] .ground TV TU (fun a=>RG a) Yd Yc
set_option maxHeartbeats 4000000 in
theorem ZI : Mi Tryd.prog 80 VK:=by
 refine MA (Nh) Tryd.func80 (by decide) AeW AeX (np:=1) (by decide) XH (fun _=>r) (fun _=>r) (by decide)<|?_
 intro n1
 show TrE (specs []) Acn (MD [] .ground [(.t 2)] Yd Yc) ⟨[(0,.int .i64 n1)],[],262144⟩ (RG n1)
 refine Mu<|?_
 unfold Acn RG
 refine sQ<|rG<|aS r r<|nI<|xS<|sQ<|rG<|mV r r<|bN (v:=.bool (decide (n1 ≥ 0))) r r r r r<|mV r r<|sP 5 (b:=(decide (n1 ≥ 0))) r ?_ ?_
 ·refine mV r r<|bN (v:=.bool (decide (n1 < 512))) r r r r r<|pT r r r r<|aS r r<|nI<|xS<|rT<|Mq (b:=(decide (n1 < 512))) r ?_ r r ?_ r
  all_goals first|(simp;done)|(simp;omega)|rfl|(simp [Md,LZ];done)
 ·refine oF r<|oF r<|pF r r r r<|aS r r<|nI<|xS<|rT<|Mq (b:=false) r ?_ r r ?_ r
  all_goals first|(simp;done)|(simp;omega)|rfl|(simp [Md,LZ];done)

def AbW : Mj:=(.seq (.reg [⟨(some 4),(.asg (.c .nils) (some ⟨1,3⟩)),none,[]⟩] false) (.seq (.reg [⟨(some 5),(.asg (.c .nils) (some ⟨1,3⟩)),none,[]⟩] false) (.seq (.reg [M 8 1,P 9 (.call (.c (.clo 80 [])) [(T 8)]),P 10 (.un .not (T 9)),P 6 (.asg (T 10) none)] false) (.seq (.seq (.reg [P 7 (.asg (C 0) none)] false) (.block 0 (.loop (.seq (.seq (.reg [M 11 7,M 12 0,P 13 (.len false (T 12)),P 14 (.bin .lss (T 11) (T 13))] false) (.cond (T 14) .skip (.exit 0))) (.seq (.block 1 (.seq (.seq (.reg [M 17 6,P 18 (.un .not (T 17)),M 19 18,⟨(some 20),(.mv (T 0)),(some ⟨19,true⟩),[]⟩,⟨(some 21),(.mv (T 7)),(some ⟨19,true⟩),[]⟩,⟨(some 22),(.ixA 1 (T 20) (T 21)),(some ⟨19,true⟩),[]⟩,⟨(some 23),(.ld 1 false (T 22)),(some ⟨19,true⟩),[]⟩,⟨(some 24),(.mv (T 1)),(some ⟨19,true⟩),[]⟩,⟨(some 25),(.bin .geq (T 23) (T 24)),(some ⟨19,true⟩),[]⟩,P 26 (.pick (T 19) (T 25) (.c (.bool false)))] false) (.cond (T 26) (.seq (.seq (.reg [M 27 0,M 28 7,P 29 (.ixA 1 (T 27) (T 28)),P 30 (.ld 1 false (T 29)),M 31 1,P 32 (.bin .gtr (T 30) (T 31))] false) (.cond (T 32) (.reg [M 33 5,M 34 1,⟨(some 35),(.bldS 1 3 (.int .i64 0) 1 [⟨0,(T 34)⟩]),none,[]⟩,P 36 (.app 1 3 8 (T 33) (T 35)),⟨(some 5),(.asg (T 36) (some ⟨1,3⟩)),none,[]⟩] false) .skip)) (.reg [P 6 (.asg (.c (.bool true)) none)] false)) .skip)) (.reg [M 37 5,M 38 0,M 39 7,P 40 (.ixA 1 (T 38) (T 39)),P 41 (.ld 1 false (T 40)),⟨(some 42),(.bldS 1 3 (.int .i64 0) 1 [⟨0,(T 41)⟩]),none,[]⟩,P 43 (.app 1 3 8 (T 37) (T 42)),⟨(some 5),(.asg (T 43) (some ⟨1,3⟩)),none,[]⟩] false))) (.reg [M 15 7,P 16 (.bin .add (T 15) (C 1)),P 7 (.asg (T 16) none)] false)))))) (.seq (.seq (.reg [M 44 6,P 45 (.un .not (T 44))] false) (.cond (T 45) (.reg [M 46 5,M 47 1,⟨(some 48),(.bldS 1 3 (.int .i64 0) 1 [⟨0,(T 47)⟩]),none,[]⟩,P 49 (.app 1 3 8 (T 46) (T 48)),⟨(some 5),(.asg (T 49) (some ⟨1,3⟩)),none,[]⟩] false) .skip)) (.seq (.reg [M 50 5,⟨(some 4),(.asg (T 50) (some ⟨1,3⟩)),none,[]⟩] false) .ret))))))
theorem Aeo : (Tryd.f44.body.bind (Mm Tryd.prog Tryd.f44.ntmps)) = some AbW:=by kernel_rfl
theorem Aep : Tryd.f44.results.toList.mapM (MB Tryd.prog) = some [(.t 4)]:=by kernel_rfl
def Sq (a : (List Int) × Int) : List D:=[.sl (a.1.map Ed),.int .i64 a.2]
def UN (ds : List D) : (List Int) × Int:=((uL uI) (ds.getD 0 .top),uI (ds.getD 1 .top))
theorem VH (a : (List Int) × Int) : UN (Sq a) = a:=by simp [UN,Sq,uI,Oh (u:=uI) (en:=Ed) (fun _=>rfl)]
def YN (b : (List Int)) : D:=.sl (b.map Ed)
def YM (_b : (List Int)) : List D:=[]
noncomputable def Sg : Dw.Spec:=Mk [] (.row 1 3) Sq UN (fun a=>Qk a.1 a.2) YN YM
set_option maxHeartbeats 4000000 in
theorem XY : Mi Tryd.prog 44 Sg:=by
 refine MA (Mv (l:=[(80,VK)]) (by simp [ZI])) Tryd.func44 (by decide) Aeo Aep (np:=2) (by decide) VH (fun _=>r) (fun _=>r) (by decide)<|?_
 rintro ⟨s1,n2⟩
 show TrE (specs [(80,VK)]) AbW (MD [] (.row 1 3) [(.t 4)] YN YM) ⟨[(0,.sl (s1.map Ed)),(1,.int .i64 n2)],[],262144⟩ (Qk s1 n2)
 refine Mu<|?_
 unfold AbW Qk
 refine sQ<|rG<|aN (α:=Int) r Ed r<|nI<|xS<|sQ<|rG<|aN (α:=Int) r Ed r<|nI<|xS<|sQ<|rG<|mV r r<|bD fun r3 hr3=>cG n2 r r r XH r r (by simp) r hr3 r<|uN (w:=.bool (!r3)) r r r r trivial<|aS r r<|nI<|xS<|sQ<|sQ<|rG<|aS r r<|nI<|xS<|bK<|lP (E:=fun (s : (List Int) × Bool × Int) (g : Nat)=>[(0,.sl (s1.map Ed)),(1,.int .i64 n2),(5,.osl 5 g 0 s.1.length),(6,.bool s.2.1),(7,.int .i64 s.2.2)]) (O:=fun s g=>[(5,some (g,⟨false,false,1,3,s.1.map Ed⟩))]) (body:=fun s=>Ns s1 n2 s.1 s.2.1 s.2.2) (s:=(([] : List Int),(!r3),0)) _ ((hE ⟨rfl,r,r,r,r,trivial⟩ ⟨rfl,trivial⟩))<|?_
 rintro ⟨out4,done5,i6⟩ v5x1 nn
 try dsimp only
 unfold Ns
 refine sQ<|sQ<|rG<|mV r r<|mV r r<|lS r r<|bN (v:=.bool (decide (i6 < (s1.length : Int)))) r r r r r<|nI<|xS<|cD (c:=(decide (i6 < (s1.length : Int)))) r ?_ ?_
 ·refine sK<|xS<|sQ<|bK<|sC (E:=fun (s : (List Int) × Bool) (g : Nat)=>[(0,.sl (s1.map Ed)),(1,.int .i64 n2),(5,.osl 5 g 0 s.1.length),(6,.bool s.2),(7,.int .i64 i6)]) (O:=fun s g=>[(5,some (g,⟨false,false,1,3,s.1.map Ed⟩))]) (j:=fun s=>NV s1 i6 s.1 s.2) ?_ ?_
  ·refine sC (E:=fun (s : Bool) (g : Nat)=>[(0,.sl (s1.map Ed)),(1,.int .i64 n2),(5,.osl 5 g 0 out4.length),(6,.bool done5),(7,.int .i64 i6),(26,.bool s)]) (O:=fun s g=>[(5,some (g,⟨false,false,1,3,out4.map Ed⟩))]) (j:=fun s=>Ot s1 i6 n2 out4 done5 s) ?_ ?_
   ·refine rG<|mV r r<|uN (w:=.bool (!done5)) r r r r trivial<|mV r r<|sP 19 (b:=(!done5)) r ?_ ?_
    ·exact mV r r<|mV r r<|bD fun x_x10 hx_x10=>iS (en:=Ed) r r r hx_x10 r<|lF (v:=.int .i64 x_x10) r r r r<|mV r r<|bN (v:=.bool (decide (x_x10 ≥ n2))) r r r r r<|pT r r r r<|nI<|xC (s:=(decide (x_x10 ≥ n2))) _ ((hE ⟨rfl,r,r,r,r,r,trivial⟩ ⟨rfl,trivial⟩))
    ·exact oF r<|oF r<|oF r<|oF r<|oF r<|oF r<|pF r r r r<|nI<|xC (s:=false) _ ((hE ⟨rfl,r,r,r,r,r,trivial⟩ ⟨rfl,trivial⟩))
   ·rintro x9 v5x2 nn
    try dsimp only
    unfold Ot
    refine cD (c:=x9) r ?_ ?_
    ·refine sQ<|sQ<|rG<|mV r r<|mV r r<|bD fun x_x11 hx_x11=>iS (en:=Ed) r r r hx_x11 r<|lF (v:=.int .i64 x_x11) r r r r<|mV r r<|bN (v:=.bool (decide (x_x11 > n2))) r r r r r<|nI<|xS<|cD (c:=(decide (x_x11 > n2))) r ?_ ?_
     ·exact rG<|mV r r<|mV r r<|bS ([n2] : List Int) Ed r r r (by simp) r r r<|cK fun hq=>aP (out4) (([n2] : List Int)) Ed r r r r r r r (by simp) (Ml _ _ r) r r (by simp) (LX _ _ r) (fun _=>r) r hq<|aO (l:=out4 ++ ([n2] : List Int)) (en:=Ed) r r r r<|nI<|xS<|rG<|aS r r<|nI<|xC (s:=(out4 ++ ([n2] : List Int),true)) _ ((hE ⟨rfl,r,r,r,r,trivial⟩ ⟨rfl,trivial⟩))
     ·exact sK<|xS<|rG<|aS r r<|nI<|xC (s:=(out4,true)) _ ((hE ⟨rfl,r,r,r,r,trivial⟩ ⟨rfl,trivial⟩))
    ·exact sK<|xC (s:=(out4,done5)) _ ((hE ⟨rfl,r,r,r,r,trivial⟩ ⟨rfl,trivial⟩))
  ·rintro ⟨out7,done8⟩ v5x3 nn
   try dsimp only
   unfold NV
   exact rG<|mV r r<|mV r r<|mV r r<|bD fun x_x12 hx_x12=>iS (en:=Ed) r r r hx_x12 r<|lF (v:=.int .i64 x_x12) r r r r<|bS ([x_x12] : List Int) Ed r r r (by simp) r r r<|cK fun hq=>aP (out7) (([x_x12] : List Int)) Ed r r r r r r r (by simp) (Ml _ _ r) r r (by simp) (LX _ _ r) (fun _=>r) r hq<|aO (l:=out7 ++ ([x_x12] : List Int)) (en:=Ed) r r r r<|nI<|bM<|xS<|rG<|mV r r<|bN (v:=.int .i64 (IntKind.i64.wrap (i6 + 1))) r r r r r<|aS r r<|nI<|xL (s:=(out7 ++ ([x_x12] : List Int),done8,IntKind.i64.wrap (i6 + 1))) _ ((hE ⟨rfl,r,r,r,r,trivial⟩ ⟨rfl,trivial⟩))
 ·refine eT<|xE<|lE<|bH<|xS<|sQ<|sQ<|rG<|mV r r<|uN (w:=.bool (!done5)) r r r r trivial<|nI<|xS<|cD (c:=(!done5)) r ?_ ?_
  ·refine rG<|mV r r<|mV r r<|bS ([n2] : List Int) Ed r r r (by simp) r r r<|cK fun hq=>aP (out4) (([n2] : List Int)) Ed r r r r r r r (by simp) (Ml _ _ r) r r (by simp) (LX _ _ r) (fun _=>r) r hq<|aO (l:=out4 ++ ([n2] : List Int)) (en:=Ed) r r r r<|nI<|xS<|sQ<|rG<|mV r r<|aO (l:=out4 ++ ([n2] : List Int)) (en:=Ed) r r r r<|nI<|xS<|rT<|My (b:=out4 ++ ([n2] : List Int)) r ?_ r r ?_ r ?_ (congrArg D.sl (LX _ _ r)) r
   all_goals first|(simp;done)|(simp;omega)|rfl|(simp [Md,LZ];done)
  ·refine sK<|xS<|sQ<|rG<|mV r r<|aO (l:=out4) (en:=Ed) r r r r<|nI<|xS<|rT<|My (b:=out4) r ?_ r r ?_ r ?_ (congrArg D.sl (LX _ _ r)) r
   all_goals first|(simp;done)|(simp;omega)|rfl|(simp [Md,LZ];done)

def AbQ : Mj:=(.seq (.reg [⟨(some 4),(.asg (.c .nils) (some ⟨1,3⟩)),none,[]⟩] false) (.seq (.reg [M 7 0,P 8 (.app 1 3 8 (.c .nils) (T 7)),⟨(some 5),(.asg (T 8) (some ⟨1,3⟩)),none,[]⟩] false) (.seq (.seq (.reg [P 6 (.asg (C 0) none)] false) (.block 0 (.loop (.seq (.seq (.reg [M 9 6,M 10 1,P 11 (.len false (T 10)),P 12 (.bin .lss (T 9) (T 11))] false) (.cond (T 12) .skip (.exit 0))) (.seq (.block 1 (.reg [M 15 5,M 16 1,M 17 6,P 18 (.ixA 1 (T 16) (T 17)),P 19 (.ld 1 false (T 18)),P 20 (.call (.c (.clo 44 [])) [(T 15),(T 19)]),⟨(some 5),(.asg (T 20) (some ⟨1,3⟩)),none,[]⟩] false)) (.reg [M 13 6,P 14 (.bin .add (T 13) (C 1)),P 6 (.asg (T 14) none)] false)))))) (.seq (.reg [M 21 5,⟨(some 4),(.asg (T 21) (some ⟨1,3⟩)),none,[]⟩] false) .ret))))
theorem Aec : (Tryd.f27.body.bind (Mm Tryd.prog Tryd.f27.ntmps)) = some AbQ:=by kernel_rfl
theorem Aed : Tryd.f27.results.toList.mapM (MB Tryd.prog) = some [(.t 4)]:=by kernel_rfl
def OA (a : (List Int) × (List Int)) : List D:=[.sl (a.1.map Ed),.sl (a.2.map Ed)]
def Tu (ds : List D) : (List Int) × (List Int):=((uL uI) (ds.getD 0 .top),(uL uI) (ds.getD 1 .top))
theorem RF (a : (List Int) × (List Int)) : Tu (OA a) = a:=by simp [Tu,OA,Oh (u:=uI) (en:=Ed) (fun _=>rfl)]
def XG (b : (List Int)) : D:=.sl (b.map Ed)
def XF (_b : (List Int)) : List D:=[]
noncomputable def Qx : Dw.Spec:=Mk [] (.row 1 3) OA Tu (fun a=>OM a.1 a.2) XG XF
set_option maxHeartbeats 4000000 in
theorem WH : Mi Tryd.prog 27 Qx:=by
 refine MA (Mv (l:=[(44,Sg)]) (by simp [XY])) Tryd.func27 (by decide) Aec Aed (np:=2) (by decide) RF (fun _=>r) (fun _=>r) (by decide)<|?_
 rintro ⟨a1,b2⟩
 show TrE (specs [(44,Sg)]) AbQ (MD [] (.row 1 3) [(.t 4)] XG XF) ⟨[(0,.sl (a1.map Ed)),(1,.sl (b2.map Ed))],[],262144⟩ (OM a1 b2)
 refine Mu<|?_
 unfold AbQ OM
 refine sQ<|rG<|aN (α:=Int) r Ed r<|nI<|xS<|sQ<|rG<|mV r r<|cK fun hq=>aP (([] : List Int)) (a1) Ed r r r r r r r (by simp) r r r (by simp) r (fun _=>r) r hq<|aO (l:=([] : List Int) ++ a1) (en:=Ed) r r r r<|nI<|xS<|sQ<|sQ<|rG<|aS r r<|nI<|xS<|bK<|lP (E:=fun (s : (List Int) × Int) (g : Nat)=>[(1,.sl (b2.map Ed)),(5,.osl 5 g 0 s.1.length),(6,.int .i64 s.2)]) (O:=fun s g=>[(5,some (g,⟨false,false,1,3,s.1.map Ed⟩))]) (body:=fun s=>OP b2 s.1 s.2) (s:=(([] : List Int) ++ a1,0)) _ ((hE ⟨rfl,r,r,trivial⟩ ⟨rfl,trivial⟩))<|?_
 rintro ⟨out3,i4⟩ v5x1 nn
 try dsimp only
 unfold OP
 refine sQ<|sQ<|rG<|mV r r<|mV r r<|lS r r<|bN (v:=.bool (decide (i4 < (b2.length : Int)))) r r r r r<|nI<|xS<|cD (c:=(decide (i4 < (b2.length : Int)))) r ?_ ?_
 ·exact sK<|xS<|sQ<|bK<|rG<|mV r r<|mV r r<|mV r r<|bD fun x_x5 hx_x5=>iS (en:=Ed) r r r hx_x5 r<|lF (v:=.int .i64 x_x5) r r r r<|bD fun r6 hr6=>cR (l:=r6) (en:=Ed) (out3,x_x5) r r r VH r r (by simp) (by first | rfl | (simp only [Mf]; rfl) | (simp only [Mh]; rfl) | (simp only [Mf,Mh]; rfl) | simp [Sq]) hr6 r<|aO (l:=r6) (en:=Ed) r r r r<|nI<|bM<|xS<|rG<|mV r r<|bN (v:=.int .i64 (IntKind.i64.wrap (i4 + 1))) r r r r r<|aS r r<|nI<|xL (s:=(r6,IntKind.i64.wrap (i4 + 1))) _ ((hE ⟨rfl,r,r,trivial⟩ ⟨rfl,trivial⟩))
 ·refine eT<|xE<|lE<|bH<|xS<|sQ<|rG<|mV r r<|aO (l:=out3) (en:=Ed) r r r r<|nI<|xS<|rT<|My (b:=out3) r ?_ r r ?_ r ?_ (congrArg D.sl (LX _ _ r)) r
  all_goals first|(simp;done)|(simp;omega)|rfl|(simp [Md,LZ];done)

def Acl : Mj:=(.seq (.reg [P 2 (.box (T 0) 5 66),⟨(some 4),(.asg (.c .nils) (some ⟨1,3⟩)),none,[]⟩] false) (.seq (.seq (.reg [P 8 (.ld 5 true (T 2)),P 9 (.call (.c (.clo 62 [])) [(T 8)]),M 7 9,P 10 (.ext (T 7) 0),P 11 (.ext (T 7) 1),P 5 (.asg (T 10) none),P 6 (.asg (T 11) none)] false) (.seq (.reg [M 12 6] false) (.cond (T 12) (.reg [M 13 1,M 14 5,P 15 (.call (.c (.clo 29 [])) [(T 13),(T 14)]),⟨(some 1),(.asg (T 15) (some ⟨1,3⟩)),none,[]⟩] false) .skip))) (.seq (.reg [M 16 1,P 17 (.ld 5 true (T 2)),P 18 (.call (.c (.clo 61 [])) [(T 17)]),P 19 (.call (.c (.clo 27 [])) [(T 16),(T 18)]),⟨(some 4),(.asg (T 19) (some ⟨1,3⟩)),none,[]⟩] false) .ret)))
theorem AeS : (Tryd.f75.body.bind (Mm Tryd.prog Tryd.f75.ntmps)) = some Acl:=by kernel_rfl
theorem AeT : Tryd.f75.results.toList.mapM (MB Tryd.prog) = some [(.t 4)]:=by kernel_rfl
def VO (a : LS × (List Int)) : List D:=[LU a.1,.sl (a.2.map Ed)]
def VN (ds : List D) : LS × (List Int):=(Rz (ds.getD 0 .top),(uL uI) (ds.getD 1 .top))
theorem YQ (a : LS × (List Int)) : VN (VO a) = a:=by simp [VN,VO,Oh (u:=uI) (en:=Ed) (fun _=>rfl)]
def Zk (b : (List Int)) : D:=.sl (b.map Ed)
def Zj (_b : (List Int)) : List D:=[]
noncomputable def Xq : Dw.Spec:=Mk [] (.row 1 3) VO VN (fun a=>TY a.1 a.2) Zk Zj
set_option maxHeartbeats 4000000 in
theorem Aaz : Mi Tryd.prog 75 Xq:=by
 refine MA (Mv (l:=[(62,Tv),(29,TQ),(61,VP),(27,Qx)]) (by simp [YZ,Zh,ZK,WH])) Tryd.func75 (by decide) AeS AeT (np:=2) (by decide) YQ (fun _=>r) (fun _=>r) (by decide)<|?_
 rintro ⟨x1,out2⟩
 show TrE (specs [(62,Tv),(29,TQ),(61,VP),(27,Qx)]) Acl (MD [] (.row 1 3) [(.t 4)] Zk Zj) ⟨[(0,.agg [.int .i64 x1.Op,.int .i64 x1.A,.int .i64 x1.B,.int .i64 x1.C,.int .u64 x1.Imm]),(1,.sl (out2.map Ed))],[],262144⟩ (TY x1 out2)
 refine Mu<|?_
 unfold Acl TY
 refine sQ<|rG<|bX r r r r r<|aN (α:=Int) r Ed r<|nI<|xS<|sQ<|sQ<|rG<|lO (v:=.agg [.int .i64 x1.Op,.int .i64 x1.A,.int .i64 x1.B,.int .i64 x1.C,.int .u64 x1.Imm]) (z:=.agg [.int .i64 x1.Op,.int .i64 x1.A,.int .i64 x1.B,.int .i64 x1.C,.int .u64 x1.Imm]) r r r r r r<|bD fun r3 hr3=>cG x1 r r r VM r r (by simp) r hr3 r<|mV r r<|eX (v:=.int .i64 r3.1) r r r<|eX (v:=.bool r3.2) r r r<|aS r r<|aS r r<|nI<|xS<|sQ<|rG<|mV r r<|nI<|xS<|cD (c:=r3.2) r ?_ ?_
 ·refine rG<|mV r r<|mV r r<|bD fun r4 hr4=>cR (l:=r4) (en:=Ed) (out2,r3.1) r r r Wh r r (by simp) r hr4 r<|aO (l:=r4) (en:=Ed) r r r r<|nI<|xS<|sQ<|rG<|mV r r<|lO (v:=.agg [.int .i64 x1.Op,.int .i64 x1.A,.int .i64 x1.B,.int .i64 x1.C,.int .u64 x1.Imm]) (z:=.agg [.int .i64 x1.Op,.int .i64 x1.A,.int .i64 x1.B,.int .i64 x1.C,.int .u64 x1.Imm]) r r r r r r<|bD fun r5 hr5=>cR (l:=r5) (en:=Ed) x1 r r r UR r r (by simp) r hr5 r<|bD fun r6 hr6=>cR (l:=r6) (en:=Ed) (r4,r5) r r r RF r r (by simp) (by first | rfl | (simp only [Mf]; rfl) | (simp only [Mh]; rfl) | (simp only [Mf,Mh]; rfl) | simp [OA]) hr6 r<|aO (l:=r6) (en:=Ed) r r r r<|nI<|xS<|rT<|My (b:=r6) r ?_ r r ?_ r ?_ (congrArg D.sl (LX _ _ r)) r
  all_goals first|(simp;done)|(simp;omega)|rfl|(simp [Md,LZ];done)
 ·refine sK<|xS<|sQ<|rG<|mV r r<|lO (v:=.agg [.int .i64 x1.Op,.int .i64 x1.A,.int .i64 x1.B,.int .i64 x1.C,.int .u64 x1.Imm]) (z:=.agg [.int .i64 x1.Op,.int .i64 x1.A,.int .i64 x1.B,.int .i64 x1.C,.int .u64 x1.Imm]) r r r r r r<|bD fun r7 hr7=>cR (l:=r7) (en:=Ed) x1 r r r UR r r (by simp) r hr7 r<|bD fun r8 hr8=>cR (l:=r8) (en:=Ed) (out2,r7) r r r RF r r (by simp) (by first | rfl | (simp only [Mf]; rfl) | (simp only [Mh]; rfl) | (simp only [Mf,Mh]; rfl) | simp [OA]) hr8 r<|aO (l:=r8) (en:=Ed) r r r r<|nI<|xS<|rT<|My (b:=r8) r ?_ r r ?_ r ?_ (congrArg D.sl (LX _ _ r)) r
  all_goals first|(simp;done)|(simp;omega)|rfl|(simp [Md,LZ];done)

def AbV : Mj:=(.seq (.reg [P 2 (.box (T 0) 3 27),P 3 (.box (T 1) 1 30),P 4 (.new (.agg [.nils]) 1 30)] false) (.seq (.reg [P 10 (.fldA 2 (T 2)),P 11 (.ld 1 false (T 10)),P 12 (.len false (T 11)),P 13 (.mkS 1 36 24 .nils (T 12) (T 12)),⟨(some 14),(.bld [.nils] [⟨0,⟨1,(T 13)⟩⟩]),none,[]⟩,P 5 (.new (.agg [.nils]) 1 30),⟨none,(.st 1 (T 5) (T 14)),none,[]⟩] false) (.seq (.seq (.reg [P 6 (.asg (C 0) none)] false) (.block 0 (.loop (.seq (.seq (.reg [M 15 6,P 16 (.fldA 2 (T 2)),P 17 (.ld 1 false (T 16)),P 18 (.len false (T 17)),P 19 (.bin .lss (T 15) (T 18))] false) (.cond (T 19) .skip (.exit 0))) (.seq (.block 1 (.seq (.reg [P 22 (.ld 3 true (T 2)),M 23 6,P 24 (.call (.c (.clo 60 [])) [(T 22),(T 23)]),⟨(some 7),(.asg (T 24) (some ⟨1,3⟩)),none,[]⟩] false) (.seq (.reg [P 8 (.asg (C 0) none)] false) (.block 2 (.loop (.seq (.seq (.reg [M 25 8,M 26 7,P 27 (.len false (T 26)),P 28 (.bin .lss (T 25) (T 27))] false) (.cond (T 28) .skip (.exit 2))) (.seq (.block 3 (.seq (.reg [M 31 7,M 32 8,P 33 (.ixA 1 (T 31) (T 32)),P 34 (.ld 1 false (T 33)),P 9 (.asg (T 34) none)] false) (.reg [P 35 (.fldA 0 (T 5)),⟨(some 36),(.ld 1 false (T 35)),none,[0]⟩,M 37 6,P 38 (.fldA 0 (T 5)),⟨(some 39),(.ld 1 false (T 38)),none,[3]⟩,M 40 6,⟨(some 41),(.ixA 1 (T 39) (T 40)),none,[4,5]⟩,⟨(some 42),(.ld 1 false (T 41)),none,[6]⟩,P 43 (.fldA 2 (T 2)),⟨(some 44),(.ld 1 false (T 43)),none,[8]⟩,M 45 9,⟨(some 46),(.ixA 5 (T 44) (T 45)),none,[9,10]⟩,⟨(some 47),(.ld 5 true (T 46)),none,[11]⟩,P 48 (.fldA 0 (T 3)),⟨(some 49),(.ld 1 false (T 48)),none,[13]⟩,M 50 9,⟨(some 51),(.ixA 1 (T 49) (T 50)),none,[14,15]⟩,⟨(some 52),(.ld 1 false (T 51)),none,[16]⟩,⟨(some 53),(.call (.c (.clo 75 [])) [(T 47),(T 52)]),none,[12,17]⟩,⟨(some 54),(.call (.c (.clo 27 [])) [(T 42),(T 53)]),none,[7,18,18]⟩,⟨(some 55),(.ixA 1 (T 36) (T 37)),none,[1,2,0,1,2,3,4,5,6,7,8,9,10,11,12,13,14,15,16,17,18,19]⟩,⟨none,(.st 1 (T 55) (T 54)),none,[20,19,19,0,1,2,3,4,5,6,7,8,9,10,11,12,13,14,15,16,17,18,19]⟩] true))) (.reg [M 29 8,P 30 (.bin .add (T 29) (C 1)),P 8 (.asg (T 30) none)] false)))))))) (.reg [M 20 6,P 21 (.bin .add (T 20) (C 1)),P 6 (.asg (T 21) none)] false)))))) (.seq (.reg [P 56 (.ld 1 true (T 5)),⟨none,(.st 1 (T 4) (T 56)),none,[]⟩] false) .ret))))
theorem Aem : (Tryd.f38.body.bind (Mm Tryd.prog Tryd.f38.ntmps)) = some AbV:=by kernel_rfl
theorem Aen : Tryd.f38.results.toList.mapM (MB Tryd.prog) = some [(.c 4 1 true)]:=by kernel_rfl
def Ue (a : LW × Mg) : List D:=[MN a.1,OL a.2]
def Ud (ds : List D) : LW × Mg:=(Qu (ds.getD 0 .top),Xu (ds.getD 1 .top))
theorem XM (a : LW × Mg) : Ud (Ue a) = a:=by simp [Ud,Ue]
def VQ (b : Mg) : D:=OL b
def Yl (_b : Mg) : List D:=[]
noncomputable def VR : Dw.Spec:=Mk [] .val Ue Ud (fun a=>RJ a.1 a.2) VQ Yl
set_option maxHeartbeats 4000000 in
theorem ZL : Mi Tryd.prog 38 VR:=by
 refine MA (Mv (l:=[(60,VL),(75,Xq),(27,Qx)]) (by simp [ZJ,Aaz,WH])) Tryd.func38 (by decide) Aem Aen (np:=2) (by decide) XM (fun _=>r) (fun _=>r) (by decide)<|?_
 rintro ⟨f1,l2⟩
 show TrE (specs [(60,VL),(75,Xq),(27,Qx)]) AbV (MD [] .val [(.c 4 1 true)] VQ Yl) ⟨[(0,.agg [.int .i64 f1.Params,.sl (f1.Slots.map LY),.sl (f1.Code.map LU)]),(1,.agg [.sl (l2.Out.map (eL Ed))])],[],262144⟩ (RJ f1 l2)
 refine Mu<|?_
 unfold AbV RJ
 refine sQ<|rG<|bX r r r r r<|bX r r r r r<|nW r<|nI<|xS<|sQ<|rG<|fA r r<|lO (v:=.sl (f1.Code.map LU)) (z:=.agg [.int .i64 f1.Params,.sl (f1.Slots.map LY),.sl (f1.Code.map LU)]) r r r r r r<|lS r r<|cK fun hq=>Sn (α:=Int) r r r hq r<|bL (cs:=[.osl 13 _ 0 ((List.replicate (f1.Code.length : Int).toNat ([] : (List Int))).length)]) (ps:=[(0,1,.osl 13 _ 0 ((List.replicate (f1.Code.length : Int).toNat ([] : (List Int))).length))]) r r r r<|nW r<|sV (z':=.agg [.osl 13 _ 0 ((List.replicate (f1.Code.length : Int).toNat ([] : (List Int))).length)]) r r r r r r r r r<|nI<|PK (E:=[(2,.optr 2 _ 0 0),(3,.optr 3 _ 0 0),(4,.optr 4 _ 0 0),(5,.optr 5 _ 0 0)]) (O:=[(2,some (_,⟨false,true,3,27,[.agg [.int .i64 f1.Params,.sl (f1.Slots.map LY),.sl (f1.Code.map LU)]]⟩)),(3,some (_,⟨false,true,1,30,[.agg [.sl (l2.Out.map (eL Ed))]]⟩)),(4,some (_,⟨false,true,1,30,[.agg [.nils]]⟩)),(5,some (_,⟨false,true,1,30,[.agg [.osl 13 _ 0 ((List.replicate (f1.Code.length : Int).toNat ([] : (List Int))).length)]]⟩)),(13,some (_,⟨false,false,1,36,(List.replicate (f1.Code.length : Int).toNat ([] : (List Int))).map (eL Ed)⟩))]) ((Wf (g:=13) r (Xp (l:=List.replicate (f1.Code.length : Int).toNat ([] : (List Int))) Ed (fun _ h=>List.eq_of_mem_replicate h)) (hE ⟨rfl,r,r,r,trivial⟩ ⟨rfl,r,r,r,r,trivial⟩))) fun nn=>sQ<|sQ<|rG<|aS r r<|nI<|xS<|bK<|lP (E:=fun (s : (List (List Int)) × Int) (g : Nat × Nat × Nat × Nat × Nat)=>[(2,.optr 2 g.1 0 0),(3,.optr 3 g.2.1 0 0),(4,.optr 4 g.2.2.1 0 0),(5,.optr 5 g.2.2.2.1 0 0),(6,.int .i64 s.2)]) (O:=fun s g=>[(2,some (g.1,⟨false,true,3,27,[.agg [.int .i64 f1.Params,.sl (f1.Slots.map LY),.sl (f1.Code.map LU)]]⟩)),(3,some (g.2.1,⟨false,true,1,30,[.agg [.sl (l2.Out.map (eL Ed))]]⟩)),(4,some (g.2.2.1,⟨false,true,1,30,[.agg [.nils]]⟩)),(5,some (g.2.2.2.1,⟨false,true,1,30,[.agg [.osl 13 g.2.2.2.2 0 s.1.length]]⟩)),(13,some (g.2.2.2.2,⟨false,false,1,36,s.1.map (eL Ed)⟩))]) (body:=fun s=>Pm f1 l2 s.1 s.2) (s:=(List.replicate (f1.Code.length : Int).toNat ([] : (List Int)),0)) (_,_,_,_,_) ((hE ⟨rfl,r,r,r,r,trivial⟩ ⟨rfl,r,r,r,r,trivial⟩))<|?_
 rintro ⟨x3,k4⟩ ⟨v2x1,v3x1,v4x1,v5x1,v13x1⟩ nn
 try dsimp only
 unfold Pm
 refine sQ<|sQ<|rG<|mV r r<|fA r r<|lO (v:=.sl (f1.Code.map LU)) (z:=.agg [.int .i64 f1.Params,.sl (f1.Slots.map LY),.sl (f1.Code.map LU)]) r r r r r r<|lS r r<|bN (v:=.bool (decide (k4 < (f1.Code.length : Int)))) r r r r r<|nI<|xS<|cD (c:=(decide (k4 < (f1.Code.length : Int)))) r ?_ ?_
 ·refine sK<|xS<|bC (E:=fun (s : (List (List Int))) (g : Nat × Nat × Nat × Nat × Nat)=>[(2,.optr 2 g.1 0 0),(3,.optr 3 g.2.1 0 0),(4,.optr 4 g.2.2.1 0 0),(5,.optr 5 g.2.2.2.1 0 0),(6,.int .i64 k4)]) (O:=fun s g=>[(2,some (g.1,⟨false,true,3,27,[.agg [.int .i64 f1.Params,.sl (f1.Slots.map LY),.sl (f1.Code.map LU)]]⟩)),(3,some (g.2.1,⟨false,true,1,30,[.agg [.sl (l2.Out.map (eL Ed))]]⟩)),(4,some (g.2.2.1,⟨false,true,1,30,[.agg [.nils]]⟩)),(5,some (g.2.2.2.1,⟨false,true,1,30,[.agg [.osl 13 g.2.2.2.2 0 s.length]]⟩)),(13,some (g.2.2.2.2,⟨false,false,1,36,s.map (eL Ed)⟩))]) (j:=fun s=>Su k4 s) ?_ ?_
  ·refine sQ<|rG<|lO (v:=.agg [.int .i64 f1.Params,.sl (f1.Slots.map LY),.sl (f1.Code.map LU)]) (z:=.agg [.int .i64 f1.Params,.sl (f1.Slots.map LY),.sl (f1.Code.map LU)]) r r r r r r<|mV r r<|bD fun r6 hr6=>cR (l:=r6) (en:=Ed) (f1,k4) r r r XI r r (by simp) r hr6 r<|aO (l:=r6) (en:=Ed) r r r r<|nI<|xS<|sQ<|rG<|aS r r<|nI<|xS<|bK<|lP (E:=fun (s : (List (List Int)) × Int) (g : Nat × Nat × Nat × Nat × Nat × Nat)=>[(2,.optr 2 g.1 0 0),(3,.optr 3 g.2.1 0 0),(4,.optr 4 g.2.2.1 0 0),(5,.optr 5 g.2.2.2.1 0 0),(6,.int .i64 k4),(7,.osl 7 g.2.2.2.2.1 0 r6.length),(8,.int .i64 s.2)]) (O:=fun s g=>[(2,some (g.1,⟨false,true,3,27,[.agg [.int .i64 f1.Params,.sl (f1.Slots.map LY),.sl (f1.Code.map LU)]]⟩)),(3,some (g.2.1,⟨false,true,1,30,[.agg [.sl (l2.Out.map (eL Ed))]]⟩)),(4,some (g.2.2.1,⟨false,true,1,30,[.agg [.nils]]⟩)),(5,some (g.2.2.2.1,⟨false,true,1,30,[.agg [.osl 13 g.2.2.2.2.2 0 s.1.length]]⟩)),(7,some (g.2.2.2.2.1,⟨false,false,1,3,r6.map Ed⟩)),(13,some (g.2.2.2.2.2,⟨false,false,1,36,s.1.map (eL Ed)⟩))]) (body:=fun s=>Pn r6 k4 f1 l2 s.1 s.2) (s:=(x3,0)) (_,_,_,_,_,_) ((hE ⟨rfl,r,r,r,r,r,r,trivial⟩ ⟨rfl,r,r,r,r,r,trivial⟩))<|?_
   rintro ⟨x7,i8⟩ ⟨v2x2,v3x2,v4x2,v5x2,v7x2,v13x2⟩ nn
   try dsimp only
   unfold Pn
   refine sQ<|sQ<|rG<|mV r r<|mV r r<|lW r r<|bN (v:=.bool (decide (i8 < (r6.length : Int)))) r r r r r<|nI<|xS<|cD (c:=(decide (i8 < (r6.length : Int)))) r ?_ ?_
   ·exact sK<|xS<|sQ<|bK<|sQ<|rG<|mV r r<|mV r r<|cK fun hq=>iO (l:=r6) (en:=Ed) r r r r r hq<|bD fun next_e9 hnext_e9=>lO (v:=.int .i64 next_e9) (z:=Ed next_e9) r r r (NN hnext_e9) r r<|aS r r<|nI<|xS<|rG<|fA r r<|lO (v:=.osl 13 _ 0 x7.length) (z:=.agg [.osl 13 _ 0 x7.length]) r r r r r r<|mV r r<|fA r r<|lO (v:=.osl 13 _ 0 x7.length) (z:=.agg [.osl 13 _ 0 x7.length]) r r r r r r<|mV r r<|cK fun hq=>iO (l:=x7) (en:=(eL Ed)) r r r r r hq<|bD fun x_e10 hx_e10=>lO (v:=.sl (x_e10.map Ed)) (z:=(eL Ed) x_e10) r r r (NN hx_e10) r r<|fA r r<|lO (v:=.sl (f1.Code.map LU)) (z:=.agg [.int .i64 f1.Params,.sl (f1.Slots.map LY),.sl (f1.Code.map LU)]) r r r r r r<|mV r r<|bD fun x_x11 hx_x11=>iS (en:=LU) r r r hx_x11 r<|lF (v:=.agg [.int .i64 x_x11.Op,.int .i64 x_x11.A,.int .i64 x_x11.B,.int .i64 x_x11.C,.int .u64 x_x11.Imm]) r r r r<|fA r r<|lO (v:=.sl (l2.Out.map (eL Ed))) (z:=.agg [.sl (l2.Out.map (eL Ed))]) r r r r r r<|mV r r<|bD fun x_x12 hx_x12=>iS (en:=(eL Ed)) r r r hx_x12 r<|lF (v:=.sl (x_x12.map Ed)) r r r r<|bD fun r13 hr13=>cR (l:=r13) (en:=Ed) (x_x11,x_x12) r r r YQ r r (by simp) r hr13 r<|bD fun r14 hr14=>cR (l:=r14) (en:=Ed) (x_e10,r13) r r r RF r r (by simp) (by first | rfl | (simp only [Mf]; rfl) | (simp only [Mh]; rfl) | (simp only [Mf,Mh]; rfl) | simp [OA]) hr14 r<|cK fun hq=>iO (l:=x7) (en:=(eL Ed)) r r r r r hq<|bD fun x_o15 hx_o15=>sE (l:=x7) (en:=(eL Ed)) (q':=r14) r r r r r r r (by simp) hx_o15 r r r (by simp [MI,cells,setAt,eL]) r<|Mw (by kernel_rfl)<|bM<|xS<|rG<|mV r r<|bN (v:=.int .i64 (IntKind.i64.wrap (i8 + 1))) r r r r r<|aS r r<|nI<|xL (s:=(x7.set k4.toNat r14,IntKind.i64.wrap (i8 + 1))) (_,_,_,_,_,_) ((hE ⟨rfl,r,r,r,r,r,r,trivial⟩ ⟨rfl,r,r,(Eq.trans (b:=some (_,⟨false,true,1,30,[.agg [.osl 13 _ 0 x7.length]]⟩)) r (by simp)),r,r,trivial⟩))
   ·exact eT<|xE<|lE<|bH<|TB (s:=x7) (_,_,_,_,_) ((hE ⟨rfl,r,r,r,r,trivial⟩ ⟨rfl,r,r,r,r,trivial⟩))
  ·rintro x5 ⟨v2x3,v3x3,v4x3,v5x3,v13x3⟩ nn
   try dsimp only
   unfold Su
   exact rG<|mV r r<|bN (v:=.int .i64 (IntKind.i64.wrap (k4 + 1))) r r r r r<|aS r r<|nI<|xL (s:=(x5,IntKind.i64.wrap (k4 + 1))) (_,_,_,_,_) ((hE ⟨rfl,r,r,r,r,trivial⟩ ⟨rfl,r,r,r,r,trivial⟩))
 ·refine eT<|xE<|lE<|bH<|xS<|sQ<|rG<|lO (v:=.agg [.osl 13 _ 0 x3.length]) (z:=.agg [.osl 13 _ 0 x3.length]) r r r r r r<|sV (z':=.agg [.osl 13 _ 0 x3.length]) r r r r r r r r r<|nI<|xS<|rT<|Nb (b:=(Mg.mk x3)) r ?_ r r ?_ (by first | rfl | (simp only [Mf]; rfl) | (simp only [Mh]; rfl) | (simp only [Mf,Mh]; rfl) | simp [VQ,OL])
  all_goals first|(simp;done)|(simp;omega)|rfl|(simp [Md,LZ];done)

def Acj : Mj:=(.seq (.reg [P 4 (.asg (.c (.bool false)) none)] false) (.seq (.seq (.reg [M 6 0,P 7 (.len false (T 6)),M 8 1,P 9 (.len false (T 8)),P 10 (.bin .neq (T 7) (T 9))] false) (.cond (T 10) (.seq (.reg [P 4 (.asg (.c (.bool false)) none)] false) .ret) .skip)) (.seq (.seq (.reg [P 5 (.asg (C 0) none)] false) (.block 0 (.loop (.seq (.seq (.reg [M 11 5,M 12 0,P 13 (.len false (T 12)),P 14 (.bin .lss (T 11) (T 13))] false) (.cond (T 14) .skip (.exit 0))) (.seq (.block 1 (.seq (.reg [M 17 0,M 18 5,⟨(some 19),(.ixA 1 (T 17) (T 18)),none,[0,1]⟩,⟨(some 20),(.ld 1 false (T 19)),none,[2]⟩,M 21 1,M 22 5,⟨(some 23),(.ixA 1 (T 21) (T 22)),none,[4,5]⟩,⟨(some 24),(.ld 1 false (T 23)),none,[6]⟩,⟨(some 25),(.bin .neq (T 20) (T 24)),none,[3,7]⟩] true) (.cond (T 25) (.seq (.reg [P 4 (.asg (.c (.bool false)) none)] false) .ret) .skip))) (.reg [M 15 5,P 16 (.bin .add (T 15) (C 1)),P 5 (.asg (T 16) none)] false)))))) (.seq (.reg [P 4 (.asg (.c (.bool true)) none)] false) .ret))))
theorem AeO : (Tryd.f73.body.bind (Mm Tryd.prog Tryd.f73.ntmps)) = some Acj:=by kernel_rfl
theorem AeP : Tryd.f73.results.toList.mapM (MB Tryd.prog) = some [(.t 4)]:=by kernel_rfl
def TS (a : (List Int) × (List Int)) : List D:=[.sl (a.1.map Ed),.sl (a.2.map Ed)]
def TR (ds : List D) : (List Int) × (List Int):=((uL uI) (ds.getD 0 .top),(uL uI) (ds.getD 1 .top))
theorem XE (a : (List Int) × (List Int)) : TR (TS a) = a:=by simp [TR,TS,Oh (u:=uI) (en:=Ed) (fun _=>rfl)]
def Yb (b : Bool) : D:=.bool b
def Ya (_b : Bool) : List D:=[]
noncomputable def VJ : Dw.Spec:=Mk [] .ground TS TR (fun a=>RE a.1 a.2) Yb Ya
set_option maxHeartbeats 4000000 in
theorem ZH : Mi Tryd.prog 73 VJ:=by
 refine MA (Nh) Tryd.func73 (by decide) AeO AeP (np:=2) (by decide) XE (fun _=>r) (fun _=>r) (by decide)<|?_
 rintro ⟨a1,b2⟩
 show TrE (specs []) Acj (MD [] .ground [(.t 4)] Yb Ya) ⟨[(0,.sl (a1.map Ed)),(1,.sl (b2.map Ed))],[],262144⟩ (RE a1 b2)
 refine Mu<|?_
 unfold Acj RE
 refine sQ<|rG<|aS r r<|nI<|xS<|sQ<|sQ<|rG<|mV r r<|lS r r<|mV r r<|lS r r<|bN (v:=.bool ((a1.length : Int) != (b2.length : Int))) r r r r r<|nI<|xS<|cD (c:=((a1.length : Int) != (b2.length : Int))) r ?_ ?_
 ·refine sQ<|rG<|aS r r<|nI<|xS<|rT<|xR<|Mq (b:=false) r ?_ r r ?_ r
  all_goals first|(simp;done)|(simp;omega)|rfl|(simp [Md,LZ];done)
 ·refine sK<|xS<|sQ<|sQ<|rG<|aS r r<|nI<|xS<|bK<|lP (E:=fun (s : Int) (g : Unit)=>[(0,.sl (a1.map Ed)),(1,.sl (b2.map Ed)),(5,.int .i64 s)]) (O:=fun s g=>[]) (body:=fun s=>OE a1 b2 s) (s:=0) () ((hE ⟨rfl,r,r,trivial⟩ trivial))<|?_
  rintro i3 ⟨⟩ nn
  try dsimp only
  unfold OE
  refine sQ<|sQ<|rG<|mV r r<|mV r r<|lS r r<|bN (v:=.bool (decide (i3 < (a1.length : Int)))) r r r r r<|nI<|xS<|cD (c:=(decide (i3 < (a1.length : Int)))) r ?_ ?_
  ·refine sK<|xS<|sQ<|bK<|sQ<|rG<|mV r r<|mV r r<|bD fun x_x4 hx_x4=>iS (en:=Ed) r r r hx_x4 r<|lF (v:=.int .i64 x_x4) r r r r<|mV r r<|mV r r<|bD fun x_x5 hx_x5=>iS (en:=Ed) r r r hx_x5 r<|lF (v:=.int .i64 x_x5) r r r r<|bN (v:=.bool (x_x4 != x_x5)) r r r r r<|Mw (by kernel_rfl)<|xS<|cD (c:=(x_x4 != x_x5)) r ?_ ?_
   ·refine sQ<|rG<|aS r r<|nI<|xS<|rT<|bR<|xR<|lR<|bR<|xR<|Mq (b:=false) r ?_ r r ?_ r
    all_goals first|(simp;done)|(simp;omega)|rfl|(simp [Md,LZ];done)
   ·exact sK<|bM<|xS<|rG<|mV r r<|bN (v:=.int .i64 (IntKind.i64.wrap (i3 + 1))) r r r r r<|aS r r<|nI<|xL (s:=IntKind.i64.wrap (i3 + 1)) () ((hE ⟨rfl,r,r,trivial⟩ trivial))
  ·refine eT<|xE<|lE<|bH<|xS<|sQ<|rG<|aS r r<|nI<|xS<|rT<|Mq (b:=true) r ?_ r r ?_ r
   all_goals first|(simp;done)|(simp;omega)|rfl|(simp [Md,LZ];done)

def AbU : Mj:=(.seq (.reg [P 4 (.asg (.c (.bool false)) none)] false) (.seq (.seq (.reg [M 6 0,P 7 (.len false (T 6)),M 8 1,P 9 (.len false (T 8)),P 10 (.bin .neq (T 7) (T 9))] false) (.cond (T 10) (.seq (.reg [P 4 (.asg (.c (.bool false)) none)] false) .ret) .skip)) (.seq (.seq (.reg [P 5 (.asg (C 0) none)] false) (.block 0 (.loop (.seq (.seq (.reg [M 11 5,M 12 0,P 13 (.len false (T 12)),P 14 (.bin .lss (T 11) (T 13))] false) (.cond (T 14) .skip (.exit 0))) (.seq (.block 1 (.seq (.reg [M 17 0,M 18 5,⟨(some 19),(.ixA 1 (T 17) (T 18)),none,[0,1]⟩,⟨(some 20),(.ld 1 false (T 19)),none,[2]⟩,M 21 1,M 22 5,⟨(some 23),(.ixA 1 (T 21) (T 22)),none,[4,5]⟩,⟨(some 24),(.ld 1 false (T 23)),none,[6]⟩,⟨(some 25),(.call (.c (.clo 73 [])) [(T 20),(T 24)]),none,[3,7]⟩,⟨(some 26),(.un .not (T 25)),none,[8]⟩] true) (.cond (T 26) (.seq (.reg [P 4 (.asg (.c (.bool false)) none)] false) .ret) .skip))) (.reg [M 15 5,P 16 (.bin .add (T 15) (C 1)),P 5 (.asg (T 16) none)] false)))))) (.seq (.reg [P 4 (.asg (.c (.bool true)) none)] false) .ret))))
theorem Aek : (Tryd.f35.body.bind (Mm Tryd.prog Tryd.f35.ntmps)) = some AbU:=by kernel_rfl
theorem Ael : Tryd.f35.results.toList.mapM (MB Tryd.prog) = some [(.t 4)]:=by kernel_rfl
def Sa (a : (List (List Int)) × (List (List Int))) : List D:=[.sl (a.1.map (eL Ed)),.sl (a.2.map (eL Ed))]
def RZ (ds : List D) : (List (List Int)) × (List (List Int)):=((uL (uL uI)) (ds.getD 0 .top),(uL (uL uI)) (ds.getD 1 .top))
theorem VI (a : (List (List Int)) × (List (List Int))) : RZ (Sa a) = a:=by simp [RZ,Sa,Oh (u:=(uL uI)) (en:=(eL Ed)) (Oh (u:=uI) (en:=Ed) (fun _=>rfl))]
def Wj (b : Bool) : D:=.bool b
def Wi (_b : Bool) : List D:=[]
noncomputable def Tt : Dw.Spec:=Mk [] .ground Sa RZ (fun a=>Pl a.1 a.2) Wj Wi
set_option maxHeartbeats 4000000 in
theorem YY : Mi Tryd.prog 35 Tt:=by
 refine MA (Mv (l:=[(73,VJ)]) (by simp [ZH])) Tryd.func35 (by decide) Aek Ael (np:=2) (by decide) VI (fun _=>r) (fun _=>r) (by decide)<|?_
 rintro ⟨a1,b2⟩
 show TrE (specs [(73,VJ)]) AbU (MD [] .ground [(.t 4)] Wj Wi) ⟨[(0,.sl (a1.map (eL Ed))),(1,.sl (b2.map (eL Ed)))],[],262144⟩ (Pl a1 b2)
 refine Mu<|?_
 unfold AbU Pl
 refine sQ<|rG<|aS r r<|nI<|xS<|sQ<|sQ<|rG<|mV r r<|lS r r<|mV r r<|lS r r<|bN (v:=.bool ((a1.length : Int) != (b2.length : Int))) r r r r r<|nI<|xS<|cD (c:=((a1.length : Int) != (b2.length : Int))) r ?_ ?_
 ·refine sQ<|rG<|aS r r<|nI<|xS<|rT<|xR<|Mq (b:=false) r ?_ r r ?_ r
  all_goals first|(simp;done)|(simp;omega)|rfl|(simp [Md,LZ];done)
 ·refine sK<|xS<|sQ<|sQ<|rG<|aS r r<|nI<|xS<|bK<|lP (E:=fun (s : Int) (g : Unit)=>[(0,.sl (a1.map (eL Ed))),(1,.sl (b2.map (eL Ed))),(5,.int .i64 s)]) (O:=fun s g=>[]) (body:=fun s=>NG a1 b2 s) (s:=0) () ((hE ⟨rfl,r,r,trivial⟩ trivial))<|?_
  rintro i3 ⟨⟩ nn
  try dsimp only
  unfold NG
  refine sQ<|sQ<|rG<|mV r r<|mV r r<|lS r r<|bN (v:=.bool (decide (i3 < (a1.length : Int)))) r r r r r<|nI<|xS<|cD (c:=(decide (i3 < (a1.length : Int)))) r ?_ ?_
  ·refine sK<|xS<|sQ<|bK<|sQ<|rG<|mV r r<|mV r r<|bD fun x_x4 hx_x4=>iS (en:=(eL Ed)) r r r hx_x4 r<|lF (v:=.sl (x_x4.map Ed)) r r r r<|mV r r<|mV r r<|bD fun x_x5 hx_x5=>iS (en:=(eL Ed)) r r r hx_x5 r<|lF (v:=.sl (x_x5.map Ed)) r r r r<|bD fun r6 hr6=>cG (x_x4,x_x5) r r r XE r r (by simp) r hr6 r<|uN (w:=.bool (!r6)) r r r r trivial<|Mw (by kernel_rfl)<|xS<|cD (c:=(!r6)) r ?_ ?_
   ·refine sQ<|rG<|aS r r<|nI<|xS<|rT<|bR<|xR<|lR<|bR<|xR<|Mq (b:=false) r ?_ r r ?_ r
    all_goals first|(simp;done)|(simp;omega)|rfl|(simp [Md,LZ];done)
   ·exact sK<|bM<|xS<|rG<|mV r r<|bN (v:=.int .i64 (IntKind.i64.wrap (i3 + 1))) r r r r r<|aS r r<|nI<|xL (s:=IntKind.i64.wrap (i3 + 1)) () ((hE ⟨rfl,r,r,trivial⟩ trivial))
  ·refine eT<|xE<|lE<|bH<|xS<|sQ<|rG<|aS r r<|nI<|xS<|rT<|Mq (b:=true) r ?_ r r ?_ r
   all_goals first|(simp;done)|(simp;omega)|rfl|(simp [Md,LZ];done)

def AbS : Mj:=(.seq (.reg [P 2 (.box (T 0) 1 30),P 3 (.box (T 1) 1 30),P 4 (.asg (.c (.bool false)) none)] false) (.seq (.reg [P 5 (.fldA 0 (T 2)),P 6 (.ld 1 false (T 5)),P 7 (.fldA 0 (T 3)),P 8 (.ld 1 false (T 7)),P 9 (.call (.c (.clo 35 [])) [(T 6),(T 8)]),P 4 (.asg (T 9) none)] false) .ret))
theorem Aeg : (Tryd.f31.body.bind (Mm Tryd.prog Tryd.f31.ntmps)) = some AbS:=by kernel_rfl
theorem Aeh : Tryd.f31.results.toList.mapM (MB Tryd.prog) = some [(.t 4)]:=by kernel_rfl
def Uc (a : Mg × Mg) : List D:=[OL a.1,OL a.2]
def Ub (ds : List D) : Mg × Mg:=(Xu (ds.getD 0 .top),Xu (ds.getD 1 .top))
theorem Ss (a : Mg × Mg) : Ub (Uc a) = a:=by simp [Ub,Uc]
def Yk (b : Bool) : D:=.bool b
def Yj (_b : Bool) : List D:=[]
noncomputable def Rr : Dw.Spec:=Mk [] .ground Uc Ub (fun a=>Oo a.1 a.2) Yk Yj
set_option maxHeartbeats 4000000 in
theorem XJ : Mi Tryd.prog 31 Rr:=by
 refine MA (Mv (l:=[(35,Tt)]) (by simp [YY])) Tryd.func31 (by decide) Aeg Aeh (np:=2) (by decide) Ss (fun _=>r) (fun _=>r) (by decide)<|?_
 rintro ⟨a1,b2⟩
 show TrE (specs [(35,Tt)]) AbS (MD [] .ground [(.t 4)] Yk Yj) ⟨[(0,.agg [.sl (a1.Out.map (eL Ed))]),(1,.agg [.sl (b2.Out.map (eL Ed))])],[],262144⟩ (Oo a1 b2)
 refine Mu<|?_
 unfold AbS Oo
 refine sQ<|rG<|bX r r r r r<|bX r r r r r<|aS r r<|nI<|xS<|sQ<|rG<|fA r r<|lO (v:=.sl (a1.Out.map (eL Ed))) (z:=.agg [.sl (a1.Out.map (eL Ed))]) r r r r r r<|fA r r<|lO (v:=.sl (b2.Out.map (eL Ed))) (z:=.agg [.sl (b2.Out.map (eL Ed))]) r r r r r r<|bD fun r3 hr3=>cG (a1.Out,b2.Out) r r r VI r r (by simp) r hr3 r<|aS r r<|nI<|xS<|rT<|Mq (b:=r3) r ?_ r r ?_ r
 all_goals first|(simp;done)|(simp;omega)|rfl|(simp [Md,LZ];done)

def AbN : Mj:=(.seq (.reg [P 1 (.box (T 0) 3 27),P 2 (.new (.agg [.nils]) 1 30)] false) (.seq (.reg [P 5 (.fldA 2 (T 1)),P 6 (.ld 1 false (T 5)),P 7 (.len false (T 6)),P 8 (.mkS 1 36 24 .nils (T 7) (T 7)),⟨(some 9),(.bld [.nils] [⟨0,⟨1,(T 8)⟩⟩]),none,[]⟩,P 3 (.new (.agg [.nils]) 1 30),⟨none,(.st 1 (T 3) (T 9)),none,[]⟩] false) (.block 0 (.loop (.block 1 (.seq (.reg [P 10 (.ld 3 true (T 1)),P 11 (.ld 1 true (T 3)),P 12 (.call (.c (.clo 38 [])) [(T 10),(T 11)]),P 4 (.new (.agg [.nils]) 1 30),⟨none,(.st 1 (T 4) (T 12)),none,[]⟩] false) (.seq (.seq (.reg [P 13 (.ld 1 true (T 4)),P 14 (.ld 1 true (T 3)),P 15 (.call (.c (.clo 31 [])) [(T 13),(T 14)])] false) (.cond (T 15) (.seq (.reg [P 16 (.ld 1 true (T 3)),⟨none,(.st 1 (T 2) (T 16)),none,[]⟩] false) .ret) .skip)) (.reg [P 17 (.ld 1 true (T 4)),⟨none,(.st 1 (T 3) (T 17)),none,[]⟩] false))))))))
theorem AdW : (Tryd.f24.body.bind (Mm Tryd.prog Tryd.f24.ntmps)) = some AbN:=by kernel_rfl
theorem AdX : Tryd.f24.results.toList.mapM (MB Tryd.prog) = some [(.c 2 1 true)]:=by kernel_rfl
def Tx (a : LW) : List D:=[MN a]
def Tw (ds : List D) : LW:=Qu (ds.getD 0 .top)
theorem WK (a : LW) : Tw (Tx a) = a:=by simp [Tw,Tx]
def XL (b : Mg) : D:=OL b
def XK (_b : Mg) : List D:=[]
noncomputable def US : Dw.Spec:=Mk [] .val Tx Tw (fun a=>QG a) XL XK
set_option maxHeartbeats 4000000 in
theorem Zw : Mi Tryd.prog 24 US:=by
 refine MA (Mv (l:=[(38,VR),(31,Rr)]) (by simp [ZL,XJ])) Tryd.func24 (by decide) AdW AdX (np:=1) (by decide) WK (fun _=>r) (fun _=>r) (by decide)<|?_
 intro f1
 show TrE (specs [(38,VR),(31,Rr)]) AbN (MD [] .val [(.c 2 1 true)] XL XK) ⟨[(0,.agg [.int .i64 f1.Params,.sl (f1.Slots.map LY),.sl (f1.Code.map LU)])],[],262144⟩ (QG f1)
 refine Mu<|?_
 unfold AbN QG
 refine sQ<|rG<|bX r r r r r<|nW r<|nI<|xS<|sQ<|rG<|fA r r<|lO (v:=.sl (f1.Code.map LU)) (z:=.agg [.int .i64 f1.Params,.sl (f1.Slots.map LY),.sl (f1.Code.map LU)]) r r r r r r<|lS r r<|cK fun hq=>Sn (α:=Int) r r r hq r<|bL (cs:=[.osl 8 _ 0 ((List.replicate (f1.Code.length : Int).toNat ([] : (List Int))).length)]) (ps:=[(0,1,.osl 8 _ 0 ((List.replicate (f1.Code.length : Int).toNat ([] : (List Int))).length))]) r r r r<|nW r<|sV (z':=.agg [.osl 8 _ 0 ((List.replicate (f1.Code.length : Int).toNat ([] : (List Int))).length)]) r r r r r r r r r<|nI<|PK (E:=[(1,.optr 1 _ 0 0),(2,.optr 2 _ 0 0),(3,.optr 3 _ 0 0)]) (O:=[(1,some (_,⟨false,true,3,27,[.agg [.int .i64 f1.Params,.sl (f1.Slots.map LY),.sl (f1.Code.map LU)]]⟩)),(2,some (_,⟨false,true,1,30,[.agg [.nils]]⟩)),(3,some (_,⟨false,true,1,30,[.agg [.osl 8 _ 0 ((List.replicate (f1.Code.length : Int).toNat ([] : (List Int))).length)]]⟩)),(8,some (_,⟨false,false,1,36,(List.replicate (f1.Code.length : Int).toNat ([] : (List Int))).map (eL Ed)⟩))]) ((Wf (g:=8) r (Xp (l:=List.replicate (f1.Code.length : Int).toNat ([] : (List Int))) Ed (fun _ h=>List.eq_of_mem_replicate h)) (hE ⟨rfl,r,r,trivial⟩ ⟨rfl,r,r,r,trivial⟩))) fun nn=>bK<|lP (E:=fun (s : (List (List Int))) (g : Nat × Nat × Nat)=>[(1,.optr 1 g.1 0 0),(2,.optr 2 g.2.1 0 0),(3,.optr 3 g.2.2 0 0)]) (O:=fun s g=>[(1,some (g.1,⟨false,true,3,27,[.agg [.int .i64 f1.Params,.sl (f1.Slots.map LY),.sl (f1.Code.map LU)]]⟩)),(2,some (g.2.1,⟨false,true,1,30,[.agg [.nils]]⟩)),(3,some (g.2.2,⟨false,true,1,30,[.agg [.sl (s.map (eL Ed))]]⟩))]) (body:=fun s=>RI f1 s) (s:=List.replicate (f1.Code.length : Int).toNat ([] : (List Int))) (_,_,_) ((Sz [(8,some (_,⟨true,false,1,36,(List.replicate (f1.Code.length : Int).toNat ([] : (List Int))).map (eL Ed)⟩))] ⟨⟨_,_,r,r,r⟩,trivial⟩ ⟨(Mp r),(Mp r),(Mp r),trivial⟩ ⟨(.inl r),(.inl r),(.inr ⟨_,_,_,_,r,r,r,r,Vw r ⟨(Re (l:=List.replicate (f1.Code.length : Int).toNat ([] : (List Int))) (en:=(eL Ed)) r r r (by simp)),trivial⟩⟩),trivial⟩))<|?_
 rintro l2 ⟨v1x1,v2x1,v3x1⟩ nn
 try dsimp only
 unfold RI
 refine bK<|sQ<|rG<|lO (v:=.agg [.int .i64 f1.Params,.sl (f1.Slots.map LY),.sl (f1.Code.map LU)]) (z:=.agg [.int .i64 f1.Params,.sl (f1.Slots.map LY),.sl (f1.Code.map LU)]) r r r r r r<|lO (v:=.agg [.sl (l2.map (eL Ed))]) (z:=.agg [.sl (l2.map (eL Ed))]) r r r r r r<|bD fun r3 hr3=>cV (f1,(Mg.mk l2)) r r r XM r r (by simp) r hr3<|nW r<|sV (z':=.agg [.sl (r3.Out.map (eL Ed))]) r r r r r r r r r<|nI<|xS<|sQ<|sQ<|rG<|lO (v:=.agg [.sl (r3.Out.map (eL Ed))]) (z:=.agg [.sl (r3.Out.map (eL Ed))]) r r r r r r<|lO (v:=.agg [.sl (l2.map (eL Ed))]) (z:=.agg [.sl (l2.map (eL Ed))]) r r r r r r<|bD fun r4 hr4=>cG (r3,(Mg.mk l2)) r r r Ss r r (by simp) r hr4 r<|nI<|xS<|cD (c:=r4) r ?_ ?_
 ·refine sQ<|rG<|lO (v:=.agg [.sl (l2.map (eL Ed))]) (z:=.agg [.sl (l2.map (eL Ed))]) r r r r r r<|sV (z':=.agg [.sl (l2.map (eL Ed))]) r r r r r r r r r<|nI<|xS<|rT<|xR<|bR<|lR<|bR<|Nb (b:=(Mg.mk l2)) r ?_ r r ?_ r
  all_goals first|(simp;done)|(simp;omega)|rfl|(simp [Md,LZ];done)
 ·exact sK<|xS<|rG<|lO (v:=.agg [.sl (r3.Out.map (eL Ed))]) (z:=.agg [.sl (r3.Out.map (eL Ed))]) r r r r r r<|sV (z':=.agg [.sl (r3.Out.map (eL Ed))]) r r r r r r r r r<|nI<|bM<|xL (s:=r3.Out) (_,_,_) ((hE ⟨rfl,r,r,trivial⟩ ⟨rfl,r,r,trivial⟩))

end Go.Proofs.YtcelninhkmhjkaaDoor
