/-
  Programs on typed data, and the proofs that the code does what they say; written by a program (dx.py).
-/
import Derived.Test.YtcelninhkmhjkaaDoorProg
import Derived.Test.YtcelninhkmhjkaaDoorDc
import Derived.KernelRfl
import Derived.Test.YtcelninhkmhjkaaDoorDxP
namespace Go.Proofs.YtcelninhkmhjkaaDoor
open Go Go.Dw Go.Proofs
set_option maxRecDepth 100000
open Go.Dw renaming Xr → mV,VP → bN,Ra → lO,UX → bD,VS → cK,VU → nI,VX → xS,Xt → rG,Xv → sQ,Tm → aO,VO → aS,VV → oF,VQ → bL,Ws → bS,QK → cV,Qs → cG,QJ → cR,VN → aP,Rb → sV,To → sE,SB → iS,RC → iO,SD → lS,RD → lW,UY → fA,Yw → eX,Tj → lF,TF → sP,PV → pT,PE → pF,Ym → uN,VT → nW,VR → bX,Tl → aN,VY → cD,Vd → bK,Xu → rT,Wb → sK,VZ → eT,VW → xC,Vb → xL,Ts → xR,VA → zR,Vc → lR,TD → hE,PW → lE,QL → bH,PF → bM,Tq → bR,QM → xE,Wa → lP,SF → sC,Tk → bC,rf → r
def Abe : LJ:=(.seq (.reg [P 2 (.box (T 0) 3 27),⟨(some 4),(.asg (.c .nils) (some ⟨1,3⟩)),none,[]⟩] false) (.seq (.seq (.reg [M 6 1,P 7 (.bin .lss (T 6) (C 0)),M 8 7,⟨(some 9),(.mv (T 1)),(some ⟨8,false⟩),[]⟩,⟨(some 10),(.fldA 2 (T 2)),(some ⟨8,false⟩),[]⟩,⟨(some 11),(.ld 1 false (T 10)),(some ⟨8,false⟩),[]⟩,⟨(some 12),(.len false (T 11)),(some ⟨8,false⟩),[]⟩,⟨(some 13),(.bin .geq (T 9) (T 12)),(some ⟨8,false⟩),[]⟩,P 14 (.pick (T 8) (.c (.bool true)) (T 13))] false) (.cond (T 14) (.seq (.reg [⟨(some 4),(.asg (.c .nils) (some ⟨1,3⟩)),none,[]⟩] false) .ret) .skip)) (.seq (.reg [P 15 (.fldA 2 (T 2)),P 16 (.ld 1 false (T 15)),M 17 1,P 18 (.ixA 5 (T 16) (T 17)),P 19 (.ld 5 true (T 18)),P 5 (.new (.agg [(.int .i64 0),(.int .i64 0),(.int .i64 0),(.int .i64 0),(.int .u64 0)]) 5 66),⟨none,(.st 5 (T 5) (T 19)),none,[]⟩] false) (.seq (.seq (.reg [P 20 (.fldA 0 (T 5)),P 21 (.ld 1 false (T 20))] false) (.block 0 (.seq (.reg [P 23 (.bin .eql (T 21) (C 20)),P 22 (.asg (T 23) none)] false) (.cond (T 22) (.seq (.reg [P 24 (.fldA 1 (T 5)),P 25 (.ld 1 false (T 24)),⟨(some 26),(.bldS 1 3 (.int .i64 0) 1 [⟨0,(T 25)⟩]),none,[]⟩,⟨(some 4),(.asg (T 26) (some ⟨1,3⟩)),none,[]⟩] false) .ret) (.seq (.seq (.reg [P 28 (.bin .eql (T 21) (C 23)),P 27 (.asg (T 28) none)] false) (.cond (T 27) .skip (.reg [P 29 (.bin .eql (T 21) (C 24)),P 27 (.asg (T 29) none)] false))) (.cond (T 27) (.seq (.reg [⟨(some 4),(.asg (.c .nils) (some ⟨1,3⟩)),none,[]⟩] false) .ret) (.seq (.reg [P 31 (.bin .eql (T 21) (C 21)),P 30 (.asg (T 31) none)] false) (.cond (T 30) (.block 1 (.seq (.reg [P 33 (.fldA 2 (T 5)),P 34 (.ld 1 false (T 33)),M 35 1,P 36 (.bin .add (T 35) (C 1)),P 37 (.bin .lss (T 34) (T 36)),P 32 (.asg (T 37) none)] false) (.cond (T 32) (.seq (.reg [P 38 (.fldA 2 (T 5)),P 39 (.ld 1 false (T 38)),M 40 1,P 41 (.bin .add (T 40) (C 1)),⟨(some 42),(.bldS 1 3 (.int .i64 0) 2 [⟨0,(T 39)⟩,⟨1,(T 41)⟩]),none,[]⟩,⟨(some 4),(.asg (T 42) (some ⟨1,3⟩)),none,[]⟩] false) .ret) (.seq (.reg [P 44 (.fldA 2 (T 5)),P 45 (.ld 1 false (T 44)),M 46 1,P 47 (.bin .add (T 46) (C 1)),P 48 (.bin .gtr (T 45) (T 47)),P 43 (.asg (T 48) none)] false) (.cond (T 43) (.seq (.reg [M 49 1,P 50 (.bin .add (T 49) (C 1)),P 51 (.fldA 2 (T 5)),P 52 (.ld 1 false (T 51)),⟨(some 53),(.bldS 1 3 (.int .i64 0) 2 [⟨0,(T 50)⟩,⟨1,(T 52)⟩]),none,[]⟩,⟨(some 4),(.asg (T 53) (some ⟨1,3⟩)),none,[]⟩] false) .ret) .skip))))) .skip)))))))) (.seq (.reg [M 54 1,P 55 (.bin .add (T 54) (C 1)),⟨(some 56),(.bldS 1 3 (.int .i64 0) 1 [⟨0,(T 55)⟩]),none,[]⟩,⟨(some 4),(.asg (T 56) (some ⟨1,3⟩)),none,[]⟩] false) .ret)))))
theorem AdH : (Tryd.f60.body.bind (LM Tryd.prog Tryd.f60.ntmps)) = some Abe:=by kernel_rfl
theorem AdI : Tryd.f60.results.toList.mapM (Me Tryd.prog) = some [(.t 4)]:=by kernel_rfl
def Ta (a : LA × Int) : List D:=[Mv a.1,.int .i64 a.2]
def SZ (ds : List D) : LA × Int:=(Rc (ds.getD 0 .top),uI (ds.getD 1 .top))
theorem WI (a : LA × Int) : SZ (Ta a) = a:=by simp [SZ,Ta,uI]
def Xi (b : (List Int)) : D:=.sl (b.map Lu)
def Xh (_b : (List Int)) : List D:=[]
noncomputable def UN : Dw.Spec:=LL [] (.row 1 3) Ta SZ (fun a=>QX a.1 a.2) Xi Xh
set_option maxHeartbeats 4000000 in
theorem YI : LI Tryd.prog 60 UN:=by
 refine Mg (MO) Tryd.func60 (by decide) AdH AdI (np:=2) (by decide) WI (fun _=>r) (fun _=>r) (by decide)<|?_
 rintro ⟨f1,k2⟩
 show TrE (specs []) Abe (Mi [] (.row 1 3) [(.t 4)] Xi Xh) ⟨[(0,.agg [.int .i64 f1.Params,.sl (f1.Slots.map LB),.sl (f1.Code.map Lx)]),(1,.int .i64 k2)],[],262144⟩ (QX f1 k2)
 refine LW<|?_
 unfold Abe QX
 refine sQ<|rG<|bX r r r r r<|aN (α:=Int) r Lu r<|nI<|xS<|sC (E:=fun (s : Unit) (g : Nat)=>[(1,.int .i64 k2),(2,.optr 2 g 0 0)]) (O:=fun s g=>[(2,some (g,⟨false,true,3,27,[.agg [.int .i64 f1.Params,.sl (f1.Slots.map LB),.sl (f1.Code.map Lx)]]⟩))]) (j:=fun s=>RG f1 k2) ?_ ?_
 ·refine sQ<|rG<|mV r r<|bN (v:=.bool (decide (k2 < 0))) r r r r r<|mV r r<|sP 8 (b:=(decide (k2 < 0))) r ?_ ?_
  ·refine oF r<|oF r<|oF r<|oF r<|oF r<|pT r r r r<|nI<|xS<|QN r<|sQ<|rG<|aN (α:=Int) r Lu r<|nI<|xS<|rT<|zR<|LY (b:=([] : List Int)) r ?_ r r ?_ r ?_ (congrArg D.sl (Lz _ _ r)) r
   all_goals first|(simp;done)|(simp;omega)|rfl|(simp [LG,LD];done)
  ·refine mV r r<|fA r r<|lO (v:=.sl (f1.Code.map Lx)) (z:=.agg [.int .i64 f1.Params,.sl (f1.Slots.map LB),.sl (f1.Code.map Lx)]) r r r r r r<|lS r r<|bN (v:=.bool (decide (k2 ≥ (f1.Code.length : Int)))) r r r r r<|pF r r r r<|nI<|xS<|cD (c:=(decide (k2 ≥ (f1.Code.length : Int)))) r ?_ ?_
   ·refine sQ<|rG<|aN (α:=Int) r Lu r<|nI<|xS<|rT<|zR<|LY (b:=([] : List Int)) r ?_ r r ?_ r ?_ (congrArg D.sl (Lz _ _ r)) r
    all_goals first|(simp;done)|(simp;omega)|rfl|(simp [LG,LD];done)
   ·exact sK<|xC (s:=()) _ ((hE ⟨rfl,r,trivial⟩ ⟨rfl,trivial⟩))
 ·rintro ⟨⟩ v2x1 nn
  try dsimp only
  unfold RG
  refine sQ<|rG<|fA r r<|lO (v:=.sl (f1.Code.map Lx)) (z:=.agg [.int .i64 f1.Params,.sl (f1.Slots.map LB),.sl (f1.Code.map Lx)]) r r r r r r<|mV r r<|bD fun x_x3 hx_x3=>iS (en:=Lx) r r r hx_x3 r<|lF (v:=.agg [.int .i64 x_x3.Op,.int .i64 x_x3.A,.int .i64 x_x3.B,.int .i64 x_x3.C,.int .u64 x_x3.Imm]) r r r r<|nW r<|sV (z':=.agg [.int .i64 x_x3.Op,.int .i64 x_x3.A,.int .i64 x_x3.B,.int .i64 x_x3.C,.int .u64 x_x3.Imm]) r r r r r r r r r<|nI<|xS<|sQ<|sQ<|rG<|fA r r<|lO (v:=.int .i64 x_x3.Op) (z:=.agg [.int .i64 x_x3.Op,.int .i64 x_x3.A,.int .i64 x_x3.B,.int .i64 x_x3.C,.int .u64 x_x3.Imm]) r r r r r r<|nI<|xS<|bK<|sQ<|rG<|bN (v:=.bool (x_x3.Op == 20)) r r r r r<|aS r r<|nI<|xS<|cD (c:=(x_x3.Op == 20)) r ?_ ?_
  ·refine sQ<|rG<|fA r r<|lO (v:=.int .i64 x_x3.A) (z:=.agg [.int .i64 x_x3.Op,.int .i64 x_x3.A,.int .i64 x_x3.B,.int .i64 x_x3.C,.int .u64 x_x3.Imm]) r r r r r r<|bS ([x_x3.A] : List Int) Lu r r r (by simp) r r r<|aO (l:=([x_x3.A] : List Int)) (en:=Lu) r r r r<|nI<|xS<|rT<|bR<|xR<|LY (b:=([x_x3.A] : List Int)) r ?_ r r ?_ r ?_ (congrArg D.sl (Lz _ _ r)) r
   all_goals first|(simp;done)|(simp;omega)|rfl|(simp [LG,LD];done)
  ·refine sC (E:=fun (s : Bool) (g : Nat)=>[(1,.int .i64 k2),(5,.optr 5 g 0 0),(21,.int .i64 x_x3.Op),(27,.bool s)]) (O:=fun s g=>[(5,some (g,⟨false,true,5,66,[.agg [.int .i64 x_x3.Op,.int .i64 x_x3.A,.int .i64 x_x3.B,.int .i64 x_x3.C,.int .u64 x_x3.Imm]]⟩))]) (j:=fun s=>MY x_x3 k2 s) ?_ ?_
   ·refine sQ<|rG<|bN (v:=.bool (x_x3.Op == 23)) r r r r r<|aS r r<|nI<|xS<|cD (c:=(x_x3.Op == 23)) r ?_ ?_
    ·exact sK<|xC (s:=(x_x3.Op == 23)) _ ((hE ⟨rfl,r,r,r,trivial⟩ ⟨rfl,trivial⟩))
    ·exact rG<|bN (v:=.bool (x_x3.Op == 24)) r r r r r<|aS r r<|nI<|xC (s:=(x_x3.Op == 24)) _ ((hE ⟨rfl,r,r,r,trivial⟩ ⟨rfl,trivial⟩))
   ·rintro x4 v5x2 nn
    try dsimp only
    unfold MY
    refine cD (c:=x4) r ?_ ?_
    ·refine sQ<|rG<|aN (α:=Int) r Lu r<|nI<|xS<|rT<|bR<|xR<|LY (b:=([] : List Int)) r ?_ r r ?_ r ?_ (congrArg D.sl (Lz _ _ r)) r
     all_goals first|(simp;done)|(simp;omega)|rfl|(simp [LG,LD];done)
    ·refine sQ<|rG<|bN (v:=.bool (x_x3.Op == 21)) r r r r r<|aS r r<|nI<|xS<|cD (c:=(x_x3.Op == 21)) r ?_ ?_
     ·refine bK<|sQ<|rG<|fA r r<|lO (v:=.int .i64 x_x3.B) (z:=.agg [.int .i64 x_x3.Op,.int .i64 x_x3.A,.int .i64 x_x3.B,.int .i64 x_x3.C,.int .u64 x_x3.Imm]) r r r r r r<|mV r r<|bN (v:=.int .i64 (IntKind.i64.wrap (k2 + 1))) r r r r r<|bN (v:=.bool (decide (x_x3.B < (IntKind.i64.wrap (k2 + 1))))) r r r r r<|aS r r<|nI<|xS<|cD (c:=(decide (x_x3.B < (IntKind.i64.wrap (k2 + 1))))) r ?_ ?_
      ·refine sQ<|rG<|fA r r<|lO (v:=.int .i64 x_x3.B) (z:=.agg [.int .i64 x_x3.Op,.int .i64 x_x3.A,.int .i64 x_x3.B,.int .i64 x_x3.C,.int .u64 x_x3.Imm]) r r r r r r<|mV r r<|bN (v:=.int .i64 (IntKind.i64.wrap (k2 + 1))) r r r r r<|bS ([x_x3.B,IntKind.i64.wrap (k2 + 1)] : List Int) Lu r r r (by simp) r r r<|aO (l:=([x_x3.B,IntKind.i64.wrap (k2 + 1)] : List Int)) (en:=Lu) r r r r<|nI<|xS<|rT<|bR<|bR<|xR<|LY (b:=([x_x3.B,IntKind.i64.wrap (k2 + 1)] : List Int)) r ?_ r r ?_ r ?_ (congrArg D.sl (Lz _ _ r)) r
       all_goals first|(simp;done)|(simp;omega)|rfl|(simp [LG,LD];done)
      ·refine sQ<|rG<|fA r r<|lO (v:=.int .i64 x_x3.B) (z:=.agg [.int .i64 x_x3.Op,.int .i64 x_x3.A,.int .i64 x_x3.B,.int .i64 x_x3.C,.int .u64 x_x3.Imm]) r r r r r r<|mV r r<|bN (v:=.int .i64 (IntKind.i64.wrap (k2 + 1))) r r r r r<|bN (v:=.bool (decide (x_x3.B > (IntKind.i64.wrap (k2 + 1))))) r r r r r<|aS r r<|nI<|xS<|cD (c:=(decide (x_x3.B > (IntKind.i64.wrap (k2 + 1))))) r ?_ ?_
       ·refine sQ<|rG<|mV r r<|bN (v:=.int .i64 (IntKind.i64.wrap (k2 + 1))) r r r r r<|fA r r<|lO (v:=.int .i64 x_x3.B) (z:=.agg [.int .i64 x_x3.Op,.int .i64 x_x3.A,.int .i64 x_x3.B,.int .i64 x_x3.C,.int .u64 x_x3.Imm]) r r r r r r<|bS ([IntKind.i64.wrap (k2 + 1),x_x3.B] : List Int) Lu r r r (by simp) r r r<|aO (l:=([IntKind.i64.wrap (k2 + 1),x_x3.B] : List Int)) (en:=Lu) r r r r<|nI<|xS<|rT<|bR<|bR<|xR<|LY (b:=([IntKind.i64.wrap (k2 + 1),x_x3.B] : List Int)) r ?_ r r ?_ r ?_ (congrArg D.sl (Lz _ _ r)) r
        all_goals first|(simp;done)|(simp;omega)|rfl|(simp [LG,LD];done)
       ·refine sK<|bM<|bM<|xS<|sQ<|rG<|mV r r<|bN (v:=.int .i64 (IntKind.i64.wrap (k2 + 1))) r r r r r<|bS ([IntKind.i64.wrap (k2 + 1)] : List Int) Lu r r r (by simp) r r r<|aO (l:=([IntKind.i64.wrap (k2 + 1)] : List Int)) (en:=Lu) r r r r<|nI<|xS<|rT<|LY (b:=([IntKind.i64.wrap (k2 + 1)] : List Int)) r ?_ r r ?_ r ?_ (congrArg D.sl (Lz _ _ r)) r
        all_goals first|(simp;done)|(simp;omega)|rfl|(simp [LG,LD];done)
     ·refine sK<|bM<|xS<|sQ<|rG<|mV r r<|bN (v:=.int .i64 (IntKind.i64.wrap (k2 + 1))) r r r r r<|bS ([IntKind.i64.wrap (k2 + 1)] : List Int) Lu r r r (by simp) r r r<|aO (l:=([IntKind.i64.wrap (k2 + 1)] : List Int)) (en:=Lu) r r r r<|nI<|xS<|rT<|LY (b:=([IntKind.i64.wrap (k2 + 1)] : List Int)) r ?_ r r ?_ r ?_ (congrArg D.sl (Lz _ _ r)) r
      all_goals first|(simp;done)|(simp;omega)|rfl|(simp [LG,LD];done)

def Abr : LJ:=(.seq (.reg [P 1 (.box (T 0) 5 66),P 2 (.asg (.c (.bool false)) none)] false) (.seq (.reg [P 3 (.fldA 0 (T 1)),P 4 (.ld 1 false (T 3)),P 5 (.bin .eql (T 4) (C 16)),M 6 5,⟨(some 7),(.fldA 0 (T 1)),(some ⟨6,false⟩),[]⟩,⟨(some 8),(.ld 1 false (T 7)),(some ⟨6,false⟩),[]⟩,⟨(some 9),(.bin .eql (T 8) (C 17)),(some ⟨6,false⟩),[]⟩,P 10 (.pick (T 6) (.c (.bool true)) (T 9)),P 2 (.asg (T 10) none)] false) .ret))
theorem Aeh : (Tryd.f89.body.bind (LM Tryd.prog Tryd.f89.ntmps)) = some Abr:=by kernel_rfl
theorem Aei : Tryd.f89.results.toList.mapM (Me Tryd.prog) = some [(.t 2)]:=by kernel_rfl
def Qq (a : Lv) : List D:=[Lx a]
def Qp (ds : List D) : Lv:=QO (ds.getD 0 .top)
theorem TE (a : Lv) : Qp (Qq a) = a:=by simp [Qp,Qq]
def Um (b : Bool) : D:=.bool b
def Ul (_b : Bool) : List D:=[]
noncomputable def Ru : Dw.Spec:=LL [] .ground Qq Qp (fun a=>Pb a) Um Ul
set_option maxHeartbeats 4000000 in
theorem Xj : LI Tryd.prog 89 Ru:=by
 refine Mg (MO) Tryd.func89 (by decide) Aeh Aei (np:=1) (by decide) TE (fun _=>r) (fun _=>r) (by decide)<|?_
 intro x1
 show TrE (specs []) Abr (Mi [] .ground [(.t 2)] Um Ul) ⟨[(0,.agg [.int .i64 x1.Op,.int .i64 x1.A,.int .i64 x1.B,.int .i64 x1.C,.int .u64 x1.Imm])],[],262144⟩ (Pb x1)
 refine LW<|?_
 unfold Abr Pb
 refine sQ<|rG<|bX r r r r r<|aS r r<|nI<|xS<|sQ<|rG<|fA r r<|lO (v:=.int .i64 x1.Op) (z:=.agg [.int .i64 x1.Op,.int .i64 x1.A,.int .i64 x1.B,.int .i64 x1.C,.int .u64 x1.Imm]) r r r r r r<|bN (v:=.bool (x1.Op == 16)) r r r r r<|mV r r<|sP 6 (b:=(x1.Op == 16)) r ?_ ?_
 ·refine oF r<|oF r<|oF r<|pT r r r r<|aS r r<|nI<|xS<|rT<|LR (b:=true) r ?_ r r ?_ r
  all_goals first|(simp;done)|(simp;omega)|rfl|(simp [LG,LD];done)
 ·refine fA r r<|lO (v:=.int .i64 x1.Op) (z:=.agg [.int .i64 x1.Op,.int .i64 x1.A,.int .i64 x1.B,.int .i64 x1.C,.int .u64 x1.Imm]) r r r r r r<|bN (v:=.bool (x1.Op == 17)) r r r r r<|pF r r r r<|aS r r<|nI<|xS<|rT<|LR (b:=(x1.Op == 17)) r ?_ r r ?_ r
  all_goals first|(simp;done)|(simp;omega)|rfl|(simp [LG,LD];done)

def Abg : LJ:=(.seq (.reg [P 1 (.box (T 0) 5 66),P 2 (.asg (C 0) none),P 3 (.asg (.c (.bool false)) none)] false) (.seq (.seq (.reg [P 4 (.ld 5 true (T 1)),P 5 (.call (.c (.clo 89 [])) [(T 4)])] false) (.cond (T 5) (.seq (.reg [P 6 (.fldA 1 (T 1)),P 7 (.ld 1 false (T 6)),P 2 (.asg (T 7) none),P 3 (.asg (.c (.bool true)) none)] false) .ret) .skip)) (.seq (.reg [P 2 (.asg (C 0) none),P 3 (.asg (.c (.bool false)) none)] false) .ret)))
theorem AdL : (Tryd.f62.body.bind (LM Tryd.prog Tryd.f62.ntmps)) = some Abg:=by kernel_rfl
theorem AdM : Tryd.f62.results.toList.mapM (Me Tryd.prog) = some [(.t 2),(.t 3)]:=by kernel_rfl
def Rt (a : Lv) : List D:=[Lx a]
def Rs (ds : List D) : Lv:=QO (ds.getD 0 .top)
theorem UO (a : Lv) : Rs (Rt a) = a:=by simp [Rs,Rt]
def Vo (b : Int × Bool) : D:=.tup [.int .i64 b.1,.bool b.2]
def Vn (_b : Int × Bool) : List D:=[]
noncomputable def Sy : Dw.Spec:=LL [] .ground Rt Rs (fun a=>PT a) Vo Vn
set_option maxHeartbeats 4000000 in
theorem Ya : LI Tryd.prog 62 Sy:=by
 refine Mg (LV (l:=[(89,Ru)]) (by simp [Xj])) Tryd.func62 (by decide) AdL AdM (np:=1) (by decide) UO (fun _=>r) (fun _=>r) (by decide)<|?_
 intro x1
 show TrE (specs [(89,Ru)]) Abg (Mi [] .ground [(.t 2),(.t 3)] Vo Vn) ⟨[(0,.agg [.int .i64 x1.Op,.int .i64 x1.A,.int .i64 x1.B,.int .i64 x1.C,.int .u64 x1.Imm])],[],262144⟩ (PT x1)
 refine LW<|?_
 unfold Abg PT
 refine sQ<|rG<|bX r r r r r<|aS r r<|aS r r<|nI<|xS<|sQ<|sQ<|rG<|lO (v:=.agg [.int .i64 x1.Op,.int .i64 x1.A,.int .i64 x1.B,.int .i64 x1.C,.int .u64 x1.Imm]) (z:=.agg [.int .i64 x1.Op,.int .i64 x1.A,.int .i64 x1.B,.int .i64 x1.C,.int .u64 x1.Imm]) r r r r r r<|bD fun r2 hr2=>cG x1 r r r TE r r (by simp) r hr2 r<|nI<|xS<|cD (c:=r2) r ?_ ?_
 ·refine sQ<|rG<|fA r r<|lO (v:=.int .i64 x1.A) (z:=.agg [.int .i64 x1.Op,.int .i64 x1.A,.int .i64 x1.B,.int .i64 x1.C,.int .u64 x1.Imm]) r r r r r r<|aS r r<|aS r r<|nI<|xS<|rT<|xR<|On (b:=(x1.A,true)) r ?_ r r ?_ r (by decide)
  all_goals first|(simp;done)|(simp;omega)|rfl|(simp [LG,LD];done)
 ·refine sK<|xS<|sQ<|rG<|aS r r<|aS r r<|nI<|xS<|rT<|On (b:=(0,false)) r ?_ r r ?_ r (by decide)
  all_goals first|(simp;done)|(simp;omega)|rfl|(simp [LG,LD];done)

def AaR : LJ:=(.seq (.reg [⟨(some 4),(.asg (.c .nils) (some ⟨1,3⟩)),none,[]⟩] false) (.seq (.reg [⟨(some 5),(.asg (.c .nils) (some ⟨1,3⟩)),none,[]⟩] false) (.seq (.seq (.reg [P 6 (.asg (C 0) none)] false) (.block 0 (.loop (.seq (.seq (.reg [M 7 6,M 8 0,P 9 (.len false (T 8)),P 10 (.bin .lss (T 7) (T 9))] false) (.cond (T 10) .skip (.exit 0))) (.seq (.block 1 (.seq (.reg [M 13 0,M 14 6,P 15 (.ixA 1 (T 13) (T 14)),P 16 (.ld 1 false (T 15)),M 17 1,P 18 (.bin .neq (T 16) (T 17))] false) (.cond (T 18) (.reg [M 19 5,M 20 0,M 21 6,P 22 (.ixA 1 (T 20) (T 21)),P 23 (.ld 1 false (T 22)),⟨(some 24),(.bldS 1 3 (.int .i64 0) 1 [⟨0,(T 23)⟩]),none,[]⟩,P 25 (.app 1 3 8 (T 19) (T 24)),⟨(some 5),(.asg (T 25) (some ⟨1,3⟩)),none,[]⟩] false) .skip))) (.reg [M 11 6,P 12 (.bin .add (T 11) (C 1)),P 6 (.asg (T 12) none)] false)))))) (.seq (.reg [M 26 5,⟨(some 4),(.asg (T 26) (some ⟨1,3⟩)),none,[]⟩] false) .ret))))
theorem Adf : (Tryd.f29.body.bind (LM Tryd.prog Tryd.f29.ntmps)) = some AaR:=by kernel_rfl
theorem Adg : Tryd.f29.results.toList.mapM (Me Tryd.prog) = some [(.t 4)]:=by kernel_rfl
def RO (a : (List Int) × Int) : List D:=[.sl (a.1.map Lu),.int .i64 a.2]
def RN (ds : List D) : (List Int) × Int:=((uL uI) (ds.getD 0 .top),uI (ds.getD 1 .top))
theorem Vk (a : (List Int) × Int) : RN (RO a) = a:=by simp [RN,RO,uI,NT (u:=uI) (en:=Lu) (fun _=>rfl)]
def VK (b : (List Int)) : D:=.sl (b.map Lu)
def VJ (_b : (List Int)) : List D:=[]
noncomputable def SU : Dw.Spec:=LL [] (.row 1 3) RO RN (fun a=>PA a.1 a.2) VK VJ
set_option maxHeartbeats 4000000 in
theorem Yh : LI Tryd.prog 29 SU:=by
 refine Mg (MO) Tryd.func29 (by decide) Adf Adg (np:=2) (by decide) Vk (fun _=>r) (fun _=>r) (by decide)<|?_
 rintro ⟨s1,n2⟩
 show TrE (specs []) AaR (Mi [] (.row 1 3) [(.t 4)] VK VJ) ⟨[(0,.sl (s1.map Lu)),(1,.int .i64 n2)],[],262144⟩ (PA s1 n2)
 refine LW<|?_
 unfold AaR PA
 refine sQ<|rG<|aN (α:=Int) r Lu r<|nI<|xS<|sQ<|rG<|aN (α:=Int) r Lu r<|nI<|xS<|sQ<|sQ<|rG<|aS r r<|nI<|xS<|bK<|lP (E:=fun (s : (List Int) × Int) (g : Nat)=>[(0,.sl (s1.map Lu)),(1,.int .i64 n2),(5,.osl 5 g 0 s.1.length),(6,.int .i64 s.2)]) (O:=fun s g=>[(5,some (g,⟨false,false,1,3,s.1.map Lu⟩))]) (body:=fun s=>NC s1 n2 s.1 s.2) (s:=(([] : List Int),0)) _ ((hE ⟨rfl,r,r,r,trivial⟩ ⟨rfl,trivial⟩))<|?_
 rintro ⟨out3,i4⟩ v5x1 nn
 try dsimp only
 unfold NC
 refine sQ<|sQ<|rG<|mV r r<|mV r r<|lS r r<|bN (v:=.bool (decide (i4 < (s1.length : Int)))) r r r r r<|nI<|xS<|cD (c:=(decide (i4 < (s1.length : Int)))) r ?_ ?_
 ·refine sK<|xS<|sQ<|bK<|sQ<|rG<|mV r r<|mV r r<|bD fun x_x5 hx_x5=>iS (en:=Lu) r r r hx_x5 r<|lF (v:=.int .i64 x_x5) r r r r<|mV r r<|bN (v:=.bool (x_x5 != n2)) r r r r r<|nI<|xS<|cD (c:=(x_x5 != n2)) r ?_ ?_
  ·exact rG<|mV r r<|mV r r<|mV r r<|bD fun x_x6 hx_x6=>iS (en:=Lu) r r r hx_x6 r<|lF (v:=.int .i64 x_x6) r r r r<|bS ([x_x6] : List Int) Lu r r r (by simp) r r r<|cK fun hq=>aP (out3) (([x_x6] : List Int)) Lu r r r r r r r (by simp) (LO _ _ r) r r (by simp) (Lz _ _ r) (fun _=>r) r hq<|aO (l:=out3 ++ ([x_x6] : List Int)) (en:=Lu) r r r r<|nI<|bM<|xS<|rG<|mV r r<|bN (v:=.int .i64 (IntKind.i64.wrap (i4 + 1))) r r r r r<|aS r r<|nI<|xL (s:=(out3 ++ ([x_x6] : List Int),IntKind.i64.wrap (i4 + 1))) _ ((hE ⟨rfl,r,r,r,trivial⟩ ⟨rfl,trivial⟩))
  ·exact sK<|bM<|xS<|rG<|mV r r<|bN (v:=.int .i64 (IntKind.i64.wrap (i4 + 1))) r r r r r<|aS r r<|nI<|xL (s:=(out3,IntKind.i64.wrap (i4 + 1))) _ ((hE ⟨rfl,r,r,r,trivial⟩ ⟨rfl,trivial⟩))
 ·refine eT<|xE<|lE<|bH<|xS<|sQ<|rG<|mV r r<|aO (l:=out3) (en:=Lu) r r r r<|nI<|xS<|rT<|LY (b:=out3) r ?_ r r ?_ r ?_ (congrArg D.sl (Lz _ _ r)) r
  all_goals first|(simp;done)|(simp;omega)|rfl|(simp [LG,LD];done)

def Abf : LJ:=(.seq (.reg [P 1 (.box (T 0) 5 66),⟨(some 2),(.asg (.c .nils) (some ⟨1,3⟩)),none,[]⟩] false) (.seq (.seq (.reg [P 3 (.fldA 0 (T 1)),P 4 (.ld 1 false (T 3)),P 5 (.bin .eql (T 4) (C 15)),M 6 5,⟨(some 7),(.fldA 0 (T 1)),(some ⟨6,false⟩),[]⟩,⟨(some 8),(.ld 1 false (T 7)),(some ⟨6,false⟩),[]⟩,⟨(some 9),(.bin .eql (T 8) (C 17)),(some ⟨6,false⟩),[]⟩,P 10 (.pick (T 6) (.c (.bool true)) (T 9))] false) (.cond (T 10) (.seq (.reg [P 11 (.fldA 2 (T 1)),P 12 (.ld 1 false (T 11)),⟨(some 13),(.bldS 1 3 (.int .i64 0) 1 [⟨0,(T 12)⟩]),none,[]⟩,⟨(some 2),(.asg (T 13) (some ⟨1,3⟩)),none,[]⟩] false) .ret) .skip)) (.seq (.reg [⟨(some 2),(.asg (.c .nils) (some ⟨1,3⟩)),none,[]⟩] false) .ret)))
theorem AdJ : (Tryd.f61.body.bind (LM Tryd.prog Tryd.f61.ntmps)) = some Abf:=by kernel_rfl
theorem AdK : Tryd.f61.results.toList.mapM (Me Tryd.prog) = some [(.t 2)]:=by kernel_rfl
def Td (a : Lv) : List D:=[Lx a]
def Tc (ds : List D) : Lv:=QO (ds.getD 0 .top)
theorem TU (a : Lv) : Tc (Td a) = a:=by simp [Tc,Td]
def Xl (b : (List Int)) : D:=.sl (b.map Lu)
def Xk (_b : (List Int)) : List D:=[]
noncomputable def UR : Dw.Spec:=LL [] (.row 1 3) Td Tc (fun a=>PO a) Xl Xk
set_option maxHeartbeats 4000000 in
theorem YJ : LI Tryd.prog 61 UR:=by
 refine Mg (MO) Tryd.func61 (by decide) AdJ AdK (np:=1) (by decide) TU (fun _=>r) (fun _=>r) (by decide)<|?_
 intro x1
 show TrE (specs []) Abf (Mi [] (.row 1 3) [(.t 2)] Xl Xk) ⟨[(0,.agg [.int .i64 x1.Op,.int .i64 x1.A,.int .i64 x1.B,.int .i64 x1.C,.int .u64 x1.Imm])],[],262144⟩ (PO x1)
 refine LW<|?_
 unfold Abf PO
 refine sQ<|rG<|bX r r r r r<|aN (α:=Int) r Lu r<|nI<|xS<|sQ<|sQ<|rG<|fA r r<|lO (v:=.int .i64 x1.Op) (z:=.agg [.int .i64 x1.Op,.int .i64 x1.A,.int .i64 x1.B,.int .i64 x1.C,.int .u64 x1.Imm]) r r r r r r<|bN (v:=.bool (x1.Op == 15)) r r r r r<|mV r r<|sP 6 (b:=(x1.Op == 15)) r ?_ ?_
 ·refine oF r<|oF r<|oF r<|pT r r r r<|nI<|xS<|QN r<|sQ<|rG<|fA r r<|lO (v:=.int .i64 x1.B) (z:=.agg [.int .i64 x1.Op,.int .i64 x1.A,.int .i64 x1.B,.int .i64 x1.C,.int .u64 x1.Imm]) r r r r r r<|bS ([x1.B] : List Int) Lu r r r (by simp) r r r<|aO (l:=([x1.B] : List Int)) (en:=Lu) r r r r<|nI<|xS<|rT<|xR<|LY (b:=([x1.B] : List Int)) r ?_ r r ?_ r ?_ (congrArg D.sl (Lz _ _ r)) r
  all_goals first|(simp;done)|(simp;omega)|rfl|(simp [LG,LD];done)
 ·refine fA r r<|lO (v:=.int .i64 x1.Op) (z:=.agg [.int .i64 x1.Op,.int .i64 x1.A,.int .i64 x1.B,.int .i64 x1.C,.int .u64 x1.Imm]) r r r r r r<|bN (v:=.bool (x1.Op == 17)) r r r r r<|pF r r r r<|nI<|xS<|cD (c:=(x1.Op == 17)) r ?_ ?_
  ·refine sQ<|rG<|fA r r<|lO (v:=.int .i64 x1.B) (z:=.agg [.int .i64 x1.Op,.int .i64 x1.A,.int .i64 x1.B,.int .i64 x1.C,.int .u64 x1.Imm]) r r r r r r<|bS ([x1.B] : List Int) Lu r r r (by simp) r r r<|aO (l:=([x1.B] : List Int)) (en:=Lu) r r r r<|nI<|xS<|rT<|xR<|LY (b:=([x1.B] : List Int)) r ?_ r r ?_ r ?_ (congrArg D.sl (Lz _ _ r)) r
   all_goals first|(simp;done)|(simp;omega)|rfl|(simp [LG,LD];done)
  ·refine sK<|xS<|sQ<|rG<|aN (α:=Int) r Lu r<|nI<|xS<|rT<|LY (b:=([] : List Int)) r ?_ r r ?_ r ?_ (congrArg D.sl (Lz _ _ r)) r
   all_goals first|(simp;done)|(simp;omega)|rfl|(simp [LG,LD];done)

def Abn : LJ:=(.seq (.reg [P 2 (.asg (.c (.bool false)) none)] false) (.seq (.reg [M 3 0,P 4 (.bin .geq (T 3) (C 0)),M 5 4,⟨(some 6),(.mv (T 0)),(some ⟨5,true⟩),[]⟩,⟨(some 7),(.bin .lss (T 6) (C 512)),(some ⟨5,true⟩),[]⟩,P 8 (.pick (T 5) (T 7) (.c (.bool false))),P 2 (.asg (T 8) none)] false) .ret))
theorem AdZ : (Tryd.f80.body.bind (LM Tryd.prog Tryd.f80.ntmps)) = some Abn:=by kernel_rfl
theorem Aea : Tryd.f80.results.toList.mapM (Me Tryd.prog) = some [(.t 2)]:=by kernel_rfl
def SY (a : Int) : List D:=[.int .i64 a]
def SX (ds : List D) : Int:=uI (ds.getD 0 .top)
theorem WH (a : Int) : SX (SY a) = a:=by simp [SX,SY,uI]
def Xg (b : Bool) : D:=.bool b
def Xf (_b : Bool) : List D:=[]
noncomputable def UM : Dw.Spec:=LL [] .ground SY SX (fun a=>QW a) Xg Xf
set_option maxHeartbeats 4000000 in
theorem YH : LI Tryd.prog 80 UM:=by
 refine Mg (MO) Tryd.func80 (by decide) AdZ Aea (np:=1) (by decide) WH (fun _=>r) (fun _=>r) (by decide)<|?_
 intro n1
 show TrE (specs []) Abn (Mi [] .ground [(.t 2)] Xg Xf) ⟨[(0,.int .i64 n1)],[],262144⟩ (QW n1)
 refine LW<|?_
 unfold Abn QW
 refine sQ<|rG<|aS r r<|nI<|xS<|sQ<|rG<|mV r r<|bN (v:=.bool (decide (n1 ≥ 0))) r r r r r<|mV r r<|sP 5 (b:=(decide (n1 ≥ 0))) r ?_ ?_
 ·refine mV r r<|bN (v:=.bool (decide (n1 < 512))) r r r r r<|pT r r r r<|aS r r<|nI<|xS<|rT<|LR (b:=(decide (n1 < 512))) r ?_ r r ?_ r
  all_goals first|(simp;done)|(simp;omega)|rfl|(simp [LG,LD];done)
 ·refine oF r<|oF r<|pF r r r r<|aS r r<|nI<|xS<|rT<|LR (b:=false) r ?_ r r ?_ r
  all_goals first|(simp;done)|(simp;omega)|rfl|(simp [LG,LD];done)

def AaW : LJ:=(.seq (.reg [⟨(some 4),(.asg (.c .nils) (some ⟨1,3⟩)),none,[]⟩] false) (.seq (.reg [⟨(some 5),(.asg (.c .nils) (some ⟨1,3⟩)),none,[]⟩] false) (.seq (.reg [M 8 1,P 9 (.call (.c (.clo 80 [])) [(T 8)]),P 10 (.un .not (T 9)),P 6 (.asg (T 10) none)] false) (.seq (.seq (.reg [P 7 (.asg (C 0) none)] false) (.block 0 (.loop (.seq (.seq (.reg [M 11 7,M 12 0,P 13 (.len false (T 12)),P 14 (.bin .lss (T 11) (T 13))] false) (.cond (T 14) .skip (.exit 0))) (.seq (.block 1 (.seq (.seq (.reg [M 17 6,P 18 (.un .not (T 17)),M 19 18,⟨(some 20),(.mv (T 0)),(some ⟨19,true⟩),[]⟩,⟨(some 21),(.mv (T 7)),(some ⟨19,true⟩),[]⟩,⟨(some 22),(.ixA 1 (T 20) (T 21)),(some ⟨19,true⟩),[]⟩,⟨(some 23),(.ld 1 false (T 22)),(some ⟨19,true⟩),[]⟩,⟨(some 24),(.mv (T 1)),(some ⟨19,true⟩),[]⟩,⟨(some 25),(.bin .geq (T 23) (T 24)),(some ⟨19,true⟩),[]⟩,P 26 (.pick (T 19) (T 25) (.c (.bool false)))] false) (.cond (T 26) (.seq (.seq (.reg [M 27 0,M 28 7,P 29 (.ixA 1 (T 27) (T 28)),P 30 (.ld 1 false (T 29)),M 31 1,P 32 (.bin .gtr (T 30) (T 31))] false) (.cond (T 32) (.reg [M 33 5,M 34 1,⟨(some 35),(.bldS 1 3 (.int .i64 0) 1 [⟨0,(T 34)⟩]),none,[]⟩,P 36 (.app 1 3 8 (T 33) (T 35)),⟨(some 5),(.asg (T 36) (some ⟨1,3⟩)),none,[]⟩] false) .skip)) (.reg [P 6 (.asg (.c (.bool true)) none)] false)) .skip)) (.reg [M 37 5,M 38 0,M 39 7,P 40 (.ixA 1 (T 38) (T 39)),P 41 (.ld 1 false (T 40)),⟨(some 42),(.bldS 1 3 (.int .i64 0) 1 [⟨0,(T 41)⟩]),none,[]⟩,P 43 (.app 1 3 8 (T 37) (T 42)),⟨(some 5),(.asg (T 43) (some ⟨1,3⟩)),none,[]⟩] false))) (.reg [M 15 7,P 16 (.bin .add (T 15) (C 1)),P 7 (.asg (T 16) none)] false)))))) (.seq (.seq (.reg [M 44 6,P 45 (.un .not (T 44))] false) (.cond (T 45) (.reg [M 46 5,M 47 1,⟨(some 48),(.bldS 1 3 (.int .i64 0) 1 [⟨0,(T 47)⟩]),none,[]⟩,P 49 (.app 1 3 8 (T 46) (T 48)),⟨(some 5),(.asg (T 49) (some ⟨1,3⟩)),none,[]⟩] false) .skip)) (.seq (.reg [M 50 5,⟨(some 4),(.asg (T 50) (some ⟨1,3⟩)),none,[]⟩] false) .ret))))))
theorem Adp : (Tryd.f44.body.bind (LM Tryd.prog Tryd.f44.ntmps)) = some AaW:=by kernel_rfl
theorem Adq : Tryd.f44.results.toList.mapM (Me Tryd.prog) = some [(.t 4)]:=by kernel_rfl
def RF (a : (List Int) × Int) : List D:=[.sl (a.1.map Lu),.int .i64 a.2]
def TT (ds : List D) : (List Int) × Int:=((uL uI) (ds.getD 0 .top),uI (ds.getD 1 .top))
theorem UJ (a : (List Int) × Int) : TT (RF a) = a:=by simp [TT,RF,uI,NT (u:=uI) (en:=Lu) (fun _=>rfl)]
def XP (b : (List Int)) : D:=.sl (b.map Lu)
def XO (_b : (List Int)) : List D:=[]
noncomputable def Rz : Dw.Spec:=LL [] (.row 1 3) RF TT (fun a=>PH a.1 a.2) XP XO
set_option maxHeartbeats 4000000 in
theorem Xc : LI Tryd.prog 44 Rz:=by
 refine Mg (LV (l:=[(80,UM)]) (by simp [YH])) Tryd.func44 (by decide) Adp Adq (np:=2) (by decide) UJ (fun _=>r) (fun _=>r) (by decide)<|?_
 rintro ⟨s1,n2⟩
 show TrE (specs [(80,UM)]) AaW (Mi [] (.row 1 3) [(.t 4)] XP XO) ⟨[(0,.sl (s1.map Lu)),(1,.int .i64 n2)],[],262144⟩ (PH s1 n2)
 refine LW<|?_
 unfold AaW PH
 refine sQ<|rG<|aN (α:=Int) r Lu r<|nI<|xS<|sQ<|rG<|aN (α:=Int) r Lu r<|nI<|xS<|sQ<|rG<|mV r r<|bD fun r3 hr3=>cG n2 r r r WH r r (by simp) r hr3 r<|uN (w:=.bool (!r3)) r r r r trivial<|aS r r<|nI<|xS<|sQ<|sQ<|rG<|aS r r<|nI<|xS<|bK<|lP (E:=fun (s : (List Int) × Bool × Int) (g : Nat)=>[(0,.sl (s1.map Lu)),(1,.int .i64 n2),(5,.osl 5 g 0 s.1.length),(6,.bool s.2.1),(7,.int .i64 s.2.2)]) (O:=fun s g=>[(5,some (g,⟨false,false,1,3,s.1.map Lu⟩))]) (body:=fun s=>MU s1 n2 s.1 s.2.1 s.2.2) (s:=(([] : List Int),(!r3),0)) _ ((hE ⟨rfl,r,r,r,r,trivial⟩ ⟨rfl,trivial⟩))<|?_
 rintro ⟨out4,done5,i6⟩ v5x1 nn
 try dsimp only
 unfold MU
 refine sQ<|sQ<|rG<|mV r r<|mV r r<|lS r r<|bN (v:=.bool (decide (i6 < (s1.length : Int)))) r r r r r<|nI<|xS<|cD (c:=(decide (i6 < (s1.length : Int)))) r ?_ ?_
 ·refine sK<|xS<|sQ<|bK<|sC (E:=fun (s : (List Int) × Bool) (g : Nat)=>[(0,.sl (s1.map Lu)),(1,.int .i64 n2),(5,.osl 5 g 0 s.1.length),(6,.bool s.2),(7,.int .i64 i6)]) (O:=fun s g=>[(5,some (g,⟨false,false,1,3,s.1.map Lu⟩))]) (j:=fun s=>NB s1 i6 s.1 s.2) ?_ ?_
  ·refine sC (E:=fun (s : Bool) (g : Nat)=>[(0,.sl (s1.map Lu)),(1,.int .i64 n2),(5,.osl 5 g 0 out4.length),(6,.bool done5),(7,.int .i64 i6),(26,.bool s)]) (O:=fun s g=>[(5,some (g,⟨false,false,1,3,out4.map Lu⟩))]) (j:=fun s=>NS s1 i6 n2 out4 done5 s) ?_ ?_
   ·refine rG<|mV r r<|uN (w:=.bool (!done5)) r r r r trivial<|mV r r<|sP 19 (b:=(!done5)) r ?_ ?_
    ·exact mV r r<|mV r r<|bD fun x_x10 hx_x10=>iS (en:=Lu) r r r hx_x10 r<|lF (v:=.int .i64 x_x10) r r r r<|mV r r<|bN (v:=.bool (decide (x_x10 ≥ n2))) r r r r r<|pT r r r r<|nI<|xC (s:=(decide (x_x10 ≥ n2))) _ ((hE ⟨rfl,r,r,r,r,r,trivial⟩ ⟨rfl,trivial⟩))
    ·exact oF r<|oF r<|oF r<|oF r<|oF r<|oF r<|pF r r r r<|nI<|xC (s:=false) _ ((hE ⟨rfl,r,r,r,r,r,trivial⟩ ⟨rfl,trivial⟩))
   ·rintro x9 v5x2 nn
    try dsimp only
    unfold NS
    refine cD (c:=x9) r ?_ ?_
    ·refine sQ<|sQ<|rG<|mV r r<|mV r r<|bD fun x_x11 hx_x11=>iS (en:=Lu) r r r hx_x11 r<|lF (v:=.int .i64 x_x11) r r r r<|mV r r<|bN (v:=.bool (decide (x_x11 > n2))) r r r r r<|nI<|xS<|cD (c:=(decide (x_x11 > n2))) r ?_ ?_
     ·exact rG<|mV r r<|mV r r<|bS ([n2] : List Int) Lu r r r (by simp) r r r<|cK fun hq=>aP (out4) (([n2] : List Int)) Lu r r r r r r r (by simp) (LO _ _ r) r r (by simp) (Lz _ _ r) (fun _=>r) r hq<|aO (l:=out4 ++ ([n2] : List Int)) (en:=Lu) r r r r<|nI<|xS<|rG<|aS r r<|nI<|xC (s:=(out4 ++ ([n2] : List Int),true)) _ ((hE ⟨rfl,r,r,r,r,trivial⟩ ⟨rfl,trivial⟩))
     ·exact sK<|xS<|rG<|aS r r<|nI<|xC (s:=(out4,true)) _ ((hE ⟨rfl,r,r,r,r,trivial⟩ ⟨rfl,trivial⟩))
    ·exact sK<|xC (s:=(out4,done5)) _ ((hE ⟨rfl,r,r,r,r,trivial⟩ ⟨rfl,trivial⟩))
  ·rintro ⟨out7,done8⟩ v5x3 nn
   try dsimp only
   unfold NB
   exact rG<|mV r r<|mV r r<|mV r r<|bD fun x_x12 hx_x12=>iS (en:=Lu) r r r hx_x12 r<|lF (v:=.int .i64 x_x12) r r r r<|bS ([x_x12] : List Int) Lu r r r (by simp) r r r<|cK fun hq=>aP (out7) (([x_x12] : List Int)) Lu r r r r r r r (by simp) (LO _ _ r) r r (by simp) (Lz _ _ r) (fun _=>r) r hq<|aO (l:=out7 ++ ([x_x12] : List Int)) (en:=Lu) r r r r<|nI<|bM<|xS<|rG<|mV r r<|bN (v:=.int .i64 (IntKind.i64.wrap (i6 + 1))) r r r r r<|aS r r<|nI<|xL (s:=(out7 ++ ([x_x12] : List Int),done8,IntKind.i64.wrap (i6 + 1))) _ ((hE ⟨rfl,r,r,r,r,trivial⟩ ⟨rfl,trivial⟩))
 ·refine eT<|xE<|lE<|bH<|xS<|sQ<|sQ<|rG<|mV r r<|uN (w:=.bool (!done5)) r r r r trivial<|nI<|xS<|cD (c:=(!done5)) r ?_ ?_
  ·refine rG<|mV r r<|mV r r<|bS ([n2] : List Int) Lu r r r (by simp) r r r<|cK fun hq=>aP (out4) (([n2] : List Int)) Lu r r r r r r r (by simp) (LO _ _ r) r r (by simp) (Lz _ _ r) (fun _=>r) r hq<|aO (l:=out4 ++ ([n2] : List Int)) (en:=Lu) r r r r<|nI<|xS<|sQ<|rG<|mV r r<|aO (l:=out4 ++ ([n2] : List Int)) (en:=Lu) r r r r<|nI<|xS<|rT<|LY (b:=out4 ++ ([n2] : List Int)) r ?_ r r ?_ r ?_ (congrArg D.sl (Lz _ _ r)) r
   all_goals first|(simp;done)|(simp;omega)|rfl|(simp [LG,LD];done)
  ·refine sK<|xS<|sQ<|rG<|mV r r<|aO (l:=out4) (en:=Lu) r r r r<|nI<|xS<|rT<|LY (b:=out4) r ?_ r r ?_ r ?_ (congrArg D.sl (Lz _ _ r)) r
   all_goals first|(simp;done)|(simp;omega)|rfl|(simp [LG,LD];done)

def AaQ : LJ:=(.seq (.reg [⟨(some 4),(.asg (.c .nils) (some ⟨1,3⟩)),none,[]⟩] false) (.seq (.reg [M 7 0,P 8 (.app 1 3 8 (.c .nils) (T 7)),⟨(some 5),(.asg (T 8) (some ⟨1,3⟩)),none,[]⟩] false) (.seq (.seq (.reg [P 6 (.asg (C 0) none)] false) (.block 0 (.loop (.seq (.seq (.reg [M 9 6,M 10 1,P 11 (.len false (T 10)),P 12 (.bin .lss (T 9) (T 11))] false) (.cond (T 12) .skip (.exit 0))) (.seq (.block 1 (.reg [M 15 5,M 16 1,M 17 6,P 18 (.ixA 1 (T 16) (T 17)),P 19 (.ld 1 false (T 18)),P 20 (.call (.c (.clo 44 [])) [(T 15),(T 19)]),⟨(some 5),(.asg (T 20) (some ⟨1,3⟩)),none,[]⟩] false)) (.reg [M 13 6,P 14 (.bin .add (T 13) (C 1)),P 6 (.asg (T 14) none)] false)))))) (.seq (.reg [M 21 5,⟨(some 4),(.asg (T 21) (some ⟨1,3⟩)),none,[]⟩] false) .ret))))
theorem Adc : (Tryd.f27.body.bind (LM Tryd.prog Tryd.f27.ntmps)) = some AaQ:=by kernel_rfl
theorem Ade : Tryd.f27.results.toList.mapM (Me Tryd.prog) = some [(.t 4)]:=by kernel_rfl
def NZ (a : (List Int) × (List Int)) : List D:=[.sl (a.1.map Lu),.sl (a.2.map Lu)]
def Sx (ds : List D) : (List Int) × (List Int):=((uL uI) (ds.getD 0 .top),(uL uI) (ds.getD 1 .top))
theorem QV (a : (List Int) × (List Int)) : Sx (NZ a) = a:=by simp [Sx,NZ,NT (u:=uI) (en:=Lu) (fun _=>rfl)]
def WG (b : (List Int)) : D:=.sl (b.map Lu)
def WE (_b : (List Int)) : List D:=[]
noncomputable def PS : Dw.Spec:=LL [] (.row 1 3) NZ Sx (fun a=>Oj a.1 a.2) WG WE
set_option maxHeartbeats 4000000 in
theorem VL : LI Tryd.prog 27 PS:=by
 refine Mg (LV (l:=[(44,Rz)]) (by simp [Xc])) Tryd.func27 (by decide) Adc Ade (np:=2) (by decide) QV (fun _=>r) (fun _=>r) (by decide)<|?_
 rintro ⟨a1,b2⟩
 show TrE (specs [(44,Rz)]) AaQ (Mi [] (.row 1 3) [(.t 4)] WG WE) ⟨[(0,.sl (a1.map Lu)),(1,.sl (b2.map Lu))],[],262144⟩ (Oj a1 b2)
 refine LW<|?_
 unfold AaQ Oj
 refine sQ<|rG<|aN (α:=Int) r Lu r<|nI<|xS<|sQ<|rG<|mV r r<|cK fun hq=>aP (([] : List Int)) (a1) Lu r r r r r r r (by simp) r r r (by simp) r (fun _=>r) r hq<|aO (l:=([] : List Int) ++ a1) (en:=Lu) r r r r<|nI<|xS<|sQ<|sQ<|rG<|aS r r<|nI<|xS<|bK<|lP (E:=fun (s : (List Int) × Int) (g : Nat)=>[(1,.sl (b2.map Lu)),(5,.osl 5 g 0 s.1.length),(6,.int .i64 s.2)]) (O:=fun s g=>[(5,some (g,⟨false,false,1,3,s.1.map Lu⟩))]) (body:=fun s=>Om b2 s.1 s.2) (s:=(([] : List Int) ++ a1,0)) _ ((hE ⟨rfl,r,r,trivial⟩ ⟨rfl,trivial⟩))<|?_
 rintro ⟨out3,i4⟩ v5x1 nn
 try dsimp only
 unfold Om
 refine sQ<|sQ<|rG<|mV r r<|mV r r<|lS r r<|bN (v:=.bool (decide (i4 < (b2.length : Int)))) r r r r r<|nI<|xS<|cD (c:=(decide (i4 < (b2.length : Int)))) r ?_ ?_
 ·exact sK<|xS<|sQ<|bK<|rG<|mV r r<|mV r r<|mV r r<|bD fun x_x5 hx_x5=>iS (en:=Lu) r r r hx_x5 r<|lF (v:=.int .i64 x_x5) r r r r<|bD fun r6 hr6=>cR (l:=r6) (en:=Lu) (out3,x_x5) r r r UJ r r (by simp) (by first | rfl | (simp only [Ma,Ml]; rfl) | simp [RF]) hr6 r<|aO (l:=r6) (en:=Lu) r r r r<|nI<|bM<|xS<|rG<|mV r r<|bN (v:=.int .i64 (IntKind.i64.wrap (i4 + 1))) r r r r r<|aS r r<|nI<|xL (s:=(r6,IntKind.i64.wrap (i4 + 1))) _ ((hE ⟨rfl,r,r,trivial⟩ ⟨rfl,trivial⟩))
 ·refine eT<|xE<|lE<|bH<|xS<|sQ<|rG<|mV r r<|aO (l:=out3) (en:=Lu) r r r r<|nI<|xS<|rT<|LY (b:=out3) r ?_ r r ?_ r ?_ (congrArg D.sl (Lz _ _ r)) r
  all_goals first|(simp;done)|(simp;omega)|rfl|(simp [LG,LD];done)

def Abl : LJ:=(.seq (.reg [P 2 (.box (T 0) 5 66),⟨(some 4),(.asg (.c .nils) (some ⟨1,3⟩)),none,[]⟩] false) (.seq (.seq (.reg [P 8 (.ld 5 true (T 2)),P 9 (.call (.c (.clo 62 [])) [(T 8)]),M 7 9,P 10 (.ext (T 7) 0),P 11 (.ext (T 7) 1),P 5 (.asg (T 10) none),P 6 (.asg (T 11) none)] false) (.seq (.reg [M 12 6] false) (.cond (T 12) (.reg [M 13 1,M 14 5,P 15 (.call (.c (.clo 29 [])) [(T 13),(T 14)]),⟨(some 1),(.asg (T 15) (some ⟨1,3⟩)),none,[]⟩] false) .skip))) (.seq (.reg [M 16 1,P 17 (.ld 5 true (T 2)),P 18 (.call (.c (.clo 61 [])) [(T 17)]),P 19 (.call (.c (.clo 27 [])) [(T 16),(T 18)]),⟨(some 4),(.asg (T 19) (some ⟨1,3⟩)),none,[]⟩] false) .ret)))
theorem AdV : (Tryd.f75.body.bind (LM Tryd.prog Tryd.f75.ntmps)) = some Abl:=by kernel_rfl
theorem AdW : Tryd.f75.results.toList.mapM (Me Tryd.prog) = some [(.t 4)]:=by kernel_rfl
def UQ (a : Lv × (List Int)) : List D:=[Lx a.1,.sl (a.2.map Lu)]
def UP (ds : List D) : Lv × (List Int):=(QO (ds.getD 0 .top),(uL uI) (ds.getD 1 .top))
theorem XQ (a : Lv × (List Int)) : UP (UQ a) = a:=by simp [UP,UQ,NT (u:=uI) (en:=Lu) (fun _=>rfl)]
def Yj (b : (List Int)) : D:=.sl (b.map Lu)
def Yi (_b : (List Int)) : List D:=[]
noncomputable def Wp : Dw.Spec:=LL [] (.row 1 3) UQ UP (fun a=>Tb a.1 a.2) Yj Yi
set_option maxHeartbeats 4000000 in
theorem ZB : LI Tryd.prog 75 Wp:=by
 refine Mg (LV (l:=[(62,Sy),(29,SU),(61,UR),(27,PS)]) (by simp [Ya,Yh,YJ,VL])) Tryd.func75 (by decide) AdV AdW (np:=2) (by decide) XQ (fun _=>r) (fun _=>r) (by decide)<|?_
 rintro ⟨x1,out2⟩
 show TrE (specs [(62,Sy),(29,SU),(61,UR),(27,PS)]) Abl (Mi [] (.row 1 3) [(.t 4)] Yj Yi) ⟨[(0,.agg [.int .i64 x1.Op,.int .i64 x1.A,.int .i64 x1.B,.int .i64 x1.C,.int .u64 x1.Imm]),(1,.sl (out2.map Lu))],[],262144⟩ (Tb x1 out2)
 refine LW<|?_
 unfold Abl Tb
 refine sQ<|rG<|bX r r r r r<|aN (α:=Int) r Lu r<|nI<|xS<|sQ<|sQ<|rG<|lO (v:=.agg [.int .i64 x1.Op,.int .i64 x1.A,.int .i64 x1.B,.int .i64 x1.C,.int .u64 x1.Imm]) (z:=.agg [.int .i64 x1.Op,.int .i64 x1.A,.int .i64 x1.B,.int .i64 x1.C,.int .u64 x1.Imm]) r r r r r r<|bD fun r3 hr3=>cG x1 r r r UO r r (by simp) r hr3 r<|mV r r<|eX (v:=.int .i64 r3.1) r r r<|eX (v:=.bool r3.2) r r r<|aS r r<|aS r r<|nI<|xS<|sQ<|rG<|mV r r<|nI<|xS<|cD (c:=r3.2) r ?_ ?_
 ·refine rG<|mV r r<|mV r r<|bD fun r4 hr4=>cR (l:=r4) (en:=Lu) (out2,r3.1) r r r Vk r r (by simp) r hr4 r<|aO (l:=r4) (en:=Lu) r r r r<|nI<|xS<|sQ<|rG<|mV r r<|lO (v:=.agg [.int .i64 x1.Op,.int .i64 x1.A,.int .i64 x1.B,.int .i64 x1.C,.int .u64 x1.Imm]) (z:=.agg [.int .i64 x1.Op,.int .i64 x1.A,.int .i64 x1.B,.int .i64 x1.C,.int .u64 x1.Imm]) r r r r r r<|bD fun r5 hr5=>cR (l:=r5) (en:=Lu) x1 r r r TU r r (by simp) r hr5 r<|bD fun r6 hr6=>cR (l:=r6) (en:=Lu) (r4,r5) r r r QV r r (by simp) (by first | rfl | (simp only [Ma,Ml]; rfl) | simp [NZ]) hr6 r<|aO (l:=r6) (en:=Lu) r r r r<|nI<|xS<|rT<|LY (b:=r6) r ?_ r r ?_ r ?_ (congrArg D.sl (Lz _ _ r)) r
  all_goals first|(simp;done)|(simp;omega)|rfl|(simp [LG,LD];done)
 ·refine sK<|xS<|sQ<|rG<|mV r r<|lO (v:=.agg [.int .i64 x1.Op,.int .i64 x1.A,.int .i64 x1.B,.int .i64 x1.C,.int .u64 x1.Imm]) (z:=.agg [.int .i64 x1.Op,.int .i64 x1.A,.int .i64 x1.B,.int .i64 x1.C,.int .u64 x1.Imm]) r r r r r r<|bD fun r7 hr7=>cR (l:=r7) (en:=Lu) x1 r r r TU r r (by simp) r hr7 r<|bD fun r8 hr8=>cR (l:=r8) (en:=Lu) (out2,r7) r r r QV r r (by simp) (by first | rfl | (simp only [Ma,Ml]; rfl) | simp [NZ]) hr8 r<|aO (l:=r8) (en:=Lu) r r r r<|nI<|xS<|rT<|LY (b:=r8) r ?_ r r ?_ r ?_ (congrArg D.sl (Lz _ _ r)) r
  all_goals first|(simp;done)|(simp;omega)|rfl|(simp [LG,LD];done)

def AaV : LJ:=(.seq (.reg [P 2 (.box (T 0) 3 27),P 3 (.box (T 1) 1 30),P 4 (.new (.agg [.nils]) 1 30)] false) (.seq (.reg [P 10 (.fldA 2 (T 2)),P 11 (.ld 1 false (T 10)),P 12 (.len false (T 11)),P 13 (.mkS 1 36 24 .nils (T 12) (T 12)),⟨(some 14),(.bld [.nils] [⟨0,⟨1,(T 13)⟩⟩]),none,[]⟩,P 5 (.new (.agg [.nils]) 1 30),⟨none,(.st 1 (T 5) (T 14)),none,[]⟩] false) (.seq (.seq (.reg [P 6 (.asg (C 0) none)] false) (.block 0 (.loop (.seq (.seq (.reg [M 15 6,P 16 (.fldA 2 (T 2)),P 17 (.ld 1 false (T 16)),P 18 (.len false (T 17)),P 19 (.bin .lss (T 15) (T 18))] false) (.cond (T 19) .skip (.exit 0))) (.seq (.block 1 (.seq (.reg [P 22 (.ld 3 true (T 2)),M 23 6,P 24 (.call (.c (.clo 60 [])) [(T 22),(T 23)]),⟨(some 7),(.asg (T 24) (some ⟨1,3⟩)),none,[]⟩] false) (.seq (.reg [P 8 (.asg (C 0) none)] false) (.block 2 (.loop (.seq (.seq (.reg [M 25 8,M 26 7,P 27 (.len false (T 26)),P 28 (.bin .lss (T 25) (T 27))] false) (.cond (T 28) .skip (.exit 2))) (.seq (.block 3 (.seq (.reg [M 31 7,M 32 8,P 33 (.ixA 1 (T 31) (T 32)),P 34 (.ld 1 false (T 33)),P 9 (.asg (T 34) none)] false) (.reg [P 35 (.fldA 0 (T 5)),⟨(some 36),(.ld 1 false (T 35)),none,[0]⟩,M 37 6,P 38 (.fldA 0 (T 5)),⟨(some 39),(.ld 1 false (T 38)),none,[3]⟩,M 40 6,⟨(some 41),(.ixA 1 (T 39) (T 40)),none,[4,5]⟩,⟨(some 42),(.ld 1 false (T 41)),none,[6]⟩,P 43 (.fldA 2 (T 2)),⟨(some 44),(.ld 1 false (T 43)),none,[8]⟩,M 45 9,⟨(some 46),(.ixA 5 (T 44) (T 45)),none,[9,10]⟩,⟨(some 47),(.ld 5 true (T 46)),none,[11]⟩,P 48 (.fldA 0 (T 3)),⟨(some 49),(.ld 1 false (T 48)),none,[13]⟩,M 50 9,⟨(some 51),(.ixA 1 (T 49) (T 50)),none,[14,15]⟩,⟨(some 52),(.ld 1 false (T 51)),none,[16]⟩,⟨(some 53),(.call (.c (.clo 75 [])) [(T 47),(T 52)]),none,[12,17]⟩,⟨(some 54),(.call (.c (.clo 27 [])) [(T 42),(T 53)]),none,[7,18,18]⟩,⟨(some 55),(.ixA 1 (T 36) (T 37)),none,[1,2,0,1,2,3,4,5,6,7,8,9,10,11,12,13,14,15,16,17,18,19]⟩,⟨none,(.st 1 (T 55) (T 54)),none,[20,19,19,0,1,2,3,4,5,6,7,8,9,10,11,12,13,14,15,16,17,18,19]⟩] true))) (.reg [M 29 8,P 30 (.bin .add (T 29) (C 1)),P 8 (.asg (T 30) none)] false)))))))) (.reg [M 20 6,P 21 (.bin .add (T 20) (C 1)),P 6 (.asg (T 21) none)] false)))))) (.seq (.reg [P 56 (.ld 1 true (T 5)),⟨none,(.st 1 (T 4) (T 56)),none,[]⟩] false) .ret))))
theorem Adn : (Tryd.f38.body.bind (LM Tryd.prog Tryd.f38.ntmps)) = some AaV:=by kernel_rfl
theorem Ado : Tryd.f38.results.toList.mapM (Me Tryd.prog) = some [(.c 4 1 true)]:=by kernel_rfl
def Ti (a : LA × LK) : List D:=[Mv a.1,OZ a.2]
def Th (ds : List D) : LA × LK:=(Rc (ds.getD 0 .top),Wv (ds.getD 1 .top))
theorem WN (a : LA × LK) : Th (Ti a) = a:=by simp [Th,Ti]
def US (b : LK) : D:=OZ b
def Xo (_b : LK) : List D:=[]
noncomputable def UT : Dw.Spec:=LL [] .val Ti Th (fun a=>QZ a.1 a.2) US Xo
set_option maxHeartbeats 4000000 in
theorem YK : LI Tryd.prog 38 UT:=by
 refine Mg (LV (l:=[(60,UN),(75,Wp),(27,PS)]) (by simp [YI,ZB,VL])) Tryd.func38 (by decide) Adn Ado (np:=2) (by decide) WN (fun _=>r) (fun _=>r) (by decide)<|?_
 rintro ⟨f1,l2⟩
 show TrE (specs [(60,UN),(75,Wp),(27,PS)]) AaV (Mi [] .val [(.c 4 1 true)] US Xo) ⟨[(0,.agg [.int .i64 f1.Params,.sl (f1.Slots.map LB),.sl (f1.Code.map Lx)]),(1,.agg [.sl (l2.Out.map (eL Lu))])],[],262144⟩ (QZ f1 l2)
 refine LW<|?_
 unfold AaV QZ
 refine sQ<|rG<|bX r r r r r<|bX r r r r r<|nW r<|nI<|xS<|sQ<|rG<|fA r r<|lO (v:=.sl (f1.Code.map Lx)) (z:=.agg [.int .i64 f1.Params,.sl (f1.Slots.map LB),.sl (f1.Code.map Lx)]) r r r r r r<|lS r r<|cK fun hq=>Tn (α:=Int) r r r hq r<|bL (cs:=[.osl 13 _ 0 ((List.replicate (f1.Code.length : Int).toNat ([] : (List Int))).length)]) (ps:=[(0,1,.osl 13 _ 0 ((List.replicate (f1.Code.length : Int).toNat ([] : (List Int))).length))]) r r r r<|nW r<|sV (z':=.agg [.osl 13 _ 0 ((List.replicate (f1.Code.length : Int).toNat ([] : (List Int))).length)]) r r r r r r r r r<|nI<|PZ (E:=[(2,.optr 2 _ 0 0),(3,.optr 3 _ 0 0),(4,.optr 4 _ 0 0),(5,.optr 5 _ 0 0)]) (O:=[(2,some (_,⟨false,true,3,27,[.agg [.int .i64 f1.Params,.sl (f1.Slots.map LB),.sl (f1.Code.map Lx)]]⟩)),(3,some (_,⟨false,true,1,30,[.agg [.sl (l2.Out.map (eL Lu))]]⟩)),(4,some (_,⟨false,true,1,30,[.agg [.nils]]⟩)),(5,some (_,⟨false,true,1,30,[.agg [.osl 13 _ 0 ((List.replicate (f1.Code.length : Int).toNat ([] : (List Int))).length)]]⟩)),(13,some (_,⟨false,false,1,36,(List.replicate (f1.Code.length : Int).toNat ([] : (List Int))).map (eL Lu)⟩))]) ((Xa (g:=13) r (XX (l:=List.replicate (f1.Code.length : Int).toNat ([] : (List Int))) Lu (fun _ h=>List.eq_of_mem_replicate h)) (hE ⟨rfl,r,r,r,trivial⟩ ⟨rfl,r,r,r,r,trivial⟩))) fun nn=>sQ<|sQ<|rG<|aS r r<|nI<|xS<|bK<|lP (E:=fun (s : (List (List Int)) × Int) (g : Nat × Nat × Nat × Nat × Nat)=>[(2,.optr 2 g.1 0 0),(3,.optr 3 g.2.1 0 0),(4,.optr 4 g.2.2.1 0 0),(5,.optr 5 g.2.2.2.1 0 0),(6,.int .i64 s.2)]) (O:=fun s g=>[(2,some (g.1,⟨false,true,3,27,[.agg [.int .i64 f1.Params,.sl (f1.Slots.map LB),.sl (f1.Code.map Lx)]]⟩)),(3,some (g.2.1,⟨false,true,1,30,[.agg [.sl (l2.Out.map (eL Lu))]]⟩)),(4,some (g.2.2.1,⟨false,true,1,30,[.agg [.nils]]⟩)),(5,some (g.2.2.2.1,⟨false,true,1,30,[.agg [.osl 13 g.2.2.2.2 0 s.1.length]]⟩)),(13,some (g.2.2.2.2,⟨false,false,1,36,s.1.map (eL Lu)⟩))]) (body:=fun s=>OP f1 l2 s.1 s.2) (s:=(List.replicate (f1.Code.length : Int).toNat ([] : (List Int)),0)) (_,_,_,_,_) ((hE ⟨rfl,r,r,r,r,trivial⟩ ⟨rfl,r,r,r,r,trivial⟩))<|?_
 rintro ⟨x3,k4⟩ ⟨v2x1,v3x1,v4x1,v5x1,v13x1⟩ nn
 try dsimp only
 unfold OP
 refine sQ<|sQ<|rG<|mV r r<|fA r r<|lO (v:=.sl (f1.Code.map Lx)) (z:=.agg [.int .i64 f1.Params,.sl (f1.Slots.map LB),.sl (f1.Code.map Lx)]) r r r r r r<|lS r r<|bN (v:=.bool (decide (k4 < (f1.Code.length : Int)))) r r r r r<|nI<|xS<|cD (c:=(decide (k4 < (f1.Code.length : Int)))) r ?_ ?_
 ·refine sK<|xS<|bC (E:=fun (s : (List (List Int))) (g : Nat × Nat × Nat × Nat × Nat)=>[(2,.optr 2 g.1 0 0),(3,.optr 3 g.2.1 0 0),(4,.optr 4 g.2.2.1 0 0),(5,.optr 5 g.2.2.2.1 0 0),(6,.int .i64 k4)]) (O:=fun s g=>[(2,some (g.1,⟨false,true,3,27,[.agg [.int .i64 f1.Params,.sl (f1.Slots.map LB),.sl (f1.Code.map Lx)]]⟩)),(3,some (g.2.1,⟨false,true,1,30,[.agg [.sl (l2.Out.map (eL Lu))]]⟩)),(4,some (g.2.2.1,⟨false,true,1,30,[.agg [.nils]]⟩)),(5,some (g.2.2.2.1,⟨false,true,1,30,[.agg [.osl 13 g.2.2.2.2 0 s.length]]⟩)),(13,some (g.2.2.2.2,⟨false,false,1,36,s.map (eL Lu)⟩))]) (j:=fun s=>RH k4 s) ?_ ?_
  ·refine sQ<|rG<|lO (v:=.agg [.int .i64 f1.Params,.sl (f1.Slots.map LB),.sl (f1.Code.map Lx)]) (z:=.agg [.int .i64 f1.Params,.sl (f1.Slots.map LB),.sl (f1.Code.map Lx)]) r r r r r r<|mV r r<|bD fun r6 hr6=>cR (l:=r6) (en:=Lu) (f1,k4) r r r WI r r (by simp) r hr6 r<|aO (l:=r6) (en:=Lu) r r r r<|nI<|xS<|sQ<|rG<|aS r r<|nI<|xS<|bK<|lP (E:=fun (s : (List (List Int)) × Int) (g : Nat × Nat × Nat × Nat × Nat × Nat)=>[(2,.optr 2 g.1 0 0),(3,.optr 3 g.2.1 0 0),(4,.optr 4 g.2.2.1 0 0),(5,.optr 5 g.2.2.2.1 0 0),(6,.int .i64 k4),(7,.osl 7 g.2.2.2.2.1 0 r6.length),(8,.int .i64 s.2)]) (O:=fun s g=>[(2,some (g.1,⟨false,true,3,27,[.agg [.int .i64 f1.Params,.sl (f1.Slots.map LB),.sl (f1.Code.map Lx)]]⟩)),(3,some (g.2.1,⟨false,true,1,30,[.agg [.sl (l2.Out.map (eL Lu))]]⟩)),(4,some (g.2.2.1,⟨false,true,1,30,[.agg [.nils]]⟩)),(5,some (g.2.2.2.1,⟨false,true,1,30,[.agg [.osl 13 g.2.2.2.2.2 0 s.1.length]]⟩)),(7,some (g.2.2.2.2.1,⟨false,false,1,3,r6.map Lu⟩)),(13,some (g.2.2.2.2.2,⟨false,false,1,36,s.1.map (eL Lu)⟩))]) (body:=fun s=>OQ r6 k4 f1 l2 s.1 s.2) (s:=(x3,0)) (_,_,_,_,_,_) ((hE ⟨rfl,r,r,r,r,r,r,trivial⟩ ⟨rfl,r,r,r,r,r,trivial⟩))<|?_
   rintro ⟨x7,i8⟩ ⟨v2x2,v3x2,v4x2,v5x2,v7x2,v13x2⟩ nn
   try dsimp only
   unfold OQ
   refine sQ<|sQ<|rG<|mV r r<|mV r r<|lW r r<|bN (v:=.bool (decide (i8 < (r6.length : Int)))) r r r r r<|nI<|xS<|cD (c:=(decide (i8 < (r6.length : Int)))) r ?_ ?_
   ·exact sK<|xS<|sQ<|bK<|sQ<|rG<|mV r r<|mV r r<|cK fun hq=>iO (l:=r6) (en:=Lu) r r r r r hq<|bD fun next_e9 hnext_e9=>lO (v:=.int .i64 next_e9) (z:=Lu next_e9) r r r (NG hnext_e9) r r<|aS r r<|nI<|xS<|rG<|fA r r<|lO (v:=.osl 13 _ 0 x7.length) (z:=.agg [.osl 13 _ 0 x7.length]) r r r r r r<|mV r r<|fA r r<|lO (v:=.osl 13 _ 0 x7.length) (z:=.agg [.osl 13 _ 0 x7.length]) r r r r r r<|mV r r<|cK fun hq=>iO (l:=x7) (en:=(eL Lu)) r r r r r hq<|bD fun x_e10 hx_e10=>lO (v:=.sl (x_e10.map Lu)) (z:=(eL Lu) x_e10) r r r (NG hx_e10) r r<|fA r r<|lO (v:=.sl (f1.Code.map Lx)) (z:=.agg [.int .i64 f1.Params,.sl (f1.Slots.map LB),.sl (f1.Code.map Lx)]) r r r r r r<|mV r r<|bD fun x_x11 hx_x11=>iS (en:=Lx) r r r hx_x11 r<|lF (v:=.agg [.int .i64 x_x11.Op,.int .i64 x_x11.A,.int .i64 x_x11.B,.int .i64 x_x11.C,.int .u64 x_x11.Imm]) r r r r<|fA r r<|lO (v:=.sl (l2.Out.map (eL Lu))) (z:=.agg [.sl (l2.Out.map (eL Lu))]) r r r r r r<|mV r r<|bD fun x_x12 hx_x12=>iS (en:=(eL Lu)) r r r hx_x12 r<|lF (v:=.sl (x_x12.map Lu)) r r r r<|bD fun r13 hr13=>cR (l:=r13) (en:=Lu) (x_x11,x_x12) r r r XQ r r (by simp) r hr13 r<|bD fun r14 hr14=>cR (l:=r14) (en:=Lu) (x_e10,r13) r r r QV r r (by simp) (by first | rfl | (simp only [Ma,Ml]; rfl) | simp [NZ]) hr14 r<|cK fun hq=>iO (l:=x7) (en:=(eL Lu)) r r r r r hq<|bD fun x_o15 hx_o15=>sE (l:=x7) (en:=(eL Lu)) (q':=r14) r r r r r r r (by simp) hx_o15 r r r (by simp [Mk,cells,setAt,eL]) r<|Md (by kernel_rfl)<|bM<|xS<|rG<|mV r r<|bN (v:=.int .i64 (IntKind.i64.wrap (i8 + 1))) r r r r r<|aS r r<|nI<|xL (s:=(x7.set k4.toNat r14,IntKind.i64.wrap (i8 + 1))) (_,_,_,_,_,_) ((hE ⟨rfl,r,r,r,r,r,r,trivial⟩ ⟨rfl,r,r,(Eq.trans (b:=some (_,⟨false,true,1,30,[.agg [.osl 13 _ 0 x7.length]]⟩)) r (by simp)),r,r,trivial⟩))
   ·exact eT<|xE<|lE<|bH<|SE (s:=x7) (_,_,_,_,_) ((hE ⟨rfl,r,r,r,r,trivial⟩ ⟨rfl,r,r,r,r,trivial⟩))
  ·rintro x5 ⟨v2x3,v3x3,v4x3,v5x3,v13x3⟩ nn
   try dsimp only
   unfold RH
   exact rG<|mV r r<|bN (v:=.int .i64 (IntKind.i64.wrap (k4 + 1))) r r r r r<|aS r r<|nI<|xL (s:=(x5,IntKind.i64.wrap (k4 + 1))) (_,_,_,_,_) ((hE ⟨rfl,r,r,r,r,trivial⟩ ⟨rfl,r,r,r,r,trivial⟩))
 ·refine eT<|xE<|lE<|bH<|xS<|sQ<|rG<|lO (v:=.agg [.osl 13 _ 0 x3.length]) (z:=.agg [.osl 13 _ 0 x3.length]) r r r r r r<|sV (z':=.agg [.osl 13 _ 0 x3.length]) r r r r r r r r r<|nI<|xS<|rT<|MI (b:=(LK.mk x3)) r ?_ r r ?_ (by first | rfl | (simp only [Ma,Ml]; rfl) | simp [US,OZ])
  all_goals first|(simp;done)|(simp;omega)|rfl|(simp [LG,LD];done)

def Abj : LJ:=(.seq (.reg [P 4 (.asg (.c (.bool false)) none)] false) (.seq (.seq (.reg [M 6 0,P 7 (.len false (T 6)),M 8 1,P 9 (.len false (T 8)),P 10 (.bin .neq (T 7) (T 9))] false) (.cond (T 10) (.seq (.reg [P 4 (.asg (.c (.bool false)) none)] false) .ret) .skip)) (.seq (.seq (.reg [P 5 (.asg (C 0) none)] false) (.block 0 (.loop (.seq (.seq (.reg [M 11 5,M 12 0,P 13 (.len false (T 12)),P 14 (.bin .lss (T 11) (T 13))] false) (.cond (T 14) .skip (.exit 0))) (.seq (.block 1 (.seq (.reg [M 17 0,M 18 5,⟨(some 19),(.ixA 1 (T 17) (T 18)),none,[0,1]⟩,⟨(some 20),(.ld 1 false (T 19)),none,[2]⟩,M 21 1,M 22 5,⟨(some 23),(.ixA 1 (T 21) (T 22)),none,[4,5]⟩,⟨(some 24),(.ld 1 false (T 23)),none,[6]⟩,⟨(some 25),(.bin .neq (T 20) (T 24)),none,[3,7]⟩] true) (.cond (T 25) (.seq (.reg [P 4 (.asg (.c (.bool false)) none)] false) .ret) .skip))) (.reg [M 15 5,P 16 (.bin .add (T 15) (C 1)),P 5 (.asg (T 16) none)] false)))))) (.seq (.reg [P 4 (.asg (.c (.bool true)) none)] false) .ret))))
theorem AdR : (Tryd.f73.body.bind (LM Tryd.prog Tryd.f73.ntmps)) = some Abj:=by kernel_rfl
theorem AdS : Tryd.f73.results.toList.mapM (Me Tryd.prog) = some [(.t 4)]:=by kernel_rfl
def SW (a : (List Int) × (List Int)) : List D:=[.sl (a.1.map Lu),.sl (a.2.map Lu)]
def SV (ds : List D) : (List Int) × (List Int):=((uL uI) (ds.getD 0 .top),(uL uI) (ds.getD 1 .top))
theorem WD (a : (List Int) × (List Int)) : SV (SW a) = a:=by simp [SV,SW,NT (u:=uI) (en:=Lu) (fun _=>rfl)]
def Xe (b : Bool) : D:=.bool b
def Xd (_b : Bool) : List D:=[]
noncomputable def UL : Dw.Spec:=LL [] .ground SW SV (fun a=>QU a.1 a.2) Xe Xd
set_option maxHeartbeats 4000000 in
theorem YG : LI Tryd.prog 73 UL:=by
 refine Mg (MO) Tryd.func73 (by decide) AdR AdS (np:=2) (by decide) WD (fun _=>r) (fun _=>r) (by decide)<|?_
 rintro ⟨a1,b2⟩
 show TrE (specs []) Abj (Mi [] .ground [(.t 4)] Xe Xd) ⟨[(0,.sl (a1.map Lu)),(1,.sl (b2.map Lu))],[],262144⟩ (QU a1 b2)
 refine LW<|?_
 unfold Abj QU
 refine sQ<|rG<|aS r r<|nI<|xS<|sQ<|sQ<|rG<|mV r r<|lS r r<|mV r r<|lS r r<|bN (v:=.bool ((a1.length : Int) != (b2.length : Int))) r r r r r<|nI<|xS<|cD (c:=((a1.length : Int) != (b2.length : Int))) r ?_ ?_
 ·refine sQ<|rG<|aS r r<|nI<|xS<|rT<|xR<|LR (b:=false) r ?_ r r ?_ r
  all_goals first|(simp;done)|(simp;omega)|rfl|(simp [LG,LD];done)
 ·refine sK<|xS<|sQ<|sQ<|rG<|aS r r<|nI<|xS<|bK<|lP (E:=fun (s : Int) (g : Unit)=>[(0,.sl (a1.map Lu)),(1,.sl (b2.map Lu)),(5,.int .i64 s)]) (O:=fun s g=>[]) (body:=fun s=>Oe a1 b2 s) (s:=0) () ((hE ⟨rfl,r,r,trivial⟩ trivial))<|?_
  rintro i3 ⟨⟩ nn
  try dsimp only
  unfold Oe
  refine sQ<|sQ<|rG<|mV r r<|mV r r<|lS r r<|bN (v:=.bool (decide (i3 < (a1.length : Int)))) r r r r r<|nI<|xS<|cD (c:=(decide (i3 < (a1.length : Int)))) r ?_ ?_
  ·refine sK<|xS<|sQ<|bK<|sQ<|rG<|mV r r<|mV r r<|bD fun x_x4 hx_x4=>iS (en:=Lu) r r r hx_x4 r<|lF (v:=.int .i64 x_x4) r r r r<|mV r r<|mV r r<|bD fun x_x5 hx_x5=>iS (en:=Lu) r r r hx_x5 r<|lF (v:=.int .i64 x_x5) r r r r<|bN (v:=.bool (x_x4 != x_x5)) r r r r r<|Md (by kernel_rfl)<|xS<|cD (c:=(x_x4 != x_x5)) r ?_ ?_
   ·refine sQ<|rG<|aS r r<|nI<|xS<|rT<|bR<|xR<|lR<|bR<|xR<|LR (b:=false) r ?_ r r ?_ r
    all_goals first|(simp;done)|(simp;omega)|rfl|(simp [LG,LD];done)
   ·exact sK<|bM<|xS<|rG<|mV r r<|bN (v:=.int .i64 (IntKind.i64.wrap (i3 + 1))) r r r r r<|aS r r<|nI<|xL (s:=IntKind.i64.wrap (i3 + 1)) () ((hE ⟨rfl,r,r,trivial⟩ trivial))
  ·refine eT<|xE<|lE<|bH<|xS<|sQ<|rG<|aS r r<|nI<|xS<|rT<|LR (b:=true) r ?_ r r ?_ r
   all_goals first|(simp;done)|(simp;omega)|rfl|(simp [LG,LD];done)

def AaU : LJ:=(.seq (.reg [P 4 (.asg (.c (.bool false)) none)] false) (.seq (.seq (.reg [M 6 0,P 7 (.len false (T 6)),M 8 1,P 9 (.len false (T 8)),P 10 (.bin .neq (T 7) (T 9))] false) (.cond (T 10) (.seq (.reg [P 4 (.asg (.c (.bool false)) none)] false) .ret) .skip)) (.seq (.seq (.reg [P 5 (.asg (C 0) none)] false) (.block 0 (.loop (.seq (.seq (.reg [M 11 5,M 12 0,P 13 (.len false (T 12)),P 14 (.bin .lss (T 11) (T 13))] false) (.cond (T 14) .skip (.exit 0))) (.seq (.block 1 (.seq (.reg [M 17 0,M 18 5,⟨(some 19),(.ixA 1 (T 17) (T 18)),none,[0,1]⟩,⟨(some 20),(.ld 1 false (T 19)),none,[2]⟩,M 21 1,M 22 5,⟨(some 23),(.ixA 1 (T 21) (T 22)),none,[4,5]⟩,⟨(some 24),(.ld 1 false (T 23)),none,[6]⟩,⟨(some 25),(.call (.c (.clo 73 [])) [(T 20),(T 24)]),none,[3,7]⟩,⟨(some 26),(.un .not (T 25)),none,[8]⟩] true) (.cond (T 26) (.seq (.reg [P 4 (.asg (.c (.bool false)) none)] false) .ret) .skip))) (.reg [M 15 5,P 16 (.bin .add (T 15) (C 1)),P 5 (.asg (T 16) none)] false)))))) (.seq (.reg [P 4 (.asg (.c (.bool true)) none)] false) .ret))))
theorem Adl : (Tryd.f35.body.bind (LM Tryd.prog Tryd.f35.ntmps)) = some AaU:=by kernel_rfl
theorem Adm : Tryd.f35.results.toList.mapM (Me Tryd.prog) = some [(.t 4)]:=by kernel_rfl
def Rr (a : (List (List Int)) × (List (List Int))) : List D:=[.sl (a.1.map (eL Lu)),.sl (a.2.map (eL Lu))]
def Rq (ds : List D) : (List (List Int)) × (List (List Int)):=((uL (uL uI)) (ds.getD 0 .top),(uL (uL uI)) (ds.getD 1 .top))
theorem UK (a : (List (List Int)) × (List (List Int))) : Rq (Rr a) = a:=by simp [Rq,Rr,NT (u:=(uL uI)) (en:=(eL Lu)) (NT (u:=uI) (en:=Lu) (fun _=>rfl))]
def Vm (b : Bool) : D:=.bool b
def Vl (_b : Bool) : List D:=[]
noncomputable def Sw : Dw.Spec:=LL [] .ground Rr Rq (fun a=>OO a.1 a.2) Vm Vl
set_option maxHeartbeats 4000000 in
theorem XZ : LI Tryd.prog 35 Sw:=by
 refine Mg (LV (l:=[(73,UL)]) (by simp [YG])) Tryd.func35 (by decide) Adl Adm (np:=2) (by decide) UK (fun _=>r) (fun _=>r) (by decide)<|?_
 rintro ⟨a1,b2⟩
 show TrE (specs [(73,UL)]) AaU (Mi [] .ground [(.t 4)] Vm Vl) ⟨[(0,.sl (a1.map (eL Lu))),(1,.sl (b2.map (eL Lu)))],[],262144⟩ (OO a1 b2)
 refine LW<|?_
 unfold AaU OO
 refine sQ<|rG<|aS r r<|nI<|xS<|sQ<|sQ<|rG<|mV r r<|lS r r<|mV r r<|lS r r<|bN (v:=.bool ((a1.length : Int) != (b2.length : Int))) r r r r r<|nI<|xS<|cD (c:=((a1.length : Int) != (b2.length : Int))) r ?_ ?_
 ·refine sQ<|rG<|aS r r<|nI<|xS<|rT<|xR<|LR (b:=false) r ?_ r r ?_ r
  all_goals first|(simp;done)|(simp;omega)|rfl|(simp [LG,LD];done)
 ·refine sK<|xS<|sQ<|sQ<|rG<|aS r r<|nI<|xS<|bK<|lP (E:=fun (s : Int) (g : Unit)=>[(0,.sl (a1.map (eL Lu))),(1,.sl (b2.map (eL Lu))),(5,.int .i64 s)]) (O:=fun s g=>[]) (body:=fun s=>Nl a1 b2 s) (s:=0) () ((hE ⟨rfl,r,r,trivial⟩ trivial))<|?_
  rintro i3 ⟨⟩ nn
  try dsimp only
  unfold Nl
  refine sQ<|sQ<|rG<|mV r r<|mV r r<|lS r r<|bN (v:=.bool (decide (i3 < (a1.length : Int)))) r r r r r<|nI<|xS<|cD (c:=(decide (i3 < (a1.length : Int)))) r ?_ ?_
  ·refine sK<|xS<|sQ<|bK<|sQ<|rG<|mV r r<|mV r r<|bD fun x_x4 hx_x4=>iS (en:=(eL Lu)) r r r hx_x4 r<|lF (v:=.sl (x_x4.map Lu)) r r r r<|mV r r<|mV r r<|bD fun x_x5 hx_x5=>iS (en:=(eL Lu)) r r r hx_x5 r<|lF (v:=.sl (x_x5.map Lu)) r r r r<|bD fun r6 hr6=>cG (x_x4,x_x5) r r r WD r r (by simp) r hr6 r<|uN (w:=.bool (!r6)) r r r r trivial<|Md (by kernel_rfl)<|xS<|cD (c:=(!r6)) r ?_ ?_
   ·refine sQ<|rG<|aS r r<|nI<|xS<|rT<|bR<|xR<|lR<|bR<|xR<|LR (b:=false) r ?_ r r ?_ r
    all_goals first|(simp;done)|(simp;omega)|rfl|(simp [LG,LD];done)
   ·exact sK<|bM<|xS<|rG<|mV r r<|bN (v:=.int .i64 (IntKind.i64.wrap (i3 + 1))) r r r r r<|aS r r<|nI<|xL (s:=IntKind.i64.wrap (i3 + 1)) () ((hE ⟨rfl,r,r,trivial⟩ trivial))
  ·refine eT<|xE<|lE<|bH<|xS<|sQ<|rG<|aS r r<|nI<|xS<|rT<|LR (b:=true) r ?_ r r ?_ r
   all_goals first|(simp;done)|(simp;omega)|rfl|(simp [LG,LD];done)

def AaS : LJ:=(.seq (.reg [P 2 (.box (T 0) 1 30),P 3 (.box (T 1) 1 30),P 4 (.asg (.c (.bool false)) none)] false) (.seq (.reg [P 5 (.fldA 0 (T 2)),P 6 (.ld 1 false (T 5)),P 7 (.fldA 0 (T 3)),P 8 (.ld 1 false (T 7)),P 9 (.call (.c (.clo 35 [])) [(T 6),(T 8)]),P 4 (.asg (T 9) none)] false) .ret))
theorem Adh : (Tryd.f31.body.bind (LM Tryd.prog Tryd.f31.ntmps)) = some AaS:=by kernel_rfl
theorem Adi : Tryd.f31.results.toList.mapM (Me Tryd.prog) = some [(.t 4)]:=by kernel_rfl
def Tf (a : LK × LK) : List D:=[OZ a.1,OZ a.2]
def Te (ds : List D) : LK × LK:=(Wv (ds.getD 0 .top),Wv (ds.getD 1 .top))
theorem TV (a : LK × LK) : Te (Tf a) = a:=by simp [Te,Tf]
def Xn (b : Bool) : D:=.bool b
def Xm (_b : Bool) : List D:=[]
noncomputable def QG : Dw.Spec:=LL [] .ground Tf Te (fun a=>Oi a.1 a.2) Xn Xm
set_option maxHeartbeats 4000000 in
theorem WJ : LI Tryd.prog 31 QG:=by
 refine Mg (LV (l:=[(35,Sw)]) (by simp [XZ])) Tryd.func31 (by decide) Adh Adi (np:=2) (by decide) TV (fun _=>r) (fun _=>r) (by decide)<|?_
 rintro ⟨a1,b2⟩
 show TrE (specs [(35,Sw)]) AaS (Mi [] .ground [(.t 4)] Xn Xm) ⟨[(0,.agg [.sl (a1.Out.map (eL Lu))]),(1,.agg [.sl (b2.Out.map (eL Lu))])],[],262144⟩ (Oi a1 b2)
 refine LW<|?_
 unfold AaS Oi
 refine sQ<|rG<|bX r r r r r<|bX r r r r r<|aS r r<|nI<|xS<|sQ<|rG<|fA r r<|lO (v:=.sl (a1.Out.map (eL Lu))) (z:=.agg [.sl (a1.Out.map (eL Lu))]) r r r r r r<|fA r r<|lO (v:=.sl (b2.Out.map (eL Lu))) (z:=.agg [.sl (b2.Out.map (eL Lu))]) r r r r r r<|bD fun r3 hr3=>cG (a1.Out,b2.Out) r r r UK r r (by simp) r hr3 r<|aS r r<|nI<|xS<|rT<|LR (b:=r3) r ?_ r r ?_ r
 all_goals first|(simp;done)|(simp;omega)|rfl|(simp [LG,LD];done)

def AaO : LJ:=(.seq (.reg [P 1 (.box (T 0) 3 27),P 2 (.new (.agg [.nils]) 1 30)] false) (.seq (.reg [P 5 (.fldA 2 (T 1)),P 6 (.ld 1 false (T 5)),P 7 (.len false (T 6)),P 8 (.mkS 1 36 24 .nils (T 7) (T 7)),⟨(some 9),(.bld [.nils] [⟨0,⟨1,(T 8)⟩⟩]),none,[]⟩,P 3 (.new (.agg [.nils]) 1 30),⟨none,(.st 1 (T 3) (T 9)),none,[]⟩] false) (.block 0 (.loop (.block 1 (.seq (.reg [P 10 (.ld 3 true (T 1)),P 11 (.ld 1 true (T 3)),P 12 (.call (.c (.clo 38 [])) [(T 10),(T 11)]),P 4 (.new (.agg [.nils]) 1 30),⟨none,(.st 1 (T 4) (T 12)),none,[]⟩] false) (.seq (.seq (.reg [P 13 (.ld 1 true (T 4)),P 14 (.ld 1 true (T 3)),P 15 (.call (.c (.clo 31 [])) [(T 13),(T 14)])] false) (.cond (T 15) (.seq (.reg [P 16 (.ld 1 true (T 3)),⟨none,(.st 1 (T 2) (T 16)),none,[]⟩] false) .ret) .skip)) (.reg [P 17 (.ld 1 true (T 4)),⟨none,(.st 1 (T 3) (T 17)),none,[]⟩] false))))))))
theorem AcY : (Tryd.f24.body.bind (LM Tryd.prog Tryd.f24.ntmps)) = some AaO:=by kernel_rfl
theorem AcZ : Tryd.f24.results.toList.mapM (Me Tryd.prog) = some [(.c 2 1 true)]:=by kernel_rfl
def SA (a : LA) : List D:=[Mv a]
def Sz (ds : List D) : LA:=Rc (ds.getD 0 .top)
theorem Tg (a : LA) : Sz (SA a) = a:=by simp [Sz,SA]
def WM (b : LK) : D:=OZ b
def WK (_b : LK) : List D:=[]
noncomputable def PU : Dw.Spec:=LL [] .val SA Sz (fun a=>Pm a) WM WK
set_option maxHeartbeats 4000000 in
theorem VM : LI Tryd.prog 24 PU:=by
 refine Mg (LV (l:=[(38,UT),(31,QG)]) (by simp [YK,WJ])) Tryd.func24 (by decide) AcY AcZ (np:=1) (by decide) Tg (fun _=>r) (fun _=>r) (by decide)<|?_
 intro f1
 show TrE (specs [(38,UT),(31,QG)]) AaO (Mi [] .val [(.c 2 1 true)] WM WK) ⟨[(0,.agg [.int .i64 f1.Params,.sl (f1.Slots.map LB),.sl (f1.Code.map Lx)])],[],262144⟩ (Pm f1)
 refine LW<|?_
 unfold AaO Pm
 refine sQ<|rG<|bX r r r r r<|nW r<|nI<|xS<|sQ<|rG<|fA r r<|lO (v:=.sl (f1.Code.map Lx)) (z:=.agg [.int .i64 f1.Params,.sl (f1.Slots.map LB),.sl (f1.Code.map Lx)]) r r r r r r<|lS r r<|cK fun hq=>Tn (α:=Int) r r r hq r<|bL (cs:=[.osl 8 _ 0 ((List.replicate (f1.Code.length : Int).toNat ([] : (List Int))).length)]) (ps:=[(0,1,.osl 8 _ 0 ((List.replicate (f1.Code.length : Int).toNat ([] : (List Int))).length))]) r r r r<|nW r<|sV (z':=.agg [.osl 8 _ 0 ((List.replicate (f1.Code.length : Int).toNat ([] : (List Int))).length)]) r r r r r r r r r<|nI<|PZ (E:=[(1,.optr 1 _ 0 0),(2,.optr 2 _ 0 0),(3,.optr 3 _ 0 0)]) (O:=[(1,some (_,⟨false,true,3,27,[.agg [.int .i64 f1.Params,.sl (f1.Slots.map LB),.sl (f1.Code.map Lx)]]⟩)),(2,some (_,⟨false,true,1,30,[.agg [.nils]]⟩)),(3,some (_,⟨false,true,1,30,[.agg [.osl 8 _ 0 ((List.replicate (f1.Code.length : Int).toNat ([] : (List Int))).length)]]⟩)),(8,some (_,⟨false,false,1,36,(List.replicate (f1.Code.length : Int).toNat ([] : (List Int))).map (eL Lu)⟩))]) ((Xa (g:=8) r (XX (l:=List.replicate (f1.Code.length : Int).toNat ([] : (List Int))) Lu (fun _ h=>List.eq_of_mem_replicate h)) (hE ⟨rfl,r,r,trivial⟩ ⟨rfl,r,r,r,trivial⟩))) fun nn=>bK<|lP (E:=fun (s : (List (List Int))) (g : Nat × Nat × Nat)=>[(1,.optr 1 g.1 0 0),(2,.optr 2 g.2.1 0 0),(3,.optr 3 g.2.2 0 0)]) (O:=fun s g=>[(1,some (g.1,⟨false,true,3,27,[.agg [.int .i64 f1.Params,.sl (f1.Slots.map LB),.sl (f1.Code.map Lx)]]⟩)),(2,some (g.2.1,⟨false,true,1,30,[.agg [.nils]]⟩)),(3,some (g.2.2,⟨false,true,1,30,[.agg [.sl (s.map (eL Lu))]]⟩))]) (body:=fun s=>QY f1 s) (s:=List.replicate (f1.Code.length : Int).toNat ([] : (List Int))) (_,_,_) ((UF [(8,some (_,⟨true,false,1,36,(List.replicate (f1.Code.length : Int).toNat ([] : (List Int))).map (eL Lu)⟩))] ⟨⟨_,_,r,r,r⟩,trivial⟩ ⟨(Mf r),(Mf r),(Mf r),trivial⟩ ⟨(.inl r),(.inl r),(.inr ⟨_,_,_,_,r,r,r,r,Wi r ⟨(Tu (l:=List.replicate (f1.Code.length : Int).toNat ([] : (List Int))) (en:=(eL Lu)) r r r (by simp)),trivial⟩⟩),trivial⟩))<|?_
 rintro l2 ⟨v1x1,v2x1,v3x1⟩ nn
 try dsimp only
 unfold QY
 refine bK<|sQ<|rG<|lO (v:=.agg [.int .i64 f1.Params,.sl (f1.Slots.map LB),.sl (f1.Code.map Lx)]) (z:=.agg [.int .i64 f1.Params,.sl (f1.Slots.map LB),.sl (f1.Code.map Lx)]) r r r r r r<|lO (v:=.agg [.sl (l2.map (eL Lu))]) (z:=.agg [.sl (l2.map (eL Lu))]) r r r r r r<|bD fun r3 hr3=>cV (f1,(LK.mk l2)) r r r WN r r (by simp) r hr3<|nW r<|sV (z':=.agg [.sl (r3.Out.map (eL Lu))]) r r r r r r r r r<|nI<|xS<|sQ<|sQ<|rG<|lO (v:=.agg [.sl (r3.Out.map (eL Lu))]) (z:=.agg [.sl (r3.Out.map (eL Lu))]) r r r r r r<|lO (v:=.agg [.sl (l2.map (eL Lu))]) (z:=.agg [.sl (l2.map (eL Lu))]) r r r r r r<|bD fun r4 hr4=>cG (r3,(LK.mk l2)) r r r TV r r (by simp) r hr4 r<|nI<|xS<|cD (c:=r4) r ?_ ?_
 ·refine sQ<|rG<|lO (v:=.agg [.sl (l2.map (eL Lu))]) (z:=.agg [.sl (l2.map (eL Lu))]) r r r r r r<|sV (z':=.agg [.sl (l2.map (eL Lu))]) r r r r r r r r r<|nI<|xS<|rT<|xR<|bR<|lR<|bR<|MI (b:=(LK.mk l2)) r ?_ r r ?_ r
  all_goals first|(simp;done)|(simp;omega)|rfl|(simp [LG,LD];done)
 ·exact sK<|xS<|rG<|lO (v:=.agg [.sl (r3.Out.map (eL Lu))]) (z:=.agg [.sl (r3.Out.map (eL Lu))]) r r r r r r<|sV (z':=.agg [.sl (r3.Out.map (eL Lu))]) r r r r r r r r r<|nI<|bM<|xL (s:=r3.Out) (_,_,_) ((hE ⟨rfl,r,r,trivial⟩ ⟨rfl,r,r,trivial⟩))

end Go.Proofs.YtcelninhkmhjkaaDoor
