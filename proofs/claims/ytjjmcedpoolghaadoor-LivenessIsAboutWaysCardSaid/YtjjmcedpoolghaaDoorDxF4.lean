/-
  Programs on typed data, and the proofs that the code does what they say; written by a program (dx.py).
-/
import Derived.Test.YtjjmcedpoolghaaDoorProg
import Derived.Test.YtjjmcedpoolghaaDoorDc
import Derived.KernelRfl
import Derived.Test.YtjjmcedpoolghaaDoorDxP
namespace Go.Proofs.YtjjmcedpoolghaaDoor
open Go Go.Dw Go.Proofs
set_option maxRecDepth 100000
open Go.Dw renaming Wt → mV,UR → bN,Qd → lO,TY → bD,UU → cK,UX → nI,Va → xS,Ww → rG,Wy → sQ,QB → aO,UQ → aS,UY → oF,US → bL,Vt → bS,PQ → cV,Ps → cG,PO → cR,UP → aP,Qe → sV,Sp → sE,RD → iS,QC → iO,RF → lS,QD → lW,TZ → fA,XF → eX,Ub → lF,SH → sP,OR → pT,Oy → pF,Xu → uN,UW → nW,UT → bX,Sn → aN,Vb → cD,Uf → bK,Wx → rT,Ve → sK,Vc → eT,UZ → xC,Ud → xL,Sr → xR,UD → zR,Ue → lR,SD → hE,OT → lE,PR → bH,Oz → bM,Sq → bR,PS → xE,Vd → lP,RG → sC,Sm → bC,rf → r
def ZT : KH:=(.seq (.reg [P 2 (.box (T 0) 3 27),⟨(some 4),(.asg (.c .nils) (some ⟨1,3⟩)),none,[]⟩] false) (.seq (.seq (.reg [M 6 1,P 7 (.bin .lss (T 6) (C 0)),M 8 7,⟨(some 9),(.mv (T 1)),(some ⟨8,false⟩),[]⟩,⟨(some 10),(.fldA 2 (T 2)),(some ⟨8,false⟩),[]⟩,⟨(some 11),(.ld 1 false (T 10)),(some ⟨8,false⟩),[]⟩,⟨(some 12),(.len false (T 11)),(some ⟨8,false⟩),[]⟩,⟨(some 13),(.bin .geq (T 9) (T 12)),(some ⟨8,false⟩),[]⟩,P 14 (.pick (T 8) (.c (.bool true)) (T 13))] false) (.cond (T 14) (.seq (.reg [⟨(some 4),(.asg (.c .nils) (some ⟨1,3⟩)),none,[]⟩] false) .ret) .skip)) (.seq (.reg [P 15 (.fldA 2 (T 2)),P 16 (.ld 1 false (T 15)),M 17 1,P 18 (.ixA 5 (T 16) (T 17)),P 19 (.ld 5 true (T 18)),P 5 (.new (.agg [(.int .i64 0),(.int .i64 0),(.int .i64 0),(.int .i64 0),(.int .u64 0)]) 5 43),⟨none,(.st 5 (T 5) (T 19)),none,[]⟩] false) (.seq (.seq (.reg [P 20 (.fldA 0 (T 5)),P 21 (.ld 1 false (T 20))] false) (.block 0 (.seq (.reg [P 23 (.bin .eql (T 21) (C 20)),P 22 (.asg (T 23) none)] false) (.cond (T 22) (.seq (.reg [P 24 (.fldA 1 (T 5)),P 25 (.ld 1 false (T 24)),⟨(some 26),(.bldS 1 3 (.int .i64 0) 1 [⟨0,(T 25)⟩]),none,[]⟩,⟨(some 4),(.asg (T 26) (some ⟨1,3⟩)),none,[]⟩] false) .ret) (.seq (.seq (.reg [P 28 (.bin .eql (T 21) (C 23)),P 27 (.asg (T 28) none)] false) (.cond (T 27) .skip (.reg [P 29 (.bin .eql (T 21) (C 24)),P 27 (.asg (T 29) none)] false))) (.cond (T 27) (.seq (.reg [⟨(some 4),(.asg (.c .nils) (some ⟨1,3⟩)),none,[]⟩] false) .ret) (.seq (.reg [P 31 (.bin .eql (T 21) (C 21)),P 30 (.asg (T 31) none)] false) (.cond (T 30) (.block 1 (.seq (.reg [P 33 (.fldA 2 (T 5)),P 34 (.ld 1 false (T 33)),M 35 1,P 36 (.bin .add (T 35) (C 1)),P 37 (.bin .lss (T 34) (T 36)),P 32 (.asg (T 37) none)] false) (.cond (T 32) (.seq (.reg [P 38 (.fldA 2 (T 5)),P 39 (.ld 1 false (T 38)),M 40 1,P 41 (.bin .add (T 40) (C 1)),⟨(some 42),(.bldS 1 3 (.int .i64 0) 2 [⟨0,(T 39)⟩,⟨1,(T 41)⟩]),none,[]⟩,⟨(some 4),(.asg (T 42) (some ⟨1,3⟩)),none,[]⟩] false) .ret) (.seq (.reg [P 44 (.fldA 2 (T 5)),P 45 (.ld 1 false (T 44)),M 46 1,P 47 (.bin .add (T 46) (C 1)),P 48 (.bin .gtr (T 45) (T 47)),P 43 (.asg (T 48) none)] false) (.cond (T 43) (.seq (.reg [M 49 1,P 50 (.bin .add (T 49) (C 1)),P 51 (.fldA 2 (T 5)),P 52 (.ld 1 false (T 51)),⟨(some 53),(.bldS 1 3 (.int .i64 0) 2 [⟨0,(T 50)⟩,⟨1,(T 52)⟩]),none,[]⟩,⟨(some 4),(.asg (T 53) (some ⟨1,3⟩)),none,[]⟩] false) .ret) .skip))))) .skip)))))))) (.seq (.reg [M 54 1,P 55 (.bin .add (T 54) (C 1)),⟨(some 56),(.bldS 1 3 (.int .i64 0) 1 [⟨0,(T 55)⟩]),none,[]⟩,⟨(some 4),(.asg (T 56) (some ⟨1,3⟩)),none,[]⟩] false) .ret)))))
theorem AbU : (Tryd.f18.body.bind (KJ Tryd.prog Tryd.f18.ntmps)) = some ZT:=by kernel_rfl
theorem AbV : Tryd.f18.results.toList.mapM (KY Tryd.prog) = some [(.t 4)]:=by kernel_rfl
def Se (a : Ku × Int) : List D:=[Lm a.1,.int .i64 a.2]
def Sd (ds : List D) : Ku × Int:=(Pu (ds.getD 0 .top),uI (ds.getD 1 .top))
theorem OQ (a : Ku × Int) : Sd (Se a) = a:=by simp [Sd,Se,uI]
def Wi (b : (List Int)) : D:=.sl (b.map Kp)
def Wh (_b : (List Int)) : List D:=[]
noncomputable def PK : Dw.Spec:=KI [] (.row 1 3) Se Sd (fun a=>My a.1 a.2) Wi Wh
set_option maxHeartbeats 4000000 in
theorem VI : KF Tryd.prog 18 PK:=by
 refine Lc (LD) Tryd.func18 (by decide) AbU AbV (np:=2) (by decide) OQ (fun _=>r) (fun _=>r) (by decide)<|?_
 rintro ⟨f1,k2⟩
 show TrE (specs []) ZT (Ld [] (.row 1 3) [(.t 4)] Wi Wh) ⟨[(0,.agg [.int .i64 f1.Params,.sl (f1.Slots.map Kv),.sl (f1.Code.map Kr)]),(1,.int .i64 k2)],[],262144⟩ (My f1 k2)
 refine KQ<|?_
 unfold ZT My
 refine sQ<|rG<|bX r r r r r<|aN (α:=Int) r Kp r<|nI<|xS<|sC (E:=fun (s : Unit) (g : Nat)=>[(1,.int .i64 k2),(2,.optr 2 g 0 0)]) (O:=fun s g=>[(2,some (g,⟨false,true,3,27,[.agg [.int .i64 f1.Params,.sl (f1.Slots.map Kv),.sl (f1.Code.map Kr)]]⟩))]) (j:=fun s=>QI f1 k2) ?_ ?_
 ·refine sQ<|rG<|mV r r<|bN (v:=.bool (decide (k2 < 0))) r r r r r<|mV r r<|sP 8 (b:=(decide (k2 < 0))) r ?_ ?_
  ·refine oF r<|oF r<|oF r<|oF r<|oF r<|pT r r r r<|nI<|xS<|OA r<|sQ<|rG<|aN (α:=Int) r Kp r<|nI<|xS<|rT<|zR<|KV (b:=([] : List Int)) r ?_ r r ?_ r ?_ (congrArg D.sl (Kt _ _ r)) r
   all_goals first|(simp;done)|(simp;omega)|rfl|(simp [KB,Kx];done)
  ·refine mV r r<|fA r r<|lO (v:=.sl (f1.Code.map Kr)) (z:=.agg [.int .i64 f1.Params,.sl (f1.Slots.map Kv),.sl (f1.Code.map Kr)]) r r r r r r<|lS r r<|bN (v:=.bool (decide (k2 ≥ (f1.Code.length : Int)))) r r r r r<|pF r r r r<|nI<|xS<|cD (c:=(decide (k2 ≥ (f1.Code.length : Int)))) r ?_ ?_
   ·refine sQ<|rG<|aN (α:=Int) r Kp r<|nI<|xS<|rT<|zR<|KV (b:=([] : List Int)) r ?_ r r ?_ r ?_ (congrArg D.sl (Kt _ _ r)) r
    all_goals first|(simp;done)|(simp;omega)|rfl|(simp [KB,Kx];done)
   ·exact sK<|xC (s:=()) _ ((hE ⟨rfl,r,trivial⟩ ⟨rfl,trivial⟩))
 ·rintro ⟨⟩ v2x1 nn
  try dsimp only
  unfold QI
  refine sQ<|rG<|fA r r<|lO (v:=.sl (f1.Code.map Kr)) (z:=.agg [.int .i64 f1.Params,.sl (f1.Slots.map Kv),.sl (f1.Code.map Kr)]) r r r r r r<|mV r r<|bD fun x_x3 hx_x3=>iS (en:=Kr) r r r hx_x3 r<|lF (v:=.agg [.int .i64 x_x3.Op,.int .i64 x_x3.A,.int .i64 x_x3.B,.int .i64 x_x3.C,.int .u64 x_x3.Imm]) r r r r<|nW r<|sV (z':=.agg [.int .i64 x_x3.Op,.int .i64 x_x3.A,.int .i64 x_x3.B,.int .i64 x_x3.C,.int .u64 x_x3.Imm]) r r r r r r r r r<|nI<|xS<|sQ<|sQ<|rG<|fA r r<|lO (v:=.int .i64 x_x3.Op) (z:=.agg [.int .i64 x_x3.Op,.int .i64 x_x3.A,.int .i64 x_x3.B,.int .i64 x_x3.C,.int .u64 x_x3.Imm]) r r r r r r<|nI<|xS<|bK<|sQ<|rG<|bN (v:=.bool (x_x3.Op == 20)) r r r r r<|aS r r<|nI<|xS<|cD (c:=(x_x3.Op == 20)) r ?_ ?_
  ·refine sQ<|rG<|fA r r<|lO (v:=.int .i64 x_x3.A) (z:=.agg [.int .i64 x_x3.Op,.int .i64 x_x3.A,.int .i64 x_x3.B,.int .i64 x_x3.C,.int .u64 x_x3.Imm]) r r r r r r<|bS ([x_x3.A] : List Int) Kp r r r (by simp) r r r<|aO (l:=([x_x3.A] : List Int)) (en:=Kp) r r r r<|nI<|xS<|rT<|bR<|xR<|KV (b:=([x_x3.A] : List Int)) r ?_ r r ?_ r ?_ (congrArg D.sl (Kt _ _ r)) r
   all_goals first|(simp;done)|(simp;omega)|rfl|(simp [KB,Kx];done)
  ·refine sC (E:=fun (s : Bool) (g : Nat)=>[(1,.int .i64 k2),(5,.optr 5 g 0 0),(21,.int .i64 x_x3.Op),(27,.bool s)]) (O:=fun s g=>[(5,some (g,⟨false,true,5,43,[.agg [.int .i64 x_x3.Op,.int .i64 x_x3.A,.int .i64 x_x3.B,.int .i64 x_x3.C,.int .u64 x_x3.Imm]]⟩))]) (j:=fun s=>LR x_x3 k2 s) ?_ ?_
   ·refine sQ<|rG<|bN (v:=.bool (x_x3.Op == 23)) r r r r r<|aS r r<|nI<|xS<|cD (c:=(x_x3.Op == 23)) r ?_ ?_
    ·exact sK<|xC (s:=(x_x3.Op == 23)) _ ((hE ⟨rfl,r,r,r,trivial⟩ ⟨rfl,trivial⟩))
    ·exact rG<|bN (v:=.bool (x_x3.Op == 24)) r r r r r<|aS r r<|nI<|xC (s:=(x_x3.Op == 24)) _ ((hE ⟨rfl,r,r,r,trivial⟩ ⟨rfl,trivial⟩))
   ·rintro x4 v5x2 nn
    try dsimp only
    unfold LR
    refine cD (c:=x4) r ?_ ?_
    ·refine sQ<|rG<|aN (α:=Int) r Kp r<|nI<|xS<|rT<|bR<|xR<|KV (b:=([] : List Int)) r ?_ r r ?_ r ?_ (congrArg D.sl (Kt _ _ r)) r
     all_goals first|(simp;done)|(simp;omega)|rfl|(simp [KB,Kx];done)
    ·refine sQ<|rG<|bN (v:=.bool (x_x3.Op == 21)) r r r r r<|aS r r<|nI<|xS<|cD (c:=(x_x3.Op == 21)) r ?_ ?_
     ·refine bK<|sQ<|rG<|fA r r<|lO (v:=.int .i64 x_x3.B) (z:=.agg [.int .i64 x_x3.Op,.int .i64 x_x3.A,.int .i64 x_x3.B,.int .i64 x_x3.C,.int .u64 x_x3.Imm]) r r r r r r<|mV r r<|bN (v:=.int .i64 (IntKind.i64.wrap (k2 + 1))) r r r r r<|bN (v:=.bool (decide (x_x3.B < (IntKind.i64.wrap (k2 + 1))))) r r r r r<|aS r r<|nI<|xS<|cD (c:=(decide (x_x3.B < (IntKind.i64.wrap (k2 + 1))))) r ?_ ?_
      ·refine sQ<|rG<|fA r r<|lO (v:=.int .i64 x_x3.B) (z:=.agg [.int .i64 x_x3.Op,.int .i64 x_x3.A,.int .i64 x_x3.B,.int .i64 x_x3.C,.int .u64 x_x3.Imm]) r r r r r r<|mV r r<|bN (v:=.int .i64 (IntKind.i64.wrap (k2 + 1))) r r r r r<|bS ([x_x3.B,IntKind.i64.wrap (k2 + 1)] : List Int) Kp r r r (by simp) r r r<|aO (l:=([x_x3.B,IntKind.i64.wrap (k2 + 1)] : List Int)) (en:=Kp) r r r r<|nI<|xS<|rT<|bR<|bR<|xR<|KV (b:=([x_x3.B,IntKind.i64.wrap (k2 + 1)] : List Int)) r ?_ r r ?_ r ?_ (congrArg D.sl (Kt _ _ r)) r
       all_goals first|(simp;done)|(simp;omega)|rfl|(simp [KB,Kx];done)
      ·refine sQ<|rG<|fA r r<|lO (v:=.int .i64 x_x3.B) (z:=.agg [.int .i64 x_x3.Op,.int .i64 x_x3.A,.int .i64 x_x3.B,.int .i64 x_x3.C,.int .u64 x_x3.Imm]) r r r r r r<|mV r r<|bN (v:=.int .i64 (IntKind.i64.wrap (k2 + 1))) r r r r r<|bN (v:=.bool (decide (x_x3.B > (IntKind.i64.wrap (k2 + 1))))) r r r r r<|aS r r<|nI<|xS<|cD (c:=(decide (x_x3.B > (IntKind.i64.wrap (k2 + 1))))) r ?_ ?_
       ·refine sQ<|rG<|mV r r<|bN (v:=.int .i64 (IntKind.i64.wrap (k2 + 1))) r r r r r<|fA r r<|lO (v:=.int .i64 x_x3.B) (z:=.agg [.int .i64 x_x3.Op,.int .i64 x_x3.A,.int .i64 x_x3.B,.int .i64 x_x3.C,.int .u64 x_x3.Imm]) r r r r r r<|bS ([IntKind.i64.wrap (k2 + 1),x_x3.B] : List Int) Kp r r r (by simp) r r r<|aO (l:=([IntKind.i64.wrap (k2 + 1),x_x3.B] : List Int)) (en:=Kp) r r r r<|nI<|xS<|rT<|bR<|bR<|xR<|KV (b:=([IntKind.i64.wrap (k2 + 1),x_x3.B] : List Int)) r ?_ r r ?_ r ?_ (congrArg D.sl (Kt _ _ r)) r
        all_goals first|(simp;done)|(simp;omega)|rfl|(simp [KB,Kx];done)
       ·refine sK<|bM<|bM<|xS<|sQ<|rG<|mV r r<|bN (v:=.int .i64 (IntKind.i64.wrap (k2 + 1))) r r r r r<|bS ([IntKind.i64.wrap (k2 + 1)] : List Int) Kp r r r (by simp) r r r<|aO (l:=([IntKind.i64.wrap (k2 + 1)] : List Int)) (en:=Kp) r r r r<|nI<|xS<|rT<|KV (b:=([IntKind.i64.wrap (k2 + 1)] : List Int)) r ?_ r r ?_ r ?_ (congrArg D.sl (Kt _ _ r)) r
        all_goals first|(simp;done)|(simp;omega)|rfl|(simp [KB,Kx];done)
     ·refine sK<|bM<|xS<|sQ<|rG<|mV r r<|bN (v:=.int .i64 (IntKind.i64.wrap (k2 + 1))) r r r r r<|bS ([IntKind.i64.wrap (k2 + 1)] : List Int) Kp r r r (by simp) r r r<|aO (l:=([IntKind.i64.wrap (k2 + 1)] : List Int)) (en:=Kp) r r r r<|nI<|xS<|rT<|KV (b:=([IntKind.i64.wrap (k2 + 1)] : List Int)) r ?_ r r ?_ r ?_ (congrArg D.sl (Kt _ _ r)) r
      all_goals first|(simp;done)|(simp;omega)|rfl|(simp [KB,Kx];done)

def Aad : KH:=(.seq (.reg [P 1 (.box (T 0) 5 43),P 2 (.asg (.c (.bool false)) none)] false) (.seq (.reg [P 3 (.fldA 0 (T 1)),P 4 (.ld 1 false (T 3)),P 5 (.bin .eql (T 4) (C 16)),M 6 5,⟨(some 7),(.fldA 0 (T 1)),(some ⟨6,false⟩),[]⟩,⟨(some 8),(.ld 1 false (T 7)),(some ⟨6,false⟩),[]⟩,⟨(some 9),(.bin .eql (T 8) (C 17)),(some ⟨6,false⟩),[]⟩,P 10 (.pick (T 6) (.c (.bool true)) (T 9)),P 2 (.asg (T 10) none)] false) .ret))
theorem Acp : (Tryd.f28.body.bind (KJ Tryd.prog Tryd.f28.ntmps)) = some Aad:=by kernel_rfl
theorem Acq : Tryd.f28.results.toList.mapM (KY Tryd.prog) = some [(.t 2)]:=by kernel_rfl
def Pq (a : Kq) : List D:=[Kr a]
def Pp (ds : List D) : Kq:=PT (ds.getD 0 .top)
theorem SF (a : Kq) : Pp (Pq a) = a:=by simp [Pp,Pq]
def To (b : Bool) : D:=.bool b
def Tn (_b : Bool) : List D:=[]
noncomputable def Qu : Dw.Spec:=KI [] .ground Pq Pp (fun a=>MX a) To Tn
set_option maxHeartbeats 4000000 in
theorem Wj : KF Tryd.prog 28 Qu:=by
 refine Lc (LD) Tryd.func28 (by decide) Acp Acq (np:=1) (by decide) SF (fun _=>r) (fun _=>r) (by decide)<|?_
 intro x1
 show TrE (specs []) Aad (Ld [] .ground [(.t 2)] To Tn) ⟨[(0,.agg [.int .i64 x1.Op,.int .i64 x1.A,.int .i64 x1.B,.int .i64 x1.C,.int .u64 x1.Imm])],[],262144⟩ (MX x1)
 refine KQ<|?_
 unfold Aad MX
 refine sQ<|rG<|bX r r r r r<|aS r r<|nI<|xS<|sQ<|rG<|fA r r<|lO (v:=.int .i64 x1.Op) (z:=.agg [.int .i64 x1.Op,.int .i64 x1.A,.int .i64 x1.B,.int .i64 x1.C,.int .u64 x1.Imm]) r r r r r r<|bN (v:=.bool (x1.Op == 16)) r r r r r<|mV r r<|sP 6 (b:=(x1.Op == 16)) r ?_ ?_
 ·refine oF r<|oF r<|oF r<|pT r r r r<|aS r r<|nI<|xS<|rT<|KN (b:=true) r ?_ r r ?_ r
  all_goals first|(simp;done)|(simp;omega)|rfl|(simp [KB,Kx];done)
 ·refine fA r r<|lO (v:=.int .i64 x1.Op) (z:=.agg [.int .i64 x1.Op,.int .i64 x1.A,.int .i64 x1.B,.int .i64 x1.C,.int .u64 x1.Imm]) r r r r r r<|bN (v:=.bool (x1.Op == 17)) r r r r r<|pF r r r r<|aS r r<|nI<|xS<|rT<|KN (b:=(x1.Op == 17)) r ?_ r r ?_ r
  all_goals first|(simp;done)|(simp;omega)|rfl|(simp [KB,Kx];done)

def ZV : KH:=(.seq (.reg [P 1 (.box (T 0) 5 43),P 2 (.asg (C 0) none),P 3 (.asg (.c (.bool false)) none)] false) (.seq (.seq (.reg [P 4 (.ld 5 true (T 1)),P 5 (.call (.c (.clo 28 [])) [(T 4)])] false) (.cond (T 5) (.seq (.reg [P 6 (.fldA 1 (T 1)),P 7 (.ld 1 false (T 6)),P 2 (.asg (T 7) none),P 3 (.asg (.c (.bool true)) none)] false) .ret) .skip)) (.seq (.reg [P 2 (.asg (C 0) none),P 3 (.asg (.c (.bool false)) none)] false) .ret)))
theorem AbY : (Tryd.f20.body.bind (KJ Tryd.prog Tryd.f20.ntmps)) = some ZV:=by kernel_rfl
theorem AbZ : Tryd.f20.results.toList.mapM (KY Tryd.prog) = some [(.t 2),(.t 3)]:=by kernel_rfl
def Qt (a : Kq) : List D:=[Kr a]
def Qs (ds : List D) : Kq:=PT (ds.getD 0 .top)
theorem QT (a : Kq) : Qs (Qt a) = a:=by simp [Qs,Qt]
def Ur (b : Int × Bool) : D:=.tup [.int .i64 b.1,.bool b.2]
def Uq (_b : Int × Bool) : List D:=[]
noncomputable def NT : Dw.Spec:=KI [] .ground Qt Qs (fun a=>MB a) Ur Uq
set_option maxHeartbeats 4000000 in
theorem TQ : KF Tryd.prog 20 NT:=by
 refine Lc (KW (l:=[(28,Qu)]) (by simp [Wj])) Tryd.func20 (by decide) AbY AbZ (np:=1) (by decide) QT (fun _=>r) (fun _=>r) (by decide)<|?_
 intro x1
 show TrE (specs [(28,Qu)]) ZV (Ld [] .ground [(.t 2),(.t 3)] Ur Uq) ⟨[(0,.agg [.int .i64 x1.Op,.int .i64 x1.A,.int .i64 x1.B,.int .i64 x1.C,.int .u64 x1.Imm])],[],262144⟩ (MB x1)
 refine KQ<|?_
 unfold ZV MB
 refine sQ<|rG<|bX r r r r r<|aS r r<|aS r r<|nI<|xS<|sQ<|sQ<|rG<|lO (v:=.agg [.int .i64 x1.Op,.int .i64 x1.A,.int .i64 x1.B,.int .i64 x1.C,.int .u64 x1.Imm]) (z:=.agg [.int .i64 x1.Op,.int .i64 x1.A,.int .i64 x1.B,.int .i64 x1.C,.int .u64 x1.Imm]) r r r r r r<|bD fun r2 hr2=>cG x1 r r r SF r r (by simp) r hr2 r<|nI<|xS<|cD (c:=r2) r ?_ ?_
 ·refine sQ<|rG<|fA r r<|lO (v:=.int .i64 x1.A) (z:=.agg [.int .i64 x1.Op,.int .i64 x1.A,.int .i64 x1.B,.int .i64 x1.C,.int .u64 x1.Imm]) r r r r r r<|aS r r<|aS r r<|nI<|xS<|rT<|xR<|Nm (b:=(x1.A,true)) r ?_ r r ?_ r (by decide)
  all_goals first|(simp;done)|(simp;omega)|rfl|(simp [KB,Kx];done)
 ·refine sK<|xS<|sQ<|rG<|aS r r<|aS r r<|nI<|xS<|rT<|Nm (b:=(0,false)) r ?_ r r ?_ r (by decide)
  all_goals first|(simp;done)|(simp;omega)|rfl|(simp [KB,Kx];done)

def Aaz : KH:=(.seq (.reg [⟨(some 4),(.asg (.c .nils) (some ⟨1,3⟩)),none,[]⟩] false) (.seq (.reg [⟨(some 5),(.asg (.c .nils) (some ⟨1,3⟩)),none,[]⟩] false) (.seq (.seq (.reg [P 6 (.asg (C 0) none)] false) (.block 0 (.loop (.seq (.seq (.reg [M 7 6,M 8 0,P 9 (.len false (T 8)),P 10 (.bin .lss (T 7) (T 9))] false) (.cond (T 10) .skip (.exit 0))) (.seq (.block 1 (.seq (.reg [M 13 0,M 14 6,P 15 (.ixA 1 (T 13) (T 14)),P 16 (.ld 1 false (T 15)),M 17 1,P 18 (.bin .neq (T 16) (T 17))] false) (.cond (T 18) (.reg [M 19 5,M 20 0,M 21 6,P 22 (.ixA 1 (T 20) (T 21)),P 23 (.ld 1 false (T 22)),⟨(some 24),(.bldS 1 3 (.int .i64 0) 1 [⟨0,(T 23)⟩]),none,[]⟩,P 25 (.app 1 3 8 (T 19) (T 24)),⟨(some 5),(.asg (T 25) (some ⟨1,3⟩)),none,[]⟩] false) .skip))) (.reg [M 11 6,P 12 (.bin .add (T 11) (C 1)),P 6 (.asg (T 12) none)] false)))))) (.seq (.reg [M 26 5,⟨(some 4),(.asg (T 26) (some ⟨1,3⟩)),none,[]⟩] false) .ret))))
theorem Adj : (Tryd.f55.body.bind (KJ Tryd.prog Tryd.f55.ntmps)) = some Aaz:=by kernel_rfl
theorem Adk : Tryd.f55.results.toList.mapM (KY Tryd.prog) = some [(.t 4)]:=by kernel_rfl
def QS (a : (List Int) × Int) : List D:=[.sl (a.1.map Kp),.int .i64 a.2]
def QQ (ds : List D) : (List Int) × Int:=((uL uI) (ds.getD 0 .top),uI (ds.getD 1 .top))
theorem Um (a : (List Int) × Int) : QQ (QS a) = a:=by simp [QQ,QS,uI,Nd (u:=uI) (en:=Kp) (fun _=>rfl)]
def UM (b : (List Int)) : D:=.sl (b.map Kp)
def UL (_b : (List Int)) : List D:=[]
noncomputable def RY : Dw.Spec:=KI [] (.row 1 3) QS QQ (fun a=>Ov a.1 a.2) UM UL
set_option maxHeartbeats 4000000 in
theorem Xp : KF Tryd.prog 55 RY:=by
 refine Lc (LD) Tryd.func55 (by decide) Adj Adk (np:=2) (by decide) Um (fun _=>r) (fun _=>r) (by decide)<|?_
 rintro ⟨s1,n2⟩
 show TrE (specs []) Aaz (Ld [] (.row 1 3) [(.t 4)] UM UL) ⟨[(0,.sl (s1.map Kp)),(1,.int .i64 n2)],[],262144⟩ (Ov s1 n2)
 refine KQ<|?_
 unfold Aaz Ov
 refine sQ<|rG<|aN (α:=Int) r Kp r<|nI<|xS<|sQ<|rG<|aN (α:=Int) r Kp r<|nI<|xS<|sQ<|sQ<|rG<|aS r r<|nI<|xS<|bK<|lP (E:=fun (s : (List Int) × Int) (g : Nat)=>[(0,.sl (s1.map Kp)),(1,.int .i64 n2),(5,.osl 5 g 0 s.1.length),(6,.int .i64 s.2)]) (O:=fun s g=>[(5,some (g,⟨false,false,1,3,s.1.map Kp⟩))]) (body:=fun s=>Mx s1 n2 s.1 s.2) (s:=(([] : List Int),0)) _ ((hE ⟨rfl,r,r,r,trivial⟩ ⟨rfl,trivial⟩))<|?_
 rintro ⟨out3,i4⟩ v5x1 nn
 try dsimp only
 unfold Mx
 refine sQ<|sQ<|rG<|mV r r<|mV r r<|lS r r<|bN (v:=.bool (decide (i4 < (s1.length : Int)))) r r r r r<|nI<|xS<|cD (c:=(decide (i4 < (s1.length : Int)))) r ?_ ?_
 ·refine sK<|xS<|sQ<|bK<|sQ<|rG<|mV r r<|mV r r<|bD fun x_x5 hx_x5=>iS (en:=Kp) r r r hx_x5 r<|lF (v:=.int .i64 x_x5) r r r r<|mV r r<|bN (v:=.bool (x_x5 != n2)) r r r r r<|nI<|xS<|cD (c:=(x_x5 != n2)) r ?_ ?_
  ·exact rG<|mV r r<|mV r r<|mV r r<|bD fun x_x6 hx_x6=>iS (en:=Kp) r r r hx_x6 r<|lF (v:=.int .i64 x_x6) r r r r<|bS ([x_x6] : List Int) Kp r r r (by simp) r r r<|cK fun hq=>aP (out3) (([x_x6] : List Int)) Kp r r r r r r r (by simp) (KG _ _ r) r r (by simp) (Kt _ _ r) (fun _=>r) r hq<|aO (l:=out3 ++ ([x_x6] : List Int)) (en:=Kp) r r r r<|nI<|bM<|xS<|rG<|mV r r<|bN (v:=.int .i64 (IntKind.i64.wrap (i4 + 1))) r r r r r<|aS r r<|nI<|xL (s:=(out3 ++ ([x_x6] : List Int),IntKind.i64.wrap (i4 + 1))) _ ((hE ⟨rfl,r,r,r,trivial⟩ ⟨rfl,trivial⟩))
  ·exact sK<|bM<|xS<|rG<|mV r r<|bN (v:=.int .i64 (IntKind.i64.wrap (i4 + 1))) r r r r r<|aS r r<|nI<|xL (s:=(out3,IntKind.i64.wrap (i4 + 1))) _ ((hE ⟨rfl,r,r,r,trivial⟩ ⟨rfl,trivial⟩))
 ·refine eT<|xE<|lE<|bH<|xS<|sQ<|rG<|mV r r<|aO (l:=out3) (en:=Kp) r r r r<|nI<|xS<|rT<|KV (b:=out3) r ?_ r r ?_ r ?_ (congrArg D.sl (Kt _ _ r)) r
  all_goals first|(simp;done)|(simp;omega)|rfl|(simp [KB,Kx];done)

def ZU : KH:=(.seq (.reg [P 1 (.box (T 0) 5 43),⟨(some 2),(.asg (.c .nils) (some ⟨1,3⟩)),none,[]⟩] false) (.seq (.seq (.reg [P 3 (.fldA 0 (T 1)),P 4 (.ld 1 false (T 3)),P 5 (.bin .eql (T 4) (C 15)),M 6 5,⟨(some 7),(.fldA 0 (T 1)),(some ⟨6,false⟩),[]⟩,⟨(some 8),(.ld 1 false (T 7)),(some ⟨6,false⟩),[]⟩,⟨(some 9),(.bin .eql (T 8) (C 17)),(some ⟨6,false⟩),[]⟩,P 10 (.pick (T 6) (.c (.bool true)) (T 9))] false) (.cond (T 10) (.seq (.reg [P 11 (.fldA 2 (T 1)),P 12 (.ld 1 false (T 11)),⟨(some 13),(.bldS 1 3 (.int .i64 0) 1 [⟨0,(T 12)⟩]),none,[]⟩,⟨(some 2),(.asg (T 13) (some ⟨1,3⟩)),none,[]⟩] false) .ret) .skip)) (.seq (.reg [⟨(some 2),(.asg (.c .nils) (some ⟨1,3⟩)),none,[]⟩] false) .ret)))
theorem AbW : (Tryd.f19.body.bind (KJ Tryd.prog Tryd.f19.ntmps)) = some ZU:=by kernel_rfl
theorem AbX : Tryd.f19.results.toList.mapM (KY Tryd.prog) = some [(.t 2)]:=by kernel_rfl
def Sh (a : Kq) : List D:=[Kr a]
def Sg (ds : List D) : Kq:=PT (ds.getD 0 .top)
theorem QJ (a : Kq) : Sg (Sh a) = a:=by simp [Sg,Sh]
def Wm (b : (List Int)) : D:=.sl (b.map Kp)
def Wl (_b : (List Int)) : List D:=[]
noncomputable def PL : Dw.Spec:=KI [] (.row 1 3) Sh Sg (fun a=>MO a) Wm Wl
set_option maxHeartbeats 4000000 in
theorem VJ : KF Tryd.prog 19 PL:=by
 refine Lc (LD) Tryd.func19 (by decide) AbW AbX (np:=1) (by decide) QJ (fun _=>r) (fun _=>r) (by decide)<|?_
 intro x1
 show TrE (specs []) ZU (Ld [] (.row 1 3) [(.t 2)] Wm Wl) ⟨[(0,.agg [.int .i64 x1.Op,.int .i64 x1.A,.int .i64 x1.B,.int .i64 x1.C,.int .u64 x1.Imm])],[],262144⟩ (MO x1)
 refine KQ<|?_
 unfold ZU MO
 refine sQ<|rG<|bX r r r r r<|aN (α:=Int) r Kp r<|nI<|xS<|sQ<|sQ<|rG<|fA r r<|lO (v:=.int .i64 x1.Op) (z:=.agg [.int .i64 x1.Op,.int .i64 x1.A,.int .i64 x1.B,.int .i64 x1.C,.int .u64 x1.Imm]) r r r r r r<|bN (v:=.bool (x1.Op == 15)) r r r r r<|mV r r<|sP 6 (b:=(x1.Op == 15)) r ?_ ?_
 ·refine oF r<|oF r<|oF r<|pT r r r r<|nI<|xS<|OA r<|sQ<|rG<|fA r r<|lO (v:=.int .i64 x1.B) (z:=.agg [.int .i64 x1.Op,.int .i64 x1.A,.int .i64 x1.B,.int .i64 x1.C,.int .u64 x1.Imm]) r r r r r r<|bS ([x1.B] : List Int) Kp r r r (by simp) r r r<|aO (l:=([x1.B] : List Int)) (en:=Kp) r r r r<|nI<|xS<|rT<|xR<|KV (b:=([x1.B] : List Int)) r ?_ r r ?_ r ?_ (congrArg D.sl (Kt _ _ r)) r
  all_goals first|(simp;done)|(simp;omega)|rfl|(simp [KB,Kx];done)
 ·refine fA r r<|lO (v:=.int .i64 x1.Op) (z:=.agg [.int .i64 x1.Op,.int .i64 x1.A,.int .i64 x1.B,.int .i64 x1.C,.int .u64 x1.Imm]) r r r r r r<|bN (v:=.bool (x1.Op == 17)) r r r r r<|pF r r r r<|nI<|xS<|cD (c:=(x1.Op == 17)) r ?_ ?_
  ·refine sQ<|rG<|fA r r<|lO (v:=.int .i64 x1.B) (z:=.agg [.int .i64 x1.Op,.int .i64 x1.A,.int .i64 x1.B,.int .i64 x1.C,.int .u64 x1.Imm]) r r r r r r<|bS ([x1.B] : List Int) Kp r r r (by simp) r r r<|aO (l:=([x1.B] : List Int)) (en:=Kp) r r r r<|nI<|xS<|rT<|xR<|KV (b:=([x1.B] : List Int)) r ?_ r r ?_ r ?_ (congrArg D.sl (Kt _ _ r)) r
   all_goals first|(simp;done)|(simp;omega)|rfl|(simp [KB,Kx];done)
  ·refine sK<|xS<|sQ<|rG<|aN (α:=Int) r Kp r<|nI<|xS<|rT<|KV (b:=([] : List Int)) r ?_ r r ?_ r ?_ (congrArg D.sl (Kt _ _ r)) r
   all_goals first|(simp;done)|(simp;omega)|rfl|(simp [KB,Kx];done)

def Aaj : KH:=(.seq (.reg [P 2 (.asg (.c (.bool false)) none)] false) (.seq (.reg [M 3 0,P 4 (.bin .geq (T 3) (C 0)),M 5 4,⟨(some 6),(.mv (T 0)),(some ⟨5,true⟩),[]⟩,⟨(some 7),(.bin .lss (T 6) (C 512)),(some ⟨5,true⟩),[]⟩,P 8 (.pick (T 5) (T 7) (.c (.bool false))),P 2 (.asg (T 8) none)] false) .ret))
theorem AcC : (Tryd.f34.body.bind (KJ Tryd.prog Tryd.f34.ntmps)) = some Aaj:=by kernel_rfl
theorem AcD : Tryd.f34.results.toList.mapM (KY Tryd.prog) = some [(.t 2)]:=by kernel_rfl
def Sc (a : Int) : List D:=[.int .i64 a]
def Sb (ds : List D) : Int:=uI (ds.getD 0 .top)
theorem VH (a : Int) : Sb (Sc a) = a:=by simp [Sb,Sc,uI]
def Wg (b : Bool) : D:=.bool b
def Wf (_b : Bool) : List D:=[]
noncomputable def TP : Dw.Spec:=KI [] .ground Sc Sb (fun a=>PZ a) Wg Wf
set_option maxHeartbeats 4000000 in
theorem XS : KF Tryd.prog 34 TP:=by
 refine Lc (LD) Tryd.func34 (by decide) AcC AcD (np:=1) (by decide) VH (fun _=>r) (fun _=>r) (by decide)<|?_
 intro n1
 show TrE (specs []) Aaj (Ld [] .ground [(.t 2)] Wg Wf) ⟨[(0,.int .i64 n1)],[],262144⟩ (PZ n1)
 refine KQ<|?_
 unfold Aaj PZ
 refine sQ<|rG<|aS r r<|nI<|xS<|sQ<|rG<|mV r r<|bN (v:=.bool (decide (n1 ≥ 0))) r r r r r<|mV r r<|sP 5 (b:=(decide (n1 ≥ 0))) r ?_ ?_
 ·refine mV r r<|bN (v:=.bool (decide (n1 < 512))) r r r r r<|pT r r r r<|aS r r<|nI<|xS<|rT<|KN (b:=(decide (n1 < 512))) r ?_ r r ?_ r
  all_goals first|(simp;done)|(simp;omega)|rfl|(simp [KB,Kx];done)
 ·refine oF r<|oF r<|pF r r r r<|aS r r<|nI<|xS<|rT<|KN (b:=false) r ?_ r r ?_ r
  all_goals first|(simp;done)|(simp;omega)|rfl|(simp [KB,Kx];done)

def ZZ : KH:=(.seq (.reg [⟨(some 4),(.asg (.c .nils) (some ⟨1,3⟩)),none,[]⟩] false) (.seq (.reg [⟨(some 5),(.asg (.c .nils) (some ⟨1,3⟩)),none,[]⟩] false) (.seq (.reg [M 8 1,P 9 (.call (.c (.clo 34 [])) [(T 8)]),P 10 (.un .not (T 9)),P 6 (.asg (T 10) none)] false) (.seq (.seq (.reg [P 7 (.asg (C 0) none)] false) (.block 0 (.loop (.seq (.seq (.reg [M 11 7,M 12 0,P 13 (.len false (T 12)),P 14 (.bin .lss (T 11) (T 13))] false) (.cond (T 14) .skip (.exit 0))) (.seq (.block 1 (.seq (.seq (.reg [M 17 6,P 18 (.un .not (T 17)),M 19 18,⟨(some 20),(.mv (T 0)),(some ⟨19,true⟩),[]⟩,⟨(some 21),(.mv (T 7)),(some ⟨19,true⟩),[]⟩,⟨(some 22),(.ixA 1 (T 20) (T 21)),(some ⟨19,true⟩),[]⟩,⟨(some 23),(.ld 1 false (T 22)),(some ⟨19,true⟩),[]⟩,⟨(some 24),(.mv (T 1)),(some ⟨19,true⟩),[]⟩,⟨(some 25),(.bin .geq (T 23) (T 24)),(some ⟨19,true⟩),[]⟩,P 26 (.pick (T 19) (T 25) (.c (.bool false)))] false) (.cond (T 26) (.seq (.seq (.reg [M 27 0,M 28 7,P 29 (.ixA 1 (T 27) (T 28)),P 30 (.ld 1 false (T 29)),M 31 1,P 32 (.bin .gtr (T 30) (T 31))] false) (.cond (T 32) (.reg [M 33 5,M 34 1,⟨(some 35),(.bldS 1 3 (.int .i64 0) 1 [⟨0,(T 34)⟩]),none,[]⟩,P 36 (.app 1 3 8 (T 33) (T 35)),⟨(some 5),(.asg (T 36) (some ⟨1,3⟩)),none,[]⟩] false) .skip)) (.reg [P 6 (.asg (.c (.bool true)) none)] false)) .skip)) (.reg [M 37 5,M 38 0,M 39 7,P 40 (.ixA 1 (T 38) (T 39)),P 41 (.ld 1 false (T 40)),⟨(some 42),(.bldS 1 3 (.int .i64 0) 1 [⟨0,(T 41)⟩]),none,[]⟩,P 43 (.app 1 3 8 (T 37) (T 42)),⟨(some 5),(.asg (T 43) (some ⟨1,3⟩)),none,[]⟩] false))) (.reg [M 15 7,P 16 (.bin .add (T 15) (C 1)),P 7 (.asg (T 16) none)] false)))))) (.seq (.seq (.reg [M 44 6,P 45 (.un .not (T 44))] false) (.cond (T 45) (.reg [M 46 5,M 47 1,⟨(some 48),(.bldS 1 3 (.int .i64 0) 1 [⟨0,(T 47)⟩]),none,[]⟩,P 49 (.app 1 3 8 (T 46) (T 48)),⟨(some 5),(.asg (T 49) (some ⟨1,3⟩)),none,[]⟩] false) .skip)) (.seq (.reg [M 50 5,⟨(some 4),(.asg (T 50) (some ⟨1,3⟩)),none,[]⟩] false) .ret))))))
theorem Ach : (Tryd.f24.body.bind (KJ Tryd.prog Tryd.f24.ntmps)) = some ZZ:=by kernel_rfl
theorem Aci : Tryd.f24.results.toList.mapM (KY Tryd.prog) = some [(.t 4)]:=by kernel_rfl
def QG (a : (List Int) × Int) : List D:=[.sl (a.1.map Kp),.int .i64 a.2]
def SV (ds : List D) : (List Int) × Int:=((uL uI) (ds.getD 0 .top),uI (ds.getD 1 .top))
theorem TL (a : (List Int) × Int) : SV (QG a) = a:=by simp [SV,QG,uI,Nd (u:=uI) (en:=Kp) (fun _=>rfl)]
def WV (b : (List Int)) : D:=.sl (b.map Kp)
def WU (_b : (List Int)) : List D:=[]
noncomputable def Qx : Dw.Spec:=KI [] (.row 1 3) QG SV (fun a=>OE a.1 a.2) WV WU
set_option maxHeartbeats 4000000 in
theorem Wb : KF Tryd.prog 24 Qx:=by
 refine Lc (KW (l:=[(34,TP)]) (by simp [XS])) Tryd.func24 (by decide) Ach Aci (np:=2) (by decide) TL (fun _=>r) (fun _=>r) (by decide)<|?_
 rintro ⟨s1,n2⟩
 show TrE (specs [(34,TP)]) ZZ (Ld [] (.row 1 3) [(.t 4)] WV WU) ⟨[(0,.sl (s1.map Kp)),(1,.int .i64 n2)],[],262144⟩ (OE s1 n2)
 refine KQ<|?_
 unfold ZZ OE
 refine sQ<|rG<|aN (α:=Int) r Kp r<|nI<|xS<|sQ<|rG<|aN (α:=Int) r Kp r<|nI<|xS<|sQ<|rG<|mV r r<|bD fun r3 hr3=>cG n2 r r r VH r r (by simp) r hr3 r<|uN (w:=.bool (!r3)) r r r r trivial<|aS r r<|nI<|xS<|sQ<|sQ<|rG<|aS r r<|nI<|xS<|bK<|lP (E:=fun (s : (List Int) × Bool × Int) (g : Nat)=>[(0,.sl (s1.map Kp)),(1,.int .i64 n2),(5,.osl 5 g 0 s.1.length),(6,.bool s.2.1),(7,.int .i64 s.2.2)]) (O:=fun s g=>[(5,some (g,⟨false,false,1,3,s.1.map Kp⟩))]) (body:=fun s=>LP s1 n2 s.1 s.2.1 s.2.2) (s:=(([] : List Int),(!r3),0)) _ ((hE ⟨rfl,r,r,r,r,trivial⟩ ⟨rfl,trivial⟩))<|?_
 rintro ⟨out4,done5,i6⟩ v5x1 nn
 try dsimp only
 unfold LP
 refine sQ<|sQ<|rG<|mV r r<|mV r r<|lS r r<|bN (v:=.bool (decide (i6 < (s1.length : Int)))) r r r r r<|nI<|xS<|cD (c:=(decide (i6 < (s1.length : Int)))) r ?_ ?_
 ·refine sK<|xS<|sQ<|bK<|sC (E:=fun (s : (List Int) × Bool) (g : Nat)=>[(0,.sl (s1.map Kp)),(1,.int .i64 n2),(5,.osl 5 g 0 s.1.length),(6,.bool s.2),(7,.int .i64 i6)]) (O:=fun s g=>[(5,some (g,⟨false,false,1,3,s.1.map Kp⟩))]) (j:=fun s=>Mw s1 i6 s.1 s.2) ?_ ?_
  ·refine sC (E:=fun (s : Bool) (g : Nat)=>[(0,.sl (s1.map Kp)),(1,.int .i64 n2),(5,.osl 5 g 0 out4.length),(6,.bool done5),(7,.int .i64 i6),(26,.bool s)]) (O:=fun s g=>[(5,some (g,⟨false,false,1,3,out4.map Kp⟩))]) (j:=fun s=>MQ s1 i6 n2 out4 done5 s) ?_ ?_
   ·refine rG<|mV r r<|uN (w:=.bool (!done5)) r r r r trivial<|mV r r<|sP 19 (b:=(!done5)) r ?_ ?_
    ·exact mV r r<|mV r r<|bD fun x_x10 hx_x10=>iS (en:=Kp) r r r hx_x10 r<|lF (v:=.int .i64 x_x10) r r r r<|mV r r<|bN (v:=.bool (decide (x_x10 ≥ n2))) r r r r r<|pT r r r r<|nI<|xC (s:=(decide (x_x10 ≥ n2))) _ ((hE ⟨rfl,r,r,r,r,r,trivial⟩ ⟨rfl,trivial⟩))
    ·exact oF r<|oF r<|oF r<|oF r<|oF r<|oF r<|pF r r r r<|nI<|xC (s:=false) _ ((hE ⟨rfl,r,r,r,r,r,trivial⟩ ⟨rfl,trivial⟩))
   ·rintro x9 v5x2 nn
    try dsimp only
    unfold MQ
    refine cD (c:=x9) r ?_ ?_
    ·refine sQ<|sQ<|rG<|mV r r<|mV r r<|bD fun x_x11 hx_x11=>iS (en:=Kp) r r r hx_x11 r<|lF (v:=.int .i64 x_x11) r r r r<|mV r r<|bN (v:=.bool (decide (x_x11 > n2))) r r r r r<|nI<|xS<|cD (c:=(decide (x_x11 > n2))) r ?_ ?_
     ·exact rG<|mV r r<|mV r r<|bS ([n2] : List Int) Kp r r r (by simp) r r r<|cK fun hq=>aP (out4) (([n2] : List Int)) Kp r r r r r r r (by simp) (KG _ _ r) r r (by simp) (Kt _ _ r) (fun _=>r) r hq<|aO (l:=out4 ++ ([n2] : List Int)) (en:=Kp) r r r r<|nI<|xS<|rG<|aS r r<|nI<|xC (s:=(out4 ++ ([n2] : List Int),true)) _ ((hE ⟨rfl,r,r,r,r,trivial⟩ ⟨rfl,trivial⟩))
     ·exact sK<|xS<|rG<|aS r r<|nI<|xC (s:=(out4,true)) _ ((hE ⟨rfl,r,r,r,r,trivial⟩ ⟨rfl,trivial⟩))
    ·exact sK<|xC (s:=(out4,done5)) _ ((hE ⟨rfl,r,r,r,r,trivial⟩ ⟨rfl,trivial⟩))
  ·rintro ⟨out7,done8⟩ v5x3 nn
   try dsimp only
   unfold Mw
   exact rG<|mV r r<|mV r r<|mV r r<|bD fun x_x12 hx_x12=>iS (en:=Kp) r r r hx_x12 r<|lF (v:=.int .i64 x_x12) r r r r<|bS ([x_x12] : List Int) Kp r r r (by simp) r r r<|cK fun hq=>aP (out7) (([x_x12] : List Int)) Kp r r r r r r r (by simp) (KG _ _ r) r r (by simp) (Kt _ _ r) (fun _=>r) r hq<|aO (l:=out7 ++ ([x_x12] : List Int)) (en:=Kp) r r r r<|nI<|bM<|xS<|rG<|mV r r<|bN (v:=.int .i64 (IntKind.i64.wrap (i6 + 1))) r r r r r<|aS r r<|nI<|xL (s:=(out7 ++ ([x_x12] : List Int),done8,IntKind.i64.wrap (i6 + 1))) _ ((hE ⟨rfl,r,r,r,r,trivial⟩ ⟨rfl,trivial⟩))
 ·refine eT<|xE<|lE<|bH<|xS<|sQ<|sQ<|rG<|mV r r<|uN (w:=.bool (!done5)) r r r r trivial<|nI<|xS<|cD (c:=(!done5)) r ?_ ?_
  ·refine rG<|mV r r<|mV r r<|bS ([n2] : List Int) Kp r r r (by simp) r r r<|cK fun hq=>aP (out4) (([n2] : List Int)) Kp r r r r r r r (by simp) (KG _ _ r) r r (by simp) (Kt _ _ r) (fun _=>r) r hq<|aO (l:=out4 ++ ([n2] : List Int)) (en:=Kp) r r r r<|nI<|xS<|sQ<|rG<|mV r r<|aO (l:=out4 ++ ([n2] : List Int)) (en:=Kp) r r r r<|nI<|xS<|rT<|KV (b:=out4 ++ ([n2] : List Int)) r ?_ r r ?_ r ?_ (congrArg D.sl (Kt _ _ r)) r
   all_goals first|(simp;done)|(simp;omega)|rfl|(simp [KB,Kx];done)
  ·refine sK<|xS<|sQ<|rG<|mV r r<|aO (l:=out4) (en:=Kp) r r r r<|nI<|xS<|rT<|KV (b:=out4) r ?_ r r ?_ r ?_ (congrArg D.sl (Kt _ _ r)) r
   all_goals first|(simp;done)|(simp;omega)|rfl|(simp [KB,Kx];done)

def Aav : KH:=(.seq (.reg [⟨(some 4),(.asg (.c .nils) (some ⟨1,3⟩)),none,[]⟩] false) (.seq (.reg [M 7 0,P 8 (.app 1 3 8 (.c .nils) (T 7)),⟨(some 5),(.asg (T 8) (some ⟨1,3⟩)),none,[]⟩] false) (.seq (.seq (.reg [P 6 (.asg (C 0) none)] false) (.block 0 (.loop (.seq (.seq (.reg [M 9 6,M 10 1,P 11 (.len false (T 10)),P 12 (.bin .lss (T 9) (T 11))] false) (.cond (T 12) .skip (.exit 0))) (.seq (.block 1 (.reg [M 15 5,M 16 1,M 17 6,P 18 (.ixA 1 (T 16) (T 17)),P 19 (.ld 1 false (T 18)),P 20 (.call (.c (.clo 24 [])) [(T 15),(T 19)]),⟨(some 5),(.asg (T 20) (some ⟨1,3⟩)),none,[]⟩] false)) (.reg [M 13 6,P 14 (.bin .add (T 13) (C 1)),P 6 (.asg (T 14) none)] false)))))) (.seq (.reg [M 21 5,⟨(some 4),(.asg (T 21) (some ⟨1,3⟩)),none,[]⟩] false) .ret))))
theorem Ada : (Tryd.f48.body.bind (KJ Tryd.prog Tryd.f48.ntmps)) = some Aav:=by kernel_rfl
theorem Adb : Tryd.f48.results.toList.mapM (KY Tryd.prog) = some [(.t 4)]:=by kernel_rfl
def MW (a : (List Int) × (List Int)) : List D:=[.sl (a.1.map Kp),.sl (a.2.map Kp)]
def RA (ds : List D) : (List Int) × (List Int):=((uL uI) (ds.getD 0 .top),(uL uI) (ds.getD 1 .top))
theorem PY (a : (List Int) × (List Int)) : RA (MW a) = a:=by simp [RA,MW,Nd (u:=uI) (en:=Kp) (fun _=>rfl)]
def VG (b : (List Int)) : D:=.sl (b.map Kp)
def VF (_b : (List Int)) : List D:=[]
noncomputable def OP : Dw.Spec:=KI [] (.row 1 3) MW RA (fun a=>Ni a.1 a.2) VG VF
set_option maxHeartbeats 4000000 in
theorem UN : KF Tryd.prog 48 OP:=by
 refine Lc (KW (l:=[(24,Qx)]) (by simp [Wb])) Tryd.func48 (by decide) Ada Adb (np:=2) (by decide) PY (fun _=>r) (fun _=>r) (by decide)<|?_
 rintro ⟨a1,b2⟩
 show TrE (specs [(24,Qx)]) Aav (Ld [] (.row 1 3) [(.t 4)] VG VF) ⟨[(0,.sl (a1.map Kp)),(1,.sl (b2.map Kp))],[],262144⟩ (Ni a1 b2)
 refine KQ<|?_
 unfold Aav Ni
 refine sQ<|rG<|aN (α:=Int) r Kp r<|nI<|xS<|sQ<|rG<|mV r r<|cK fun hq=>aP (([] : List Int)) (a1) Kp r r r r r r r (by simp) r r r (by simp) r (fun _=>r) r hq<|aO (l:=([] : List Int) ++ a1) (en:=Kp) r r r r<|nI<|xS<|sQ<|sQ<|rG<|aS r r<|nI<|xS<|bK<|lP (E:=fun (s : (List Int) × Int) (g : Nat)=>[(1,.sl (b2.map Kp)),(5,.osl 5 g 0 s.1.length),(6,.int .i64 s.2)]) (O:=fun s g=>[(5,some (g,⟨false,false,1,3,s.1.map Kp⟩))]) (body:=fun s=>Nl b2 s.1 s.2) (s:=(([] : List Int) ++ a1,0)) _ ((hE ⟨rfl,r,r,trivial⟩ ⟨rfl,trivial⟩))<|?_
 rintro ⟨out3,i4⟩ v5x1 nn
 try dsimp only
 unfold Nl
 refine sQ<|sQ<|rG<|mV r r<|mV r r<|lS r r<|bN (v:=.bool (decide (i4 < (b2.length : Int)))) r r r r r<|nI<|xS<|cD (c:=(decide (i4 < (b2.length : Int)))) r ?_ ?_
 ·exact sK<|xS<|sQ<|bK<|rG<|mV r r<|mV r r<|mV r r<|bD fun x_x5 hx_x5=>iS (en:=Kp) r r r hx_x5 r<|lF (v:=.int .i64 x_x5) r r r r<|bD fun r6 hr6=>cR (l:=r6) (en:=Kp) (out3,x_x5) r r r TL r r (by simp) (by first | rfl | (simp only [KA]; rfl) | (simp only [KC]; rfl) | (simp only [KA,KC]; rfl) | simp [QG]) hr6 r<|aO (l:=r6) (en:=Kp) r r r r<|nI<|bM<|xS<|rG<|mV r r<|bN (v:=.int .i64 (IntKind.i64.wrap (i4 + 1))) r r r r r<|aS r r<|nI<|xL (s:=(r6,IntKind.i64.wrap (i4 + 1))) _ ((hE ⟨rfl,r,r,trivial⟩ ⟨rfl,trivial⟩))
 ·refine eT<|xE<|lE<|bH<|xS<|sQ<|rG<|mV r r<|aO (l:=out3) (en:=Kp) r r r r<|nI<|xS<|rT<|KV (b:=out3) r ?_ r r ?_ r ?_ (congrArg D.sl (Kt _ _ r)) r
  all_goals first|(simp;done)|(simp;omega)|rfl|(simp [KB,Kx];done)

def Aaw : KH:=(.seq (.reg [P 2 (.box (T 0) 5 43),⟨(some 4),(.asg (.c .nils) (some ⟨1,3⟩)),none,[]⟩] false) (.seq (.seq (.reg [P 8 (.ld 5 true (T 2)),P 9 (.call (.c (.clo 20 [])) [(T 8)]),M 7 9,P 10 (.ext (T 7) 0),P 11 (.ext (T 7) 1),P 5 (.asg (T 10) none),P 6 (.asg (T 11) none)] false) (.seq (.reg [M 12 6] false) (.cond (T 12) (.reg [M 13 1,M 14 5,P 15 (.call (.c (.clo 55 [])) [(T 13),(T 14)]),⟨(some 1),(.asg (T 15) (some ⟨1,3⟩)),none,[]⟩] false) .skip))) (.seq (.reg [M 16 1,P 17 (.ld 5 true (T 2)),P 18 (.call (.c (.clo 19 [])) [(T 17)]),P 19 (.call (.c (.clo 48 [])) [(T 16),(T 18)]),⟨(some 4),(.asg (T 19) (some ⟨1,3⟩)),none,[]⟩] false) .ret)))
theorem Adc : (Tryd.f49.body.bind (KJ Tryd.prog Tryd.f49.ntmps)) = some Aaw:=by kernel_rfl
theorem Ade : Tryd.f49.results.toList.mapM (KY Tryd.prog) = some [(.t 4)]:=by kernel_rfl
def TS (a : Kq × (List Int)) : List D:=[Kr a.1,.sl (a.2.map Kp)]
def TR (ds : List D) : Kq × (List Int):=(PT (ds.getD 0 .top),(uL uI) (ds.getD 1 .top))
theorem WZ (a : Kq × (List Int)) : TR (TS a) = a:=by simp [TR,TS,Nd (u:=uI) (en:=Kp) (fun _=>rfl)]
def Xr (b : (List Int)) : D:=.sl (b.map Kp)
def Xq (_b : (List Int)) : List D:=[]
noncomputable def Vs : Dw.Spec:=KI [] (.row 1 3) TS TR (fun a=>Sf a.1 a.2) Xr Xq
set_option maxHeartbeats 4000000 in
theorem YJ : KF Tryd.prog 49 Vs:=by
 refine Lc (KW (l:=[(20,NT),(55,RY),(19,PL),(48,OP)]) (by simp [TQ,Xp,VJ,UN])) Tryd.func49 (by decide) Adc Ade (np:=2) (by decide) WZ (fun _=>r) (fun _=>r) (by decide)<|?_
 rintro ⟨x1,out2⟩
 show TrE (specs [(20,NT),(55,RY),(19,PL),(48,OP)]) Aaw (Ld [] (.row 1 3) [(.t 4)] Xr Xq) ⟨[(0,.agg [.int .i64 x1.Op,.int .i64 x1.A,.int .i64 x1.B,.int .i64 x1.C,.int .u64 x1.Imm]),(1,.sl (out2.map Kp))],[],262144⟩ (Sf x1 out2)
 refine KQ<|?_
 unfold Aaw Sf
 refine sQ<|rG<|bX r r r r r<|aN (α:=Int) r Kp r<|nI<|xS<|sQ<|sQ<|rG<|lO (v:=.agg [.int .i64 x1.Op,.int .i64 x1.A,.int .i64 x1.B,.int .i64 x1.C,.int .u64 x1.Imm]) (z:=.agg [.int .i64 x1.Op,.int .i64 x1.A,.int .i64 x1.B,.int .i64 x1.C,.int .u64 x1.Imm]) r r r r r r<|bD fun r3 hr3=>cG x1 r r r QT r r (by simp) r hr3 r<|mV r r<|eX (v:=.int .i64 r3.1) r r r<|eX (v:=.bool r3.2) r r r<|aS r r<|aS r r<|nI<|xS<|sQ<|rG<|mV r r<|nI<|xS<|cD (c:=r3.2) r ?_ ?_
 ·refine rG<|mV r r<|mV r r<|bD fun r4 hr4=>cR (l:=r4) (en:=Kp) (out2,r3.1) r r r Um r r (by simp) r hr4 r<|aO (l:=r4) (en:=Kp) r r r r<|nI<|xS<|sQ<|rG<|mV r r<|lO (v:=.agg [.int .i64 x1.Op,.int .i64 x1.A,.int .i64 x1.B,.int .i64 x1.C,.int .u64 x1.Imm]) (z:=.agg [.int .i64 x1.Op,.int .i64 x1.A,.int .i64 x1.B,.int .i64 x1.C,.int .u64 x1.Imm]) r r r r r r<|bD fun r5 hr5=>cR (l:=r5) (en:=Kp) x1 r r r QJ r r (by simp) r hr5 r<|bD fun r6 hr6=>cR (l:=r6) (en:=Kp) (r4,r5) r r r PY r r (by simp) (by first | rfl | (simp only [KA]; rfl) | (simp only [KC]; rfl) | (simp only [KA,KC]; rfl) | simp [MW]) hr6 r<|aO (l:=r6) (en:=Kp) r r r r<|nI<|xS<|rT<|KV (b:=r6) r ?_ r r ?_ r ?_ (congrArg D.sl (Kt _ _ r)) r
  all_goals first|(simp;done)|(simp;omega)|rfl|(simp [KB,Kx];done)
 ·refine sK<|xS<|sQ<|rG<|mV r r<|lO (v:=.agg [.int .i64 x1.Op,.int .i64 x1.A,.int .i64 x1.B,.int .i64 x1.C,.int .u64 x1.Imm]) (z:=.agg [.int .i64 x1.Op,.int .i64 x1.A,.int .i64 x1.B,.int .i64 x1.C,.int .u64 x1.Imm]) r r r r r r<|bD fun r7 hr7=>cR (l:=r7) (en:=Kp) x1 r r r QJ r r (by simp) r hr7 r<|bD fun r8 hr8=>cR (l:=r8) (en:=Kp) (out2,r7) r r r PY r r (by simp) (by first | rfl | (simp only [KA]; rfl) | (simp only [KC]; rfl) | (simp only [KA,KC]; rfl) | simp [MW]) hr8 r<|aO (l:=r8) (en:=Kp) r r r r<|nI<|xS<|rT<|KV (b:=r8) r ?_ r r ?_ r ?_ (congrArg D.sl (Kt _ _ r)) r
  all_goals first|(simp;done)|(simp;omega)|rfl|(simp [KB,Kx];done)

def Aah : KH:=(.seq (.reg [P 2 (.box (T 0) 3 27),P 3 (.box (T 1) 1 30),P 4 (.new (.agg [.nils]) 1 30)] false) (.seq (.reg [P 10 (.fldA 2 (T 2)),P 11 (.ld 1 false (T 10)),P 12 (.len false (T 11)),P 13 (.mkS 1 36 24 .nils (T 12) (T 12)),⟨(some 14),(.bld [.nils] [⟨0,⟨1,(T 13)⟩⟩]),none,[]⟩,P 5 (.new (.agg [.nils]) 1 30),⟨none,(.st 1 (T 5) (T 14)),none,[]⟩] false) (.seq (.seq (.reg [P 6 (.asg (C 0) none)] false) (.block 0 (.loop (.seq (.seq (.reg [M 15 6,P 16 (.fldA 2 (T 2)),P 17 (.ld 1 false (T 16)),P 18 (.len false (T 17)),P 19 (.bin .lss (T 15) (T 18))] false) (.cond (T 19) .skip (.exit 0))) (.seq (.block 1 (.seq (.reg [P 22 (.ld 3 true (T 2)),M 23 6,P 24 (.call (.c (.clo 18 [])) [(T 22),(T 23)]),⟨(some 7),(.asg (T 24) (some ⟨1,3⟩)),none,[]⟩] false) (.seq (.reg [P 8 (.asg (C 0) none)] false) (.block 2 (.loop (.seq (.seq (.reg [M 25 8,M 26 7,P 27 (.len false (T 26)),P 28 (.bin .lss (T 25) (T 27))] false) (.cond (T 28) .skip (.exit 2))) (.seq (.block 3 (.seq (.reg [M 31 7,M 32 8,P 33 (.ixA 1 (T 31) (T 32)),P 34 (.ld 1 false (T 33)),P 9 (.asg (T 34) none)] false) (.reg [P 35 (.fldA 0 (T 5)),⟨(some 36),(.ld 1 false (T 35)),none,[0]⟩,M 37 6,P 38 (.fldA 0 (T 5)),⟨(some 39),(.ld 1 false (T 38)),none,[3]⟩,M 40 6,⟨(some 41),(.ixA 1 (T 39) (T 40)),none,[4,5]⟩,⟨(some 42),(.ld 1 false (T 41)),none,[6]⟩,P 43 (.fldA 2 (T 2)),⟨(some 44),(.ld 1 false (T 43)),none,[8]⟩,M 45 9,⟨(some 46),(.ixA 5 (T 44) (T 45)),none,[9,10]⟩,⟨(some 47),(.ld 5 true (T 46)),none,[11]⟩,P 48 (.fldA 0 (T 3)),⟨(some 49),(.ld 1 false (T 48)),none,[13]⟩,M 50 9,⟨(some 51),(.ixA 1 (T 49) (T 50)),none,[14,15]⟩,⟨(some 52),(.ld 1 false (T 51)),none,[16]⟩,⟨(some 53),(.call (.c (.clo 49 [])) [(T 47),(T 52)]),none,[12,17]⟩,⟨(some 54),(.call (.c (.clo 48 [])) [(T 42),(T 53)]),none,[7,18,18]⟩,⟨(some 55),(.ixA 1 (T 36) (T 37)),none,[1,2,0,1,2,3,4,5,6,7,8,9,10,11,12,13,14,15,16,17,18,19]⟩,⟨none,(.st 1 (T 55) (T 54)),none,[20,19,19,0,1,2,3,4,5,6,7,8,9,10,11,12,13,14,15,16,17,18,19]⟩] true))) (.reg [M 29 8,P 30 (.bin .add (T 29) (C 1)),P 8 (.asg (T 30) none)] false)))))))) (.reg [M 20 6,P 21 (.bin .add (T 20) (C 1)),P 6 (.asg (T 21) none)] false)))))) (.seq (.reg [P 56 (.ld 1 true (T 5)),⟨none,(.st 1 (T 4) (T 56)),none,[]⟩] false) .ret))))
theorem Acy : (Tryd.f32.body.bind (KJ Tryd.prog Tryd.f32.ntmps)) = some Aah:=by kernel_rfl
theorem Acz : Tryd.f32.results.toList.mapM (KY Tryd.prog) = some [(.c 4 1 true)]:=by kernel_rfl
def Sl (a : Ku × KL) : List D:=[Lm a.1,OM a.2]
def Sk (ds : List D) : Ku × KL:=(Pu (ds.getD 0 .top),Xw (ds.getD 1 .top))
theorem VN (a : Ku × KL) : Sk (Sl a) = a:=by simp [Sk,Sl]
def TU (b : KL) : D:=OM b
def Wp (_b : KL) : List D:=[]
noncomputable def TV : Dw.Spec:=KI [] .val Sl Sk (fun a=>Qc a.1 a.2) TU Wp
set_option maxHeartbeats 4000000 in
theorem XU : KF Tryd.prog 32 TV:=by
 refine Lc (KW (l:=[(18,PK),(49,Vs),(48,OP)]) (by simp [VI,YJ,UN])) Tryd.func32 (by decide) Acy Acz (np:=2) (by decide) VN (fun _=>r) (fun _=>r) (by decide)<|?_
 rintro ⟨f1,l2⟩
 show TrE (specs [(18,PK),(49,Vs),(48,OP)]) Aah (Ld [] .val [(.c 4 1 true)] TU Wp) ⟨[(0,.agg [.int .i64 f1.Params,.sl (f1.Slots.map Kv),.sl (f1.Code.map Kr)]),(1,.agg [.sl (l2.Out.map (eL Kp))])],[],262144⟩ (Qc f1 l2)
 refine KQ<|?_
 unfold Aah Qc
 refine sQ<|rG<|bX r r r r r<|bX r r r r r<|nW r<|nI<|xS<|sQ<|rG<|fA r r<|lO (v:=.sl (f1.Code.map Kr)) (z:=.agg [.int .i64 f1.Params,.sl (f1.Slots.map Kv),.sl (f1.Code.map Kr)]) r r r r r r<|lS r r<|cK fun hq=>So (α:=Int) r r r hq r<|bL (cs:=[.osl 13 _ 0 ((List.replicate (f1.Code.length : Int).toNat ([] : (List Int))).length)]) (ps:=[(0,1,.osl 13 _ 0 ((List.replicate (f1.Code.length : Int).toNat ([] : (List Int))).length))]) r r r r<|nW r<|sV (z':=.agg [.osl 13 _ 0 ((List.replicate (f1.Code.length : Int).toNat ([] : (List Int))).length)]) r r r r r r r r r<|nI<|OY (E:=[(2,.optr 2 _ 0 0),(3,.optr 3 _ 0 0),(4,.optr 4 _ 0 0),(5,.optr 5 _ 0 0)]) (O:=[(2,some (_,⟨false,true,3,27,[.agg [.int .i64 f1.Params,.sl (f1.Slots.map Kv),.sl (f1.Code.map Kr)]]⟩)),(3,some (_,⟨false,true,1,30,[.agg [.sl (l2.Out.map (eL Kp))]]⟩)),(4,some (_,⟨false,true,1,30,[.agg [.nils]]⟩)),(5,some (_,⟨false,true,1,30,[.agg [.osl 13 _ 0 ((List.replicate (f1.Code.length : Int).toNat ([] : (List Int))).length)]]⟩)),(13,some (_,⟨false,false,1,36,(List.replicate (f1.Code.length : Int).toNat ([] : (List Int))).map (eL Kp)⟩))]) ((VX (g:=13) r (Xf (l:=List.replicate (f1.Code.length : Int).toNat ([] : (List Int))) Kp (fun _ h=>List.eq_of_mem_replicate h)) (hE ⟨rfl,r,r,r,trivial⟩ ⟨rfl,r,r,r,r,trivial⟩))) fun nn=>sQ<|sQ<|rG<|aS r r<|nI<|xS<|bK<|lP (E:=fun (s : (List (List Int)) × Int) (g : Nat × Nat × Nat × Nat × Nat)=>[(2,.optr 2 g.1 0 0),(3,.optr 3 g.2.1 0 0),(4,.optr 4 g.2.2.1 0 0),(5,.optr 5 g.2.2.2.1 0 0),(6,.int .i64 s.2)]) (O:=fun s g=>[(2,some (g.1,⟨false,true,3,27,[.agg [.int .i64 f1.Params,.sl (f1.Slots.map Kv),.sl (f1.Code.map Kr)]]⟩)),(3,some (g.2.1,⟨false,true,1,30,[.agg [.sl (l2.Out.map (eL Kp))]]⟩)),(4,some (g.2.2.1,⟨false,true,1,30,[.agg [.nils]]⟩)),(5,some (g.2.2.2.1,⟨false,true,1,30,[.agg [.osl 13 g.2.2.2.2 0 s.1.length]]⟩)),(13,some (g.2.2.2.2,⟨false,false,1,36,s.1.map (eL Kp)⟩))]) (body:=fun s=>NJ f1 l2 s.1 s.2) (s:=(List.replicate (f1.Code.length : Int).toNat ([] : (List Int)),0)) (_,_,_,_,_) ((hE ⟨rfl,r,r,r,r,trivial⟩ ⟨rfl,r,r,r,r,trivial⟩))<|?_
 rintro ⟨x3,k4⟩ ⟨v2x1,v3x1,v4x1,v5x1,v13x1⟩ nn
 try dsimp only
 unfold NJ
 refine sQ<|sQ<|rG<|mV r r<|fA r r<|lO (v:=.sl (f1.Code.map Kr)) (z:=.agg [.int .i64 f1.Params,.sl (f1.Slots.map Kv),.sl (f1.Code.map Kr)]) r r r r r r<|lS r r<|bN (v:=.bool (decide (k4 < (f1.Code.length : Int)))) r r r r r<|nI<|xS<|cD (c:=(decide (k4 < (f1.Code.length : Int)))) r ?_ ?_
 ·refine sK<|xS<|bC (E:=fun (s : (List (List Int))) (g : Nat × Nat × Nat × Nat × Nat)=>[(2,.optr 2 g.1 0 0),(3,.optr 3 g.2.1 0 0),(4,.optr 4 g.2.2.1 0 0),(5,.optr 5 g.2.2.2.1 0 0),(6,.int .i64 k4)]) (O:=fun s g=>[(2,some (g.1,⟨false,true,3,27,[.agg [.int .i64 f1.Params,.sl (f1.Slots.map Kv),.sl (f1.Code.map Kr)]]⟩)),(3,some (g.2.1,⟨false,true,1,30,[.agg [.sl (l2.Out.map (eL Kp))]]⟩)),(4,some (g.2.2.1,⟨false,true,1,30,[.agg [.nils]]⟩)),(5,some (g.2.2.2.1,⟨false,true,1,30,[.agg [.osl 13 g.2.2.2.2 0 s.length]]⟩)),(13,some (g.2.2.2.2,⟨false,false,1,36,s.map (eL Kp)⟩))]) (j:=fun s=>QK k4 s) ?_ ?_
  ·refine sQ<|rG<|lO (v:=.agg [.int .i64 f1.Params,.sl (f1.Slots.map Kv),.sl (f1.Code.map Kr)]) (z:=.agg [.int .i64 f1.Params,.sl (f1.Slots.map Kv),.sl (f1.Code.map Kr)]) r r r r r r<|mV r r<|bD fun r6 hr6=>cR (l:=r6) (en:=Kp) (f1,k4) r r r OQ r r (by simp) r hr6 r<|aO (l:=r6) (en:=Kp) r r r r<|nI<|xS<|sQ<|rG<|aS r r<|nI<|xS<|bK<|lP (E:=fun (s : (List (List Int)) × Int) (g : Nat × Nat × Nat × Nat × Nat × Nat)=>[(2,.optr 2 g.1 0 0),(3,.optr 3 g.2.1 0 0),(4,.optr 4 g.2.2.1 0 0),(5,.optr 5 g.2.2.2.1 0 0),(6,.int .i64 k4),(7,.osl 7 g.2.2.2.2.1 0 r6.length),(8,.int .i64 s.2)]) (O:=fun s g=>[(2,some (g.1,⟨false,true,3,27,[.agg [.int .i64 f1.Params,.sl (f1.Slots.map Kv),.sl (f1.Code.map Kr)]]⟩)),(3,some (g.2.1,⟨false,true,1,30,[.agg [.sl (l2.Out.map (eL Kp))]]⟩)),(4,some (g.2.2.1,⟨false,true,1,30,[.agg [.nils]]⟩)),(5,some (g.2.2.2.1,⟨false,true,1,30,[.agg [.osl 13 g.2.2.2.2.2 0 s.1.length]]⟩)),(7,some (g.2.2.2.2.1,⟨false,false,1,3,r6.map Kp⟩)),(13,some (g.2.2.2.2.2,⟨false,false,1,36,s.1.map (eL Kp)⟩))]) (body:=fun s=>NK r6 k4 f1 l2 s.1 s.2) (s:=(x3,0)) (_,_,_,_,_,_) ((hE ⟨rfl,r,r,r,r,r,r,trivial⟩ ⟨rfl,r,r,r,r,r,trivial⟩))<|?_
   rintro ⟨x7,i8⟩ ⟨v2x2,v3x2,v4x2,v5x2,v7x2,v13x2⟩ nn
   try dsimp only
   unfold NK
   refine sQ<|sQ<|rG<|mV r r<|mV r r<|lW r r<|bN (v:=.bool (decide (i8 < (r6.length : Int)))) r r r r r<|nI<|xS<|cD (c:=(decide (i8 < (r6.length : Int)))) r ?_ ?_
   ·exact sK<|xS<|sQ<|bK<|sQ<|rG<|mV r r<|mV r r<|cK fun hq=>iO (l:=r6) (en:=Kp) r r r r r hq<|bD fun next_e9 hnext_e9=>lO (v:=.int .i64 next_e9) (z:=Kp next_e9) r r r (Ma hnext_e9) r r<|aS r r<|nI<|xS<|rG<|fA r r<|lO (v:=.osl 13 _ 0 x7.length) (z:=.agg [.osl 13 _ 0 x7.length]) r r r r r r<|mV r r<|fA r r<|lO (v:=.osl 13 _ 0 x7.length) (z:=.agg [.osl 13 _ 0 x7.length]) r r r r r r<|mV r r<|cK fun hq=>iO (l:=x7) (en:=(eL Kp)) r r r r r hq<|bD fun x_e10 hx_e10=>lO (v:=.sl (x_e10.map Kp)) (z:=(eL Kp) x_e10) r r r (Ma hx_e10) r r<|fA r r<|lO (v:=.sl (f1.Code.map Kr)) (z:=.agg [.int .i64 f1.Params,.sl (f1.Slots.map Kv),.sl (f1.Code.map Kr)]) r r r r r r<|mV r r<|bD fun x_x11 hx_x11=>iS (en:=Kr) r r r hx_x11 r<|lF (v:=.agg [.int .i64 x_x11.Op,.int .i64 x_x11.A,.int .i64 x_x11.B,.int .i64 x_x11.C,.int .u64 x_x11.Imm]) r r r r<|fA r r<|lO (v:=.sl (l2.Out.map (eL Kp))) (z:=.agg [.sl (l2.Out.map (eL Kp))]) r r r r r r<|mV r r<|bD fun x_x12 hx_x12=>iS (en:=(eL Kp)) r r r hx_x12 r<|lF (v:=.sl (x_x12.map Kp)) r r r r<|bD fun r13 hr13=>cR (l:=r13) (en:=Kp) (x_x11,x_x12) r r r WZ r r (by simp) r hr13 r<|bD fun r14 hr14=>cR (l:=r14) (en:=Kp) (x_e10,r13) r r r PY r r (by simp) (by first | rfl | (simp only [KA]; rfl) | (simp only [KC]; rfl) | (simp only [KA,KC]; rfl) | simp [MW]) hr14 r<|cK fun hq=>iO (l:=x7) (en:=(eL Kp)) r r r r r hq<|bD fun x_o15 hx_o15=>sE (l:=x7) (en:=(eL Kp)) (q':=r14) r r r r r r r (by simp) hx_o15 r r r (by simp [Ll,cells,setAt,eL]) r<|KX (by kernel_rfl)<|bM<|xS<|rG<|mV r r<|bN (v:=.int .i64 (IntKind.i64.wrap (i8 + 1))) r r r r r<|aS r r<|nI<|xL (s:=(x7.set k4.toNat r14,IntKind.i64.wrap (i8 + 1))) (_,_,_,_,_,_) ((hE ⟨rfl,r,r,r,r,r,r,trivial⟩ ⟨rfl,r,r,(Eq.trans (b:=some (_,⟨false,true,1,30,[.agg [.osl 13 _ 0 x7.length]]⟩)) r (by simp)),r,r,trivial⟩))
   ·exact eT<|xE<|lE<|bH<|Pt (s:=x7) (_,_,_,_,_) ((hE ⟨rfl,r,r,r,r,trivial⟩ ⟨rfl,r,r,r,r,trivial⟩))
  ·rintro x5 ⟨v2x3,v3x3,v4x3,v5x3,v13x3⟩ nn
   try dsimp only
   unfold QK
   exact rG<|mV r r<|bN (v:=.int .i64 (IntKind.i64.wrap (k4 + 1))) r r r r r<|aS r r<|nI<|xL (s:=(x5,IntKind.i64.wrap (k4 + 1))) (_,_,_,_,_) ((hE ⟨rfl,r,r,r,r,trivial⟩ ⟨rfl,r,r,r,r,trivial⟩))
 ·refine eT<|xE<|lE<|bH<|xS<|sQ<|rG<|lO (v:=.agg [.osl 13 _ 0 x3.length]) (z:=.agg [.osl 13 _ 0 x3.length]) r r r r r r<|sV (z':=.agg [.osl 13 _ 0 x3.length]) r r r r r r r r r<|nI<|xS<|rT<|LF (b:=(KL.mk x3)) r ?_ r r ?_ (by first | rfl | (simp only [KA]; rfl) | (simp only [KC]; rfl) | (simp only [KA,KC]; rfl) | simp [TU,OM])
  all_goals first|(simp;done)|(simp;omega)|rfl|(simp [KB,Kx];done)

def AaA : KH:=(.seq (.reg [P 4 (.asg (.c (.bool false)) none)] false) (.seq (.seq (.reg [M 6 0,P 7 (.len false (T 6)),M 8 1,P 9 (.len false (T 8)),P 10 (.bin .neq (T 7) (T 9))] false) (.cond (T 10) (.seq (.reg [P 4 (.asg (.c (.bool false)) none)] false) .ret) .skip)) (.seq (.seq (.reg [P 5 (.asg (C 0) none)] false) (.block 0 (.loop (.seq (.seq (.reg [M 11 5,M 12 0,P 13 (.len false (T 12)),P 14 (.bin .lss (T 11) (T 13))] false) (.cond (T 14) .skip (.exit 0))) (.seq (.block 1 (.seq (.reg [M 17 0,M 18 5,⟨(some 19),(.ixA 1 (T 17) (T 18)),none,[0,1]⟩,⟨(some 20),(.ld 1 false (T 19)),none,[2]⟩,M 21 1,M 22 5,⟨(some 23),(.ixA 1 (T 21) (T 22)),none,[4,5]⟩,⟨(some 24),(.ld 1 false (T 23)),none,[6]⟩,⟨(some 25),(.bin .neq (T 20) (T 24)),none,[3,7]⟩] true) (.cond (T 25) (.seq (.reg [P 4 (.asg (.c (.bool false)) none)] false) .ret) .skip))) (.reg [M 15 5,P 16 (.bin .add (T 15) (C 1)),P 5 (.asg (T 16) none)] false)))))) (.seq (.reg [P 4 (.asg (.c (.bool true)) none)] false) .ret))))
theorem Adl : (Tryd.f56.body.bind (KJ Tryd.prog Tryd.f56.ntmps)) = some AaA:=by kernel_rfl
theorem Adm : Tryd.f56.results.toList.mapM (KY Tryd.prog) = some [(.t 4)]:=by kernel_rfl
def Sa (a : (List Int) × (List Int)) : List D:=[.sl (a.1.map Kp),.sl (a.2.map Kp)]
def RZ (ds : List D) : (List Int) × (List Int):=((uL uI) (ds.getD 0 .top),(uL uI) (ds.getD 1 .top))
theorem VE (a : (List Int) × (List Int)) : RZ (Sa a) = a:=by simp [RZ,Sa,Nd (u:=uI) (en:=Kp) (fun _=>rfl)]
def We (b : Bool) : D:=.bool b
def Wd (_b : Bool) : List D:=[]
noncomputable def TO : Dw.Spec:=KI [] .ground Sa RZ (fun a=>PX a.1 a.2) We Wd
set_option maxHeartbeats 4000000 in
theorem XR : KF Tryd.prog 56 TO:=by
 refine Lc (LD) Tryd.func56 (by decide) Adl Adm (np:=2) (by decide) VE (fun _=>r) (fun _=>r) (by decide)<|?_
 rintro ⟨a1,b2⟩
 show TrE (specs []) AaA (Ld [] .ground [(.t 4)] We Wd) ⟨[(0,.sl (a1.map Kp)),(1,.sl (b2.map Kp))],[],262144⟩ (PX a1 b2)
 refine KQ<|?_
 unfold AaA PX
 refine sQ<|rG<|aS r r<|nI<|xS<|sQ<|sQ<|rG<|mV r r<|lS r r<|mV r r<|lS r r<|bN (v:=.bool ((a1.length : Int) != (b2.length : Int))) r r r r r<|nI<|xS<|cD (c:=((a1.length : Int) != (b2.length : Int))) r ?_ ?_
 ·refine sQ<|rG<|aS r r<|nI<|xS<|rT<|xR<|KN (b:=false) r ?_ r r ?_ r
  all_goals first|(simp;done)|(simp;omega)|rfl|(simp [KB,Kx];done)
 ·refine sK<|xS<|sQ<|sQ<|rG<|aS r r<|nI<|xS<|bK<|lP (E:=fun (s : Int) (g : Unit)=>[(0,.sl (a1.map Kp)),(1,.sl (b2.map Kp)),(5,.int .i64 s)]) (O:=fun s g=>[]) (body:=fun s=>Nc a1 b2 s) (s:=0) () ((hE ⟨rfl,r,r,trivial⟩ trivial))<|?_
  rintro i3 ⟨⟩ nn
  try dsimp only
  unfold Nc
  refine sQ<|sQ<|rG<|mV r r<|mV r r<|lS r r<|bN (v:=.bool (decide (i3 < (a1.length : Int)))) r r r r r<|nI<|xS<|cD (c:=(decide (i3 < (a1.length : Int)))) r ?_ ?_
  ·refine sK<|xS<|sQ<|bK<|sQ<|rG<|mV r r<|mV r r<|bD fun x_x4 hx_x4=>iS (en:=Kp) r r r hx_x4 r<|lF (v:=.int .i64 x_x4) r r r r<|mV r r<|mV r r<|bD fun x_x5 hx_x5=>iS (en:=Kp) r r r hx_x5 r<|lF (v:=.int .i64 x_x5) r r r r<|bN (v:=.bool (x_x4 != x_x5)) r r r r r<|KX (by kernel_rfl)<|xS<|cD (c:=(x_x4 != x_x5)) r ?_ ?_
   ·refine sQ<|rG<|aS r r<|nI<|xS<|rT<|bR<|xR<|lR<|bR<|xR<|KN (b:=false) r ?_ r r ?_ r
    all_goals first|(simp;done)|(simp;omega)|rfl|(simp [KB,Kx];done)
   ·exact sK<|bM<|xS<|rG<|mV r r<|bN (v:=.int .i64 (IntKind.i64.wrap (i3 + 1))) r r r r r<|aS r r<|nI<|xL (s:=IntKind.i64.wrap (i3 + 1)) () ((hE ⟨rfl,r,r,trivial⟩ trivial))
  ·refine eT<|xE<|lE<|bH<|xS<|sQ<|rG<|aS r r<|nI<|xS<|rT<|KN (b:=true) r ?_ r r ?_ r
   all_goals first|(simp;done)|(simp;omega)|rfl|(simp [KB,Kx];done)

def Aax : KH:=(.seq (.reg [P 4 (.asg (.c (.bool false)) none)] false) (.seq (.seq (.reg [M 6 0,P 7 (.len false (T 6)),M 8 1,P 9 (.len false (T 8)),P 10 (.bin .neq (T 7) (T 9))] false) (.cond (T 10) (.seq (.reg [P 4 (.asg (.c (.bool false)) none)] false) .ret) .skip)) (.seq (.seq (.reg [P 5 (.asg (C 0) none)] false) (.block 0 (.loop (.seq (.seq (.reg [M 11 5,M 12 0,P 13 (.len false (T 12)),P 14 (.bin .lss (T 11) (T 13))] false) (.cond (T 14) .skip (.exit 0))) (.seq (.block 1 (.seq (.reg [M 17 0,M 18 5,⟨(some 19),(.ixA 1 (T 17) (T 18)),none,[0,1]⟩,⟨(some 20),(.ld 1 false (T 19)),none,[2]⟩,M 21 1,M 22 5,⟨(some 23),(.ixA 1 (T 21) (T 22)),none,[4,5]⟩,⟨(some 24),(.ld 1 false (T 23)),none,[6]⟩,⟨(some 25),(.call (.c (.clo 56 [])) [(T 20),(T 24)]),none,[3,7]⟩,⟨(some 26),(.un .not (T 25)),none,[8]⟩] true) (.cond (T 26) (.seq (.reg [P 4 (.asg (.c (.bool false)) none)] false) .ret) .skip))) (.reg [M 15 5,P 16 (.bin .add (T 15) (C 1)),P 5 (.asg (T 16) none)] false)))))) (.seq (.reg [P 4 (.asg (.c (.bool true)) none)] false) .ret))))
theorem Adf : (Tryd.f50.body.bind (KJ Tryd.prog Tryd.f50.ntmps)) = some Aax:=by kernel_rfl
theorem Adg : Tryd.f50.results.toList.mapM (KY Tryd.prog) = some [(.t 4)]:=by kernel_rfl
def Qr (a : (List (List Int)) × (List (List Int))) : List D:=[.sl (a.1.map (eL Kp)),.sl (a.2.map (eL Kp))]
def Qq (ds : List D) : (List (List Int)) × (List (List Int)):=((uL (uL uI)) (ds.getD 0 .top),(uL (uL uI)) (ds.getD 1 .top))
theorem TN (a : (List (List Int)) × (List (List Int))) : Qq (Qr a) = a:=by simp [Qq,Qr,Nd (u:=(uL uI)) (en:=(eL Kp)) (Nd (u:=uI) (en:=Kp) (fun _=>rfl))]
def Uo (b : Bool) : D:=.bool b
def Un (_b : Bool) : List D:=[]
noncomputable def Rz : Dw.Spec:=KI [] .ground Qr Qq (fun a=>NI a.1 a.2) Uo Un
set_option maxHeartbeats 4000000 in
theorem Xh : KF Tryd.prog 50 Rz:=by
 refine Lc (KW (l:=[(56,TO)]) (by simp [XR])) Tryd.func50 (by decide) Adf Adg (np:=2) (by decide) TN (fun _=>r) (fun _=>r) (by decide)<|?_
 rintro ⟨a1,b2⟩
 show TrE (specs [(56,TO)]) Aax (Ld [] .ground [(.t 4)] Uo Un) ⟨[(0,.sl (a1.map (eL Kp))),(1,.sl (b2.map (eL Kp)))],[],262144⟩ (NI a1 b2)
 refine KQ<|?_
 unfold Aax NI
 refine sQ<|rG<|aS r r<|nI<|xS<|sQ<|sQ<|rG<|mV r r<|lS r r<|mV r r<|lS r r<|bN (v:=.bool ((a1.length : Int) != (b2.length : Int))) r r r r r<|nI<|xS<|cD (c:=((a1.length : Int) != (b2.length : Int))) r ?_ ?_
 ·refine sQ<|rG<|aS r r<|nI<|xS<|rT<|xR<|KN (b:=false) r ?_ r r ?_ r
  all_goals first|(simp;done)|(simp;omega)|rfl|(simp [KB,Kx];done)
 ·refine sK<|xS<|sQ<|sQ<|rG<|aS r r<|nI<|xS<|bK<|lP (E:=fun (s : Int) (g : Unit)=>[(0,.sl (a1.map (eL Kp))),(1,.sl (b2.map (eL Kp))),(5,.int .i64 s)]) (O:=fun s g=>[]) (body:=fun s=>Mg a1 b2 s) (s:=0) () ((hE ⟨rfl,r,r,trivial⟩ trivial))<|?_
  rintro i3 ⟨⟩ nn
  try dsimp only
  unfold Mg
  refine sQ<|sQ<|rG<|mV r r<|mV r r<|lS r r<|bN (v:=.bool (decide (i3 < (a1.length : Int)))) r r r r r<|nI<|xS<|cD (c:=(decide (i3 < (a1.length : Int)))) r ?_ ?_
  ·refine sK<|xS<|sQ<|bK<|sQ<|rG<|mV r r<|mV r r<|bD fun x_x4 hx_x4=>iS (en:=(eL Kp)) r r r hx_x4 r<|lF (v:=.sl (x_x4.map Kp)) r r r r<|mV r r<|mV r r<|bD fun x_x5 hx_x5=>iS (en:=(eL Kp)) r r r hx_x5 r<|lF (v:=.sl (x_x5.map Kp)) r r r r<|bD fun r6 hr6=>cG (x_x4,x_x5) r r r VE r r (by simp) r hr6 r<|uN (w:=.bool (!r6)) r r r r trivial<|KX (by kernel_rfl)<|xS<|cD (c:=(!r6)) r ?_ ?_
   ·refine sQ<|rG<|aS r r<|nI<|xS<|rT<|bR<|xR<|lR<|bR<|xR<|KN (b:=false) r ?_ r r ?_ r
    all_goals first|(simp;done)|(simp;omega)|rfl|(simp [KB,Kx];done)
   ·exact sK<|bM<|xS<|rG<|mV r r<|bN (v:=.int .i64 (IntKind.i64.wrap (i3 + 1))) r r r r r<|aS r r<|nI<|xL (s:=IntKind.i64.wrap (i3 + 1)) () ((hE ⟨rfl,r,r,trivial⟩ trivial))
  ·refine eT<|xE<|lE<|bH<|xS<|sQ<|rG<|aS r r<|nI<|xS<|rT<|KN (b:=true) r ?_ r r ?_ r
   all_goals first|(simp;done)|(simp;omega)|rfl|(simp [KB,Kx];done)

def Aai : KH:=(.seq (.reg [P 2 (.box (T 0) 1 30),P 3 (.box (T 1) 1 30),P 4 (.asg (.c (.bool false)) none)] false) (.seq (.reg [P 5 (.fldA 0 (T 2)),P 6 (.ld 1 false (T 5)),P 7 (.fldA 0 (T 3)),P 8 (.ld 1 false (T 7)),P 9 (.call (.c (.clo 50 [])) [(T 6),(T 8)]),P 4 (.asg (T 9) none)] false) .ret))
theorem AcA : (Tryd.f33.body.bind (KJ Tryd.prog Tryd.f33.ntmps)) = some Aai:=by kernel_rfl
theorem AcB : Tryd.f33.results.toList.mapM (KY Tryd.prog) = some [(.t 4)]:=by kernel_rfl
def Sj (a : KL × KL) : List D:=[OM a.1,OM a.2]
def Si (ds : List D) : KL × KL:=(Xw (ds.getD 0 .top),Xw (ds.getD 1 .top))
theorem VK (a : KL × KL) : Si (Sj a) = a:=by simp [Si,Sj]
def Wo (b : Bool) : D:=.bool b
def Wn (_b : Bool) : List D:=[]
noncomputable def TT : Dw.Spec:=KI [] .ground Sj Si (fun a=>Qa a.1 a.2) Wo Wn
set_option maxHeartbeats 4000000 in
theorem XT : KF Tryd.prog 33 TT:=by
 refine Lc (KW (l:=[(50,Rz)]) (by simp [Xh])) Tryd.func33 (by decide) AcA AcB (np:=2) (by decide) VK (fun _=>r) (fun _=>r) (by decide)<|?_
 rintro ⟨a1,b2⟩
 show TrE (specs [(50,Rz)]) Aai (Ld [] .ground [(.t 4)] Wo Wn) ⟨[(0,.agg [.sl (a1.Out.map (eL Kp))]),(1,.agg [.sl (b2.Out.map (eL Kp))])],[],262144⟩ (Qa a1 b2)
 refine KQ<|?_
 unfold Aai Qa
 refine sQ<|rG<|bX r r r r r<|bX r r r r r<|aS r r<|nI<|xS<|sQ<|rG<|fA r r<|lO (v:=.sl (a1.Out.map (eL Kp))) (z:=.agg [.sl (a1.Out.map (eL Kp))]) r r r r r r<|fA r r<|lO (v:=.sl (b2.Out.map (eL Kp))) (z:=.agg [.sl (b2.Out.map (eL Kp))]) r r r r r r<|bD fun r3 hr3=>cG (a1.Out,b2.Out) r r r TN r r (by simp) r hr3 r<|aS r r<|nI<|xS<|rT<|KN (b:=r3) r ?_ r r ?_ r
 all_goals first|(simp;done)|(simp;omega)|rfl|(simp [KB,Kx];done)

def ZY : KH:=(.seq (.reg [P 1 (.box (T 0) 3 27),P 2 (.new (.agg [.nils]) 1 30)] false) (.seq (.reg [P 5 (.fldA 2 (T 1)),P 6 (.ld 1 false (T 5)),P 7 (.len false (T 6)),P 8 (.mkS 1 36 24 .nils (T 7) (T 7)),⟨(some 9),(.bld [.nils] [⟨0,⟨1,(T 8)⟩⟩]),none,[]⟩,P 3 (.new (.agg [.nils]) 1 30),⟨none,(.st 1 (T 3) (T 9)),none,[]⟩] false) (.block 0 (.loop (.block 1 (.seq (.reg [P 10 (.ld 3 true (T 1)),P 11 (.ld 1 true (T 3)),P 12 (.call (.c (.clo 32 [])) [(T 10),(T 11)]),P 4 (.new (.agg [.nils]) 1 30),⟨none,(.st 1 (T 4) (T 12)),none,[]⟩] false) (.seq (.seq (.reg [P 13 (.ld 1 true (T 4)),P 14 (.ld 1 true (T 3)),P 15 (.call (.c (.clo 33 [])) [(T 13),(T 14)])] false) (.cond (T 15) (.seq (.reg [P 16 (.ld 1 true (T 3)),⟨none,(.st 1 (T 2) (T 16)),none,[]⟩] false) .ret) .skip)) (.reg [P 17 (.ld 1 true (T 4)),⟨none,(.st 1 (T 3) (T 17)),none,[]⟩] false))))))))
theorem Acf : (Tryd.f23.body.bind (KJ Tryd.prog Tryd.f23.ntmps)) = some ZY:=by kernel_rfl
theorem Acg : Tryd.f23.results.toList.mapM (KY Tryd.prog) = some [(.c 2 1 true)]:=by kernel_rfl
def RC (a : Ku) : List D:=[Lm a]
def RB (ds : List D) : Ku:=Pu (ds.getD 0 .top)
theorem UO (a : Ku) : RB (RC a) = a:=by simp [RB,RC]
def VM (b : KL) : D:=OM b
def VL (_b : KL) : List D:=[]
noncomputable def SX : Dw.Spec:=KI [] .val RC RB (fun a=>OX a) VM VL
set_option maxHeartbeats 4000000 in
theorem XC : KF Tryd.prog 23 SX:=by
 refine Lc (KW (l:=[(32,TV),(33,TT)]) (by simp [XU,XT])) Tryd.func23 (by decide) Acf Acg (np:=1) (by decide) UO (fun _=>r) (fun _=>r) (by decide)<|?_
 intro f1
 show TrE (specs [(32,TV),(33,TT)]) ZY (Ld [] .val [(.c 2 1 true)] VM VL) ⟨[(0,.agg [.int .i64 f1.Params,.sl (f1.Slots.map Kv),.sl (f1.Code.map Kr)])],[],262144⟩ (OX f1)
 refine KQ<|?_
 unfold ZY OX
 refine sQ<|rG<|bX r r r r r<|nW r<|nI<|xS<|sQ<|rG<|fA r r<|lO (v:=.sl (f1.Code.map Kr)) (z:=.agg [.int .i64 f1.Params,.sl (f1.Slots.map Kv),.sl (f1.Code.map Kr)]) r r r r r r<|lS r r<|cK fun hq=>So (α:=Int) r r r hq r<|bL (cs:=[.osl 8 _ 0 ((List.replicate (f1.Code.length : Int).toNat ([] : (List Int))).length)]) (ps:=[(0,1,.osl 8 _ 0 ((List.replicate (f1.Code.length : Int).toNat ([] : (List Int))).length))]) r r r r<|nW r<|sV (z':=.agg [.osl 8 _ 0 ((List.replicate (f1.Code.length : Int).toNat ([] : (List Int))).length)]) r r r r r r r r r<|nI<|OY (E:=[(1,.optr 1 _ 0 0),(2,.optr 2 _ 0 0),(3,.optr 3 _ 0 0)]) (O:=[(1,some (_,⟨false,true,3,27,[.agg [.int .i64 f1.Params,.sl (f1.Slots.map Kv),.sl (f1.Code.map Kr)]]⟩)),(2,some (_,⟨false,true,1,30,[.agg [.nils]]⟩)),(3,some (_,⟨false,true,1,30,[.agg [.osl 8 _ 0 ((List.replicate (f1.Code.length : Int).toNat ([] : (List Int))).length)]]⟩)),(8,some (_,⟨false,false,1,36,(List.replicate (f1.Code.length : Int).toNat ([] : (List Int))).map (eL Kp)⟩))]) ((VX (g:=8) r (Xf (l:=List.replicate (f1.Code.length : Int).toNat ([] : (List Int))) Kp (fun _ h=>List.eq_of_mem_replicate h)) (hE ⟨rfl,r,r,trivial⟩ ⟨rfl,r,r,r,trivial⟩))) fun nn=>bK<|lP (E:=fun (s : (List (List Int))) (g : Nat × Nat × Nat)=>[(1,.optr 1 g.1 0 0),(2,.optr 2 g.2.1 0 0),(3,.optr 3 g.2.2 0 0)]) (O:=fun s g=>[(1,some (g.1,⟨false,true,3,27,[.agg [.int .i64 f1.Params,.sl (f1.Slots.map Kv),.sl (f1.Code.map Kr)]]⟩)),(2,some (g.2.1,⟨false,true,1,30,[.agg [.nils]]⟩)),(3,some (g.2.2,⟨false,true,1,30,[.agg [.sl (s.map (eL Kp))]]⟩))]) (body:=fun s=>Qb f1 s) (s:=List.replicate (f1.Code.length : Int).toNat ([] : (List Int))) (_,_,_) ((TI [(8,some (_,⟨true,false,1,36,(List.replicate (f1.Code.length : Int).toNat ([] : (List Int))).map (eL Kp)⟩))] ⟨⟨_,_,r,r,r⟩,trivial⟩ ⟨(La r),(La r),(La r),trivial⟩ ⟨(.inl r),(.inl r),(.inr ⟨_,_,_,_,r,r,r,r,Vm r ⟨(Su (l:=List.replicate (f1.Code.length : Int).toNat ([] : (List Int))) (en:=(eL Kp)) r r r (by simp)),trivial⟩⟩),trivial⟩))<|?_
 rintro l2 ⟨v1x1,v2x1,v3x1⟩ nn
 try dsimp only
 unfold Qb
 refine bK<|sQ<|rG<|lO (v:=.agg [.int .i64 f1.Params,.sl (f1.Slots.map Kv),.sl (f1.Code.map Kr)]) (z:=.agg [.int .i64 f1.Params,.sl (f1.Slots.map Kv),.sl (f1.Code.map Kr)]) r r r r r r<|lO (v:=.agg [.sl (l2.map (eL Kp))]) (z:=.agg [.sl (l2.map (eL Kp))]) r r r r r r<|bD fun r3 hr3=>cV (f1,(KL.mk l2)) r r r VN r r (by simp) r hr3<|nW r<|sV (z':=.agg [.sl (r3.Out.map (eL Kp))]) r r r r r r r r r<|nI<|xS<|sQ<|sQ<|rG<|lO (v:=.agg [.sl (r3.Out.map (eL Kp))]) (z:=.agg [.sl (r3.Out.map (eL Kp))]) r r r r r r<|lO (v:=.agg [.sl (l2.map (eL Kp))]) (z:=.agg [.sl (l2.map (eL Kp))]) r r r r r r<|bD fun r4 hr4=>cG (r3,(KL.mk l2)) r r r VK r r (by simp) r hr4 r<|nI<|xS<|cD (c:=r4) r ?_ ?_
 ·refine sQ<|rG<|lO (v:=.agg [.sl (l2.map (eL Kp))]) (z:=.agg [.sl (l2.map (eL Kp))]) r r r r r r<|sV (z':=.agg [.sl (l2.map (eL Kp))]) r r r r r r r r r<|nI<|xS<|rT<|xR<|bR<|lR<|bR<|LF (b:=(KL.mk l2)) r ?_ r r ?_ r
  all_goals first|(simp;done)|(simp;omega)|rfl|(simp [KB,Kx];done)
 ·exact sK<|xS<|rG<|lO (v:=.agg [.sl (r3.Out.map (eL Kp))]) (z:=.agg [.sl (r3.Out.map (eL Kp))]) r r r r r r<|sV (z':=.agg [.sl (r3.Out.map (eL Kp))]) r r r r r r r r r<|nI<|bM<|xL (s:=r3.Out) (_,_,_) ((hE ⟨rfl,r,r,trivial⟩ ⟨rfl,r,r,trivial⟩))

end Go.Proofs.YtjjmcedpoolghaaDoor
