/-
  Programs on typed data, and the proofs that the code does what they say; written by a program (dx.py).
-/
import Derived.Test.YtcelninhkmhjkaaDoorProg
import Derived.Test.YtcelninhkmhjkaaDoorDc
import Derived.KernelRfl
import Derived.Test.YtcelninhkmhjkaaDoorDxP
import Derived.Test.YtcelninhkmhjkaaDoorDxF2
namespace Go.Proofs.YtcelninhkmhjkaaDoor
open Go Go.Dw Go.Proofs
set_option maxRecDepth 100000
open Go.Dw renaming YC → mV,WI → bN,Qv → lO,Vi → bD,WL → cK,WN → nI,WR → xS,YD → rG,YF → sQ,SZ → aO,WH → aS,WO → oF,WJ → bL,Vj → bS,Qc → cV,Ps → cG,Qb → cR,WG → aP,Qw → sV,Vn → sE,Sk → iS,Ta → iO,Sl → lS,Tb → lW,Vk → fA,Aaa → eX,Ty → lF,TN → sP,OY → pT,Ov → pF,ZW → uN,WM → nW,WK → bX,SY → aN,WS → cD,Vm → bK,YE → rT,WV → sK,WT → eT,WQ → xC,Vl → xL,Te → xR,Vo → zR,RV → lR,TG → hE,OZ → lE,Qe → bH,Ow → bM,Td → bR,Qf → xE,WU → lP,Sn → sC,Sm → bC,rf → r
def Aea : Kb:=(.seq (.reg [P 2 (.box (T 0) 3 27),⟨(some 4),(.asg (.c .nils) (some ⟨1,3⟩)),none,[]⟩] false) (.seq (.seq (.reg [M 6 1,P 7 (.bin .lss (T 6) (C 0)),M 8 7,⟨(some 9),(.mv (T 1)),(some ⟨8,false⟩),[]⟩,⟨(some 10),(.fldA 2 (T 2)),(some ⟨8,false⟩),[]⟩,⟨(some 11),(.ld 1 false (T 10)),(some ⟨8,false⟩),[]⟩,⟨(some 12),(.len false (T 11)),(some ⟨8,false⟩),[]⟩,⟨(some 13),(.bin .geq (T 9) (T 12)),(some ⟨8,false⟩),[]⟩,P 14 (.pick (T 8) (.c (.bool true)) (T 13))] false) (.cond (T 14) (.seq (.reg [⟨(some 4),(.asg (.c .nils) (some ⟨1,3⟩)),none,[]⟩] false) .ret) .skip)) (.seq (.reg [P 15 (.fldA 2 (T 2)),P 16 (.ld 1 false (T 15)),M 17 1,P 18 (.ixA 5 (T 16) (T 17)),P 19 (.ld 5 true (T 18)),P 5 (.new (.agg [(.int .i64 0),(.int .i64 0),(.int .i64 0),(.int .i64 0),(.int .u64 0)]) 5 66),⟨none,(.st 5 (T 5) (T 19)),none,[]⟩] false) (.seq (.seq (.reg [P 20 (.fldA 0 (T 5)),P 21 (.ld 1 false (T 20))] false) (.block 0 (.seq (.reg [P 23 (.bin .eql (T 21) (C 20)),P 22 (.asg (T 23) none)] false) (.cond (T 22) (.seq (.reg [P 24 (.fldA 1 (T 5)),P 25 (.ld 1 false (T 24)),⟨(some 26),(.bldS 1 3 (.int .i64 0) 1 [⟨0,(T 25)⟩]),none,[]⟩,⟨(some 4),(.asg (T 26) (some ⟨1,3⟩)),none,[]⟩] false) .ret) (.seq (.seq (.reg [P 28 (.bin .eql (T 21) (C 23)),P 27 (.asg (T 28) none)] false) (.cond (T 27) .skip (.reg [P 29 (.bin .eql (T 21) (C 24)),P 27 (.asg (T 29) none)] false))) (.cond (T 27) (.seq (.reg [⟨(some 4),(.asg (.c .nils) (some ⟨1,3⟩)),none,[]⟩] false) .ret) (.seq (.reg [P 31 (.bin .eql (T 21) (C 21)),P 30 (.asg (T 31) none)] false) (.cond (T 30) (.block 1 (.seq (.reg [P 33 (.fldA 2 (T 5)),P 34 (.ld 1 false (T 33)),M 35 1,P 36 (.bin .add (T 35) (C 1)),P 37 (.bin .lss (T 34) (T 36)),P 32 (.asg (T 37) none)] false) (.cond (T 32) (.seq (.reg [P 38 (.fldA 2 (T 5)),P 39 (.ld 1 false (T 38)),M 40 1,P 41 (.bin .add (T 40) (C 1)),⟨(some 42),(.bldS 1 3 (.int .i64 0) 2 [⟨0,(T 39)⟩,⟨1,(T 41)⟩]),none,[]⟩,⟨(some 4),(.asg (T 42) (some ⟨1,3⟩)),none,[]⟩] false) .ret) (.seq (.reg [P 44 (.fldA 2 (T 5)),P 45 (.ld 1 false (T 44)),M 46 1,P 47 (.bin .add (T 46) (C 1)),P 48 (.bin .gtr (T 45) (T 47)),P 43 (.asg (T 48) none)] false) (.cond (T 43) (.seq (.reg [M 49 1,P 50 (.bin .add (T 49) (C 1)),P 51 (.fldA 2 (T 5)),P 52 (.ld 1 false (T 51)),⟨(some 53),(.bldS 1 3 (.int .i64 0) 2 [⟨0,(T 50)⟩,⟨1,(T 52)⟩]),none,[]⟩,⟨(some 4),(.asg (T 53) (some ⟨1,3⟩)),none,[]⟩] false) .ret) .skip))))) .skip)))))))) (.seq (.reg [M 54 1,P 55 (.bin .add (T 54) (C 1)),⟨(some 56),(.bldS 1 3 (.int .i64 0) 1 [⟨0,(T 55)⟩]),none,[]⟩,⟨(some 4),(.asg (T 56) (some ⟨1,3⟩)),none,[]⟩] false) .ret)))))
theorem AgW : (Tryd.f60.body.bind (Ke Tryd.prog Tryd.f60.ntmps)) = some Aea:=by kernel_rfl
theorem AgX : Tryd.f60.results.toList.mapM (Kl Tryd.prog) = some [(.t 4)]:=by kernel_rfl
def UZ (a : JN × Int) : List D:=[Ku a.1,.int .i64 a.2]
def UY (ds : List D) : JN × Int:=(Mi (ds.getD 0 .top),uI (ds.getD 1 .top))
theorem VS (a : JN × Int) : UY (UZ a) = a:=by simp [UY,UZ,uI]
def ZN (b : (List Int)) : D:=.sl (b.map Ed)
def ZM (_b : (List Int)) : List D:=[]
noncomputable def RR : Dw.Spec:=JZ [] (.row 1 3) UZ UY (fun a=>Qs a.1 a.2) ZN ZM
set_option maxHeartbeats 4000000 in
theorem Zg : JX Tryd.prog 60 RR:=by
 refine Kh (Ls) Tryd.func60 (by decide) AgW AgX (np:=2) (by decide) VS (fun _=>r) (fun _=>r) (by decide)<|?_
 rintro ⟨f1,k2⟩
 show TrE (specs []) Aea (Km [] (.row 1 3) [(.t 4)] ZN ZM) ⟨[(0,.agg [.int .i64 f1.Params,.sl (f1.Slots.map JQ),.sl (f1.Code.map JM)]),(1,.int .i64 k2)],[],262144⟩ (Qs f1 k2)
 refine Kf<|?_
 unfold Aea Qs
 refine sQ<|rG<|bX r r r r r<|aN (α:=Int) r Ed r<|nI<|xS<|sC (E:=fun (s : Unit) (g : Nat)=>[(1,.int .i64 k2),(2,.optr 2 g 0 0)]) (O:=fun s g=>[(2,some (g,⟨false,true,3,27,[.agg [.int .i64 f1.Params,.sl (f1.Slots.map JQ),.sl (f1.Code.map JM)]]⟩))]) (j:=fun s=>Tg f1 k2) ?_ ?_
 ·refine sQ<|rG<|mV r r<|bN (v:=.bool (decide (k2 < 0))) r r r r r<|mV r r<|sP 8 (b:=(decide (k2 < 0))) r ?_ ?_
  ·refine oF r<|oF r<|oF r<|oF r<|oF r<|pT r r r r<|nI<|xS<|Ly r<|sQ<|rG<|aN (α:=Int) r Ed r<|nI<|xS<|rT<|zR<|Kr (b:=([] : List Int)) r ?_ r r ?_ r ?_ (congrArg D.sl (JT _ _ r)) r
   all_goals first|(simp;done)|(simp;omega)|rfl|(simp [JR,JO];done)
  ·refine mV r r<|fA r r<|lO (v:=.sl (f1.Code.map JM)) (z:=.agg [.int .i64 f1.Params,.sl (f1.Slots.map JQ),.sl (f1.Code.map JM)]) r r r r r r<|lS r r<|bN (v:=.bool (decide (k2 ≥ (f1.Code.length : Int)))) r r r r r<|pF r r r r<|nI<|xS<|cD (c:=(decide (k2 ≥ (f1.Code.length : Int)))) r ?_ ?_
   ·refine sQ<|rG<|aN (α:=Int) r Ed r<|nI<|xS<|rT<|zR<|Kr (b:=([] : List Int)) r ?_ r r ?_ r ?_ (congrArg D.sl (JT _ _ r)) r
    all_goals first|(simp;done)|(simp;omega)|rfl|(simp [JR,JO];done)
   ·exact sK<|xC (s:=()) _ ((hE ⟨rfl,r,trivial⟩ ⟨rfl,trivial⟩))
 ·rintro ⟨⟩ v2x1 nn
  try dsimp only
  unfold Tg
  refine sQ<|rG<|fA r r<|lO (v:=.sl (f1.Code.map JM)) (z:=.agg [.int .i64 f1.Params,.sl (f1.Slots.map JQ),.sl (f1.Code.map JM)]) r r r r r r<|mV r r<|bD fun x_x3 hx_x3=>iS (en:=JM) r r r hx_x3 r<|lF (v:=.agg [.int .i64 x_x3.Op,.int .i64 x_x3.A,.int .i64 x_x3.B,.int .i64 x_x3.C,.int .u64 x_x3.Imm]) r r r r<|nW r<|sV (z':=.agg [.int .i64 x_x3.Op,.int .i64 x_x3.A,.int .i64 x_x3.B,.int .i64 x_x3.C,.int .u64 x_x3.Imm]) r r r r r r r r r<|nI<|xS<|sQ<|sQ<|rG<|fA r r<|lO (v:=.int .i64 x_x3.Op) (z:=.agg [.int .i64 x_x3.Op,.int .i64 x_x3.A,.int .i64 x_x3.B,.int .i64 x_x3.C,.int .u64 x_x3.Imm]) r r r r r r<|nI<|xS<|bK<|sQ<|rG<|bN (v:=.bool (x_x3.Op == 20)) r r r r r<|aS r r<|nI<|xS<|cD (c:=(x_x3.Op == 20)) r ?_ ?_
  ·refine sQ<|rG<|fA r r<|lO (v:=.int .i64 x_x3.A) (z:=.agg [.int .i64 x_x3.Op,.int .i64 x_x3.A,.int .i64 x_x3.B,.int .i64 x_x3.C,.int .u64 x_x3.Imm]) r r r r r r<|bS ([x_x3.A] : List Int) Ed r r r (by simp) r r r<|aO (l:=([x_x3.A] : List Int)) (en:=Ed) r r r r<|nI<|xS<|rT<|bR<|xR<|Kr (b:=([x_x3.A] : List Int)) r ?_ r r ?_ r ?_ (congrArg D.sl (JT _ _ r)) r
   all_goals first|(simp;done)|(simp;omega)|rfl|(simp [JR,JO];done)
  ·refine sC (E:=fun (s : Bool) (g : Nat)=>[(1,.int .i64 k2),(5,.optr 5 g 0 0),(21,.int .i64 x_x3.Op),(27,.bool s)]) (O:=fun s g=>[(5,some (g,⟨false,true,5,66,[.agg [.int .i64 x_x3.Op,.int .i64 x_x3.A,.int .i64 x_x3.B,.int .i64 x_x3.C,.int .u64 x_x3.Imm]]⟩))]) (j:=fun s=>LZ x_x3 k2 s) ?_ ?_
   ·refine sQ<|rG<|bN (v:=.bool (x_x3.Op == 23)) r r r r r<|aS r r<|nI<|xS<|cD (c:=(x_x3.Op == 23)) r ?_ ?_
    ·exact sK<|xC (s:=(x_x3.Op == 23)) _ ((hE ⟨rfl,r,r,r,trivial⟩ ⟨rfl,trivial⟩))
    ·exact rG<|bN (v:=.bool (x_x3.Op == 24)) r r r r r<|aS r r<|nI<|xC (s:=(x_x3.Op == 24)) _ ((hE ⟨rfl,r,r,r,trivial⟩ ⟨rfl,trivial⟩))
   ·rintro x4 v5x2 nn
    try dsimp only
    unfold LZ
    refine cD (c:=x4) r ?_ ?_
    ·refine sQ<|rG<|aN (α:=Int) r Ed r<|nI<|xS<|rT<|bR<|xR<|Kr (b:=([] : List Int)) r ?_ r r ?_ r ?_ (congrArg D.sl (JT _ _ r)) r
     all_goals first|(simp;done)|(simp;omega)|rfl|(simp [JR,JO];done)
    ·refine sQ<|rG<|bN (v:=.bool (x_x3.Op == 21)) r r r r r<|aS r r<|nI<|xS<|cD (c:=(x_x3.Op == 21)) r ?_ ?_
     ·refine bK<|sQ<|rG<|fA r r<|lO (v:=.int .i64 x_x3.B) (z:=.agg [.int .i64 x_x3.Op,.int .i64 x_x3.A,.int .i64 x_x3.B,.int .i64 x_x3.C,.int .u64 x_x3.Imm]) r r r r r r<|mV r r<|bN (v:=.int .i64 (IntKind.i64.wrap (k2 + 1))) r r r r r<|bN (v:=.bool (decide (x_x3.B < (IntKind.i64.wrap (k2 + 1))))) r r r r r<|aS r r<|nI<|xS<|cD (c:=(decide (x_x3.B < (IntKind.i64.wrap (k2 + 1))))) r ?_ ?_
      ·refine sQ<|rG<|fA r r<|lO (v:=.int .i64 x_x3.B) (z:=.agg [.int .i64 x_x3.Op,.int .i64 x_x3.A,.int .i64 x_x3.B,.int .i64 x_x3.C,.int .u64 x_x3.Imm]) r r r r r r<|mV r r<|bN (v:=.int .i64 (IntKind.i64.wrap (k2 + 1))) r r r r r<|bS ([x_x3.B,IntKind.i64.wrap (k2 + 1)] : List Int) Ed r r r (by simp) r r r<|aO (l:=([x_x3.B,IntKind.i64.wrap (k2 + 1)] : List Int)) (en:=Ed) r r r r<|nI<|xS<|rT<|bR<|bR<|xR<|Kr (b:=([x_x3.B,IntKind.i64.wrap (k2 + 1)] : List Int)) r ?_ r r ?_ r ?_ (congrArg D.sl (JT _ _ r)) r
       all_goals first|(simp;done)|(simp;omega)|rfl|(simp [JR,JO];done)
      ·refine sQ<|rG<|fA r r<|lO (v:=.int .i64 x_x3.B) (z:=.agg [.int .i64 x_x3.Op,.int .i64 x_x3.A,.int .i64 x_x3.B,.int .i64 x_x3.C,.int .u64 x_x3.Imm]) r r r r r r<|mV r r<|bN (v:=.int .i64 (IntKind.i64.wrap (k2 + 1))) r r r r r<|bN (v:=.bool (decide (x_x3.B > (IntKind.i64.wrap (k2 + 1))))) r r r r r<|aS r r<|nI<|xS<|cD (c:=(decide (x_x3.B > (IntKind.i64.wrap (k2 + 1))))) r ?_ ?_
       ·refine sQ<|rG<|mV r r<|bN (v:=.int .i64 (IntKind.i64.wrap (k2 + 1))) r r r r r<|fA r r<|lO (v:=.int .i64 x_x3.B) (z:=.agg [.int .i64 x_x3.Op,.int .i64 x_x3.A,.int .i64 x_x3.B,.int .i64 x_x3.C,.int .u64 x_x3.Imm]) r r r r r r<|bS ([IntKind.i64.wrap (k2 + 1),x_x3.B] : List Int) Ed r r r (by simp) r r r<|aO (l:=([IntKind.i64.wrap (k2 + 1),x_x3.B] : List Int)) (en:=Ed) r r r r<|nI<|xS<|rT<|bR<|bR<|xR<|Kr (b:=([IntKind.i64.wrap (k2 + 1),x_x3.B] : List Int)) r ?_ r r ?_ r ?_ (congrArg D.sl (JT _ _ r)) r
        all_goals first|(simp;done)|(simp;omega)|rfl|(simp [JR,JO];done)
       ·refine sK<|bM<|bM<|xS<|sQ<|rG<|mV r r<|bN (v:=.int .i64 (IntKind.i64.wrap (k2 + 1))) r r r r r<|bS ([IntKind.i64.wrap (k2 + 1)] : List Int) Ed r r r (by simp) r r r<|aO (l:=([IntKind.i64.wrap (k2 + 1)] : List Int)) (en:=Ed) r r r r<|nI<|xS<|rT<|Kr (b:=([IntKind.i64.wrap (k2 + 1)] : List Int)) r ?_ r r ?_ r ?_ (congrArg D.sl (JT _ _ r)) r
        all_goals first|(simp;done)|(simp;omega)|rfl|(simp [JR,JO];done)
     ·refine sK<|bM<|xS<|sQ<|rG<|mV r r<|bN (v:=.int .i64 (IntKind.i64.wrap (k2 + 1))) r r r r r<|bS ([IntKind.i64.wrap (k2 + 1)] : List Int) Ed r r r (by simp) r r r<|aO (l:=([IntKind.i64.wrap (k2 + 1)] : List Int)) (en:=Ed) r r r r<|nI<|xS<|rT<|Kr (b:=([IntKind.i64.wrap (k2 + 1)] : List Int)) r ?_ r r ?_ r ?_ (congrArg D.sl (JT _ _ r)) r
      all_goals first|(simp;done)|(simp;omega)|rfl|(simp [JR,JO];done)

def Aew : Kb:=(.seq (.reg [P 1 (.box (T 0) 5 66),P 2 (.asg (.c (.bool false)) none)] false) (.seq (.reg [P 3 (.fldA 0 (T 1)),P 4 (.ld 1 false (T 3)),P 5 (.bin .eql (T 4) (C 16)),M 6 5,⟨(some 7),(.fldA 0 (T 1)),(some ⟨6,false⟩),[]⟩,⟨(some 8),(.ld 1 false (T 7)),(some ⟨6,false⟩),[]⟩,⟨(some 9),(.bin .eql (T 8) (C 17)),(some ⟨6,false⟩),[]⟩,P 10 (.pick (T 6) (.c (.bool true)) (T 9)),P 2 (.asg (T 10) none)] false) .ret))
theorem AhO : (Tryd.f89.body.bind (Ke Tryd.prog Tryd.f89.ntmps)) = some Aew:=by kernel_rfl
theorem AhP : Tryd.f89.results.toList.mapM (Kl Tryd.prog) = some [(.t 2)]:=by kernel_rfl
def Rk (a : JK) : List D:=[JM a]
def Rj (ds : List D) : JK:=RW (ds.getD 0 .top)
theorem VC (a : JK) : Rj (Rk a) = a:=by simp [Rj,Rk]
def Wx (b : Bool) : D:=.bool b
def Ww (_b : Bool) : List D:=[]
noncomputable def SM : Dw.Spec:=JZ [] .ground Rk Rj (fun a=>Pr a) Wx Ww
set_option maxHeartbeats 4000000 in
theorem ZO : JX Tryd.prog 89 SM:=by
 refine Kh (Ls) Tryd.func89 (by decide) AhO AhP (np:=1) (by decide) VC (fun _=>r) (fun _=>r) (by decide)<|?_
 intro x1
 show TrE (specs []) Aew (Km [] .ground [(.t 2)] Wx Ww) ⟨[(0,.agg [.int .i64 x1.Op,.int .i64 x1.A,.int .i64 x1.B,.int .i64 x1.C,.int .u64 x1.Imm])],[],262144⟩ (Pr x1)
 refine Kf<|?_
 unfold Aew Pr
 refine sQ<|rG<|bX r r r r r<|aS r r<|nI<|xS<|sQ<|rG<|fA r r<|lO (v:=.int .i64 x1.Op) (z:=.agg [.int .i64 x1.Op,.int .i64 x1.A,.int .i64 x1.B,.int .i64 x1.C,.int .u64 x1.Imm]) r r r r r r<|bN (v:=.bool (x1.Op == 16)) r r r r r<|mV r r<|sP 6 (b:=(x1.Op == 16)) r ?_ ?_
 ·refine oF r<|oF r<|oF r<|pT r r r r<|aS r r<|nI<|xS<|rT<|JV (b:=true) r ?_ r r ?_ r
  all_goals first|(simp;done)|(simp;omega)|rfl|(simp [JR,JO];done)
 ·refine fA r r<|lO (v:=.int .i64 x1.Op) (z:=.agg [.int .i64 x1.Op,.int .i64 x1.A,.int .i64 x1.B,.int .i64 x1.C,.int .u64 x1.Imm]) r r r r r r<|bN (v:=.bool (x1.Op == 17)) r r r r r<|pF r r r r<|aS r r<|nI<|xS<|rT<|JV (b:=(x1.Op == 17)) r ?_ r r ?_ r
  all_goals first|(simp;done)|(simp;omega)|rfl|(simp [JR,JO];done)

def Aec : Kb:=(.seq (.reg [P 1 (.box (T 0) 5 66),P 2 (.asg (C 0) none),P 3 (.asg (.c (.bool false)) none)] false) (.seq (.seq (.reg [P 4 (.ld 5 true (T 1)),P 5 (.call (.c (.clo 89 [])) [(T 4)])] false) (.cond (T 5) (.seq (.reg [P 6 (.fldA 1 (T 1)),P 7 (.ld 1 false (T 6)),P 2 (.asg (T 7) none),P 3 (.asg (.c (.bool true)) none)] false) .ret) .skip)) (.seq (.reg [P 2 (.asg (C 0) none),P 3 (.asg (.c (.bool false)) none)] false) .ret)))
theorem Aha : (Tryd.f62.body.bind (Ke Tryd.prog Tryd.f62.ntmps)) = some Aec:=by kernel_rfl
theorem Ahb : Tryd.f62.results.toList.mapM (Kl Tryd.prog) = some [(.t 2),(.t 3)]:=by kernel_rfl
def SL (a : JK) : List D:=[JM a]
def SK (ds : List D) : JK:=RW (ds.getD 0 .top)
theorem Xt (a : JK) : SK (SL a) = a:=by simp [SK,SL]
def XT (b : Int × Bool) : D:=.tup [.int .i64 b.1,.bool b.2]
def XS (_b : Int × Bool) : List D:=[]
noncomputable def Ur : Dw.Spec:=JZ [] .ground SL SK (fun a=>QA a) XT XS
set_option maxHeartbeats 4000000 in
theorem AaD : JX Tryd.prog 62 Ur:=by
 refine Kh (Kd (l:=[(89,SM)]) (by simp [ZO])) Tryd.func62 (by decide) Aha Ahb (np:=1) (by decide) Xt (fun _=>r) (fun _=>r) (by decide)<|?_
 intro x1
 show TrE (specs [(89,SM)]) Aec (Km [] .ground [(.t 2),(.t 3)] XT XS) ⟨[(0,.agg [.int .i64 x1.Op,.int .i64 x1.A,.int .i64 x1.B,.int .i64 x1.C,.int .u64 x1.Imm])],[],262144⟩ (QA x1)
 refine Kf<|?_
 unfold Aec QA
 refine sQ<|rG<|bX r r r r r<|aS r r<|aS r r<|nI<|xS<|sQ<|sQ<|rG<|lO (v:=.agg [.int .i64 x1.Op,.int .i64 x1.A,.int .i64 x1.B,.int .i64 x1.C,.int .u64 x1.Imm]) (z:=.agg [.int .i64 x1.Op,.int .i64 x1.A,.int .i64 x1.B,.int .i64 x1.C,.int .u64 x1.Imm]) r r r r r r<|bD fun r2 hr2=>cG x1 r r r VC r r (by simp) r hr2 r<|nI<|xS<|cD (c:=r2) r ?_ ?_
 ·refine sQ<|rG<|fA r r<|lO (v:=.int .i64 x1.A) (z:=.agg [.int .i64 x1.Op,.int .i64 x1.A,.int .i64 x1.B,.int .i64 x1.C,.int .u64 x1.Imm]) r r r r r r<|aS r r<|aS r r<|nI<|xS<|rT<|xR<|Lh (b:=(x1.A,true)) r ?_ r r ?_ r (by decide)
  all_goals first|(simp;done)|(simp;omega)|rfl|(simp [JR,JO];done)
 ·refine sK<|xS<|sQ<|rG<|aS r r<|aS r r<|nI<|xS<|rT<|Lh (b:=(0,false)) r ?_ r r ?_ r (by decide)
  all_goals first|(simp;done)|(simp;omega)|rfl|(simp [JR,JO];done)

def AdN : Kb:=(.seq (.reg [⟨(some 4),(.asg (.c .nils) (some ⟨1,3⟩)),none,[]⟩] false) (.seq (.reg [⟨(some 5),(.asg (.c .nils) (some ⟨1,3⟩)),none,[]⟩] false) (.seq (.seq (.reg [P 6 (.asg (C 0) none)] false) (.block 0 (.loop (.seq (.seq (.reg [M 7 6,M 8 0,P 9 (.len false (T 8)),P 10 (.bin .lss (T 7) (T 9))] false) (.cond (T 10) .skip (.exit 0))) (.seq (.block 1 (.seq (.reg [M 13 0,M 14 6,P 15 (.ixA 1 (T 13) (T 14)),P 16 (.ld 1 false (T 15)),M 17 1,P 18 (.bin .neq (T 16) (T 17))] false) (.cond (T 18) (.reg [M 19 5,M 20 0,M 21 6,P 22 (.ixA 1 (T 20) (T 21)),P 23 (.ld 1 false (T 22)),⟨(some 24),(.bldS 1 3 (.int .i64 0) 1 [⟨0,(T 23)⟩]),none,[]⟩,P 25 (.app 1 3 8 (T 19) (T 24)),⟨(some 5),(.asg (T 25) (some ⟨1,3⟩)),none,[]⟩] false) .skip))) (.reg [M 11 6,P 12 (.bin .add (T 11) (C 1)),P 6 (.asg (T 12) none)] false)))))) (.seq (.reg [M 26 5,⟨(some 4),(.asg (T 26) (some ⟨1,3⟩)),none,[]⟩] false) .ret))))
theorem Agw : (Tryd.f29.body.bind (Ke Tryd.prog Tryd.f29.ntmps)) = some AdN:=by kernel_rfl
theorem Agx : Tryd.f29.results.toList.mapM (Kl Tryd.prog) = some [(.t 4)]:=by kernel_rfl
def Tv (a : (List Int) × Int) : List D:=[.sl (a.1.map Ed),.int .i64 a.2]
def Tu (ds : List D) : (List Int) × Int:=((uL uI) (ds.getD 0 .top),uI (ds.getD 1 .top))
theorem Rq (a : (List Int) × Int) : Tu (Tv a) = a:=by simp [Tu,Tv,uI,Lr (u:=uI) (en:=Ed) (fun _=>rfl)]
def Yw (b : (List Int)) : D:=.sl (b.map Ed)
def Yv (_b : (List Int)) : List D:=[]
noncomputable def Nt : Dw.Spec:=JZ [] (.row 1 3) Tv Tu (fun a=>NM a.1 a.2) Yw Yv
set_option maxHeartbeats 4000000 in
theorem Uo : JX Tryd.prog 29 Nt:=by
 refine Kh (Ls) Tryd.func29 (by decide) Agw Agx (np:=2) (by decide) Rq (fun _=>r) (fun _=>r) (by decide)<|?_
 rintro ⟨s1,n2⟩
 show TrE (specs []) AdN (Km [] (.row 1 3) [(.t 4)] Yw Yv) ⟨[(0,.sl (s1.map Ed)),(1,.int .i64 n2)],[],262144⟩ (NM s1 n2)
 refine Kf<|?_
 unfold AdN NM
 refine sQ<|rG<|aN (α:=Int) r Ed r<|nI<|xS<|sQ<|rG<|aN (α:=Int) r Ed r<|nI<|xS<|sQ<|sQ<|rG<|aS r r<|nI<|xS<|bK<|lP (E:=fun (s : (List Int) × Int) (g : Nat)=>[(0,.sl (s1.map Ed)),(1,.int .i64 n2),(5,.osl 5 g 0 s.1.length),(6,.int .i64 s.2)]) (O:=fun s g=>[(5,some (g,⟨false,false,1,3,s.1.map Ed⟩))]) (body:=fun s=>MW s1 n2 s.1 s.2) (s:=(([] : List Int),0)) _ ((hE ⟨rfl,r,r,r,trivial⟩ ⟨rfl,trivial⟩))<|?_
 rintro ⟨out3,i4⟩ v5x1 nn
 try dsimp only
 unfold MW
 refine sQ<|sQ<|rG<|mV r r<|mV r r<|lS r r<|bN (v:=.bool (decide (i4 < (s1.length : Int)))) r r r r r<|nI<|xS<|cD (c:=(decide (i4 < (s1.length : Int)))) r ?_ ?_
 ·refine sK<|xS<|sQ<|bK<|sQ<|rG<|mV r r<|mV r r<|bD fun x_x5 hx_x5=>iS (en:=Ed) r r r hx_x5 r<|lF (v:=.int .i64 x_x5) r r r r<|mV r r<|bN (v:=.bool (x_x5 != n2)) r r r r r<|nI<|xS<|cD (c:=(x_x5 != n2)) r ?_ ?_
  ·exact rG<|mV r r<|mV r r<|mV r r<|bD fun x_x6 hx_x6=>iS (en:=Ed) r r r hx_x6 r<|lF (v:=.int .i64 x_x6) r r r r<|bS ([x_x6] : List Int) Ed r r r (by simp) r r r<|cK fun hq=>aP (out3) (([x_x6] : List Int)) Ed r r r r r r r (by simp) (Kq _ _ r) r r (by simp) (JT _ _ r) (fun _=>r) r hq<|aO (l:=out3 ++ ([x_x6] : List Int)) (en:=Ed) r r r r<|nI<|bM<|xS<|rG<|mV r r<|bN (v:=.int .i64 (IntKind.i64.wrap (i4 + 1))) r r r r r<|aS r r<|nI<|xL (s:=(out3 ++ ([x_x6] : List Int),IntKind.i64.wrap (i4 + 1))) _ ((hE ⟨rfl,r,r,r,trivial⟩ ⟨rfl,trivial⟩))
  ·exact sK<|bM<|xS<|rG<|mV r r<|bN (v:=.int .i64 (IntKind.i64.wrap (i4 + 1))) r r r r r<|aS r r<|nI<|xL (s:=(out3,IntKind.i64.wrap (i4 + 1))) _ ((hE ⟨rfl,r,r,r,trivial⟩ ⟨rfl,trivial⟩))
 ·refine eT<|xE<|lE<|bH<|xS<|sQ<|rG<|mV r r<|aO (l:=out3) (en:=Ed) r r r r<|nI<|xS<|rT<|Kr (b:=out3) r ?_ r r ?_ r ?_ (congrArg D.sl (JT _ _ r)) r
  all_goals first|(simp;done)|(simp;omega)|rfl|(simp [JR,JO];done)

def Aeb : Kb:=(.seq (.reg [P 1 (.box (T 0) 5 66),⟨(some 2),(.asg (.c .nils) (some ⟨1,3⟩)),none,[]⟩] false) (.seq (.seq (.reg [P 3 (.fldA 0 (T 1)),P 4 (.ld 1 false (T 3)),P 5 (.bin .eql (T 4) (C 15)),M 6 5,⟨(some 7),(.fldA 0 (T 1)),(some ⟨6,false⟩),[]⟩,⟨(some 8),(.ld 1 false (T 7)),(some ⟨6,false⟩),[]⟩,⟨(some 9),(.bin .eql (T 8) (C 17)),(some ⟨6,false⟩),[]⟩,P 10 (.pick (T 6) (.c (.bool true)) (T 9))] false) (.cond (T 10) (.seq (.reg [P 11 (.fldA 2 (T 1)),P 12 (.ld 1 false (T 11)),⟨(some 13),(.bldS 1 3 (.int .i64 0) 1 [⟨0,(T 12)⟩]),none,[]⟩,⟨(some 2),(.asg (T 13) (some ⟨1,3⟩)),none,[]⟩] false) .ret) .skip)) (.seq (.reg [⟨(some 2),(.asg (.c .nils) (some ⟨1,3⟩)),none,[]⟩] false) .ret)))
theorem AgY : (Tryd.f61.body.bind (Ke Tryd.prog Tryd.f61.ntmps)) = some Aeb:=by kernel_rfl
theorem AgZ : Tryd.f61.results.toList.mapM (Kl Tryd.prog) = some [(.t 2)]:=by kernel_rfl
def Vb (a : JK) : List D:=[JM a]
def Va (ds : List D) : JK:=RW (ds.getD 0 .top)
theorem VT (a : JK) : Va (Vb a) = a:=by simp [Va,Vb]
def ZQ (b : (List Int)) : D:=.sl (b.map Ed)
def ZP (_b : (List Int)) : List D:=[]
noncomputable def Xw : Dw.Spec:=JZ [] (.row 1 3) Vb Va (fun a=>Qt a) ZQ ZP
set_option maxHeartbeats 4000000 in
theorem Abs : JX Tryd.prog 61 Xw:=by
 refine Kh (Ls) Tryd.func61 (by decide) AgY AgZ (np:=1) (by decide) VT (fun _=>r) (fun _=>r) (by decide)<|?_
 intro x1
 show TrE (specs []) Aeb (Km [] (.row 1 3) [(.t 2)] ZQ ZP) ⟨[(0,.agg [.int .i64 x1.Op,.int .i64 x1.A,.int .i64 x1.B,.int .i64 x1.C,.int .u64 x1.Imm])],[],262144⟩ (Qt x1)
 refine Kf<|?_
 unfold Aeb Qt
 refine sQ<|rG<|bX r r r r r<|aN (α:=Int) r Ed r<|nI<|xS<|sQ<|sQ<|rG<|fA r r<|lO (v:=.int .i64 x1.Op) (z:=.agg [.int .i64 x1.Op,.int .i64 x1.A,.int .i64 x1.B,.int .i64 x1.C,.int .u64 x1.Imm]) r r r r r r<|bN (v:=.bool (x1.Op == 15)) r r r r r<|mV r r<|sP 6 (b:=(x1.Op == 15)) r ?_ ?_
 ·refine oF r<|oF r<|oF r<|pT r r r r<|nI<|xS<|Ly r<|sQ<|rG<|fA r r<|lO (v:=.int .i64 x1.B) (z:=.agg [.int .i64 x1.Op,.int .i64 x1.A,.int .i64 x1.B,.int .i64 x1.C,.int .u64 x1.Imm]) r r r r r r<|bS ([x1.B] : List Int) Ed r r r (by simp) r r r<|aO (l:=([x1.B] : List Int)) (en:=Ed) r r r r<|nI<|xS<|rT<|xR<|Kr (b:=([x1.B] : List Int)) r ?_ r r ?_ r ?_ (congrArg D.sl (JT _ _ r)) r
  all_goals first|(simp;done)|(simp;omega)|rfl|(simp [JR,JO];done)
 ·refine fA r r<|lO (v:=.int .i64 x1.Op) (z:=.agg [.int .i64 x1.Op,.int .i64 x1.A,.int .i64 x1.B,.int .i64 x1.C,.int .u64 x1.Imm]) r r r r r r<|bN (v:=.bool (x1.Op == 17)) r r r r r<|pF r r r r<|nI<|xS<|cD (c:=(x1.Op == 17)) r ?_ ?_
  ·refine sQ<|rG<|fA r r<|lO (v:=.int .i64 x1.B) (z:=.agg [.int .i64 x1.Op,.int .i64 x1.A,.int .i64 x1.B,.int .i64 x1.C,.int .u64 x1.Imm]) r r r r r r<|bS ([x1.B] : List Int) Ed r r r (by simp) r r r<|aO (l:=([x1.B] : List Int)) (en:=Ed) r r r r<|nI<|xS<|rT<|xR<|Kr (b:=([x1.B] : List Int)) r ?_ r r ?_ r ?_ (congrArg D.sl (JT _ _ r)) r
   all_goals first|(simp;done)|(simp;omega)|rfl|(simp [JR,JO];done)
  ·refine sK<|xS<|sQ<|rG<|aN (α:=Int) r Ed r<|nI<|xS<|rT<|Kr (b:=([] : List Int)) r ?_ r r ?_ r ?_ (congrArg D.sl (JT _ _ r)) r
   all_goals first|(simp;done)|(simp;omega)|rfl|(simp [JR,JO];done)

def Aes : Kb:=(.seq (.reg [P 2 (.asg (.c (.bool false)) none)] false) (.seq (.reg [M 3 0,P 4 (.bin .geq (T 3) (C 0)),M 5 4,⟨(some 6),(.mv (T 0)),(some ⟨5,true⟩),[]⟩,⟨(some 7),(.bin .lss (T 6) (C 512)),(some ⟨5,true⟩),[]⟩,P 8 (.pick (T 5) (T 7) (.c (.bool false))),P 2 (.asg (T 8) none)] false) .ret))
theorem AhG : (Tryd.f80.body.bind (Ke Tryd.prog Tryd.f80.ntmps)) = some Aes:=by kernel_rfl
theorem AhH : Tryd.f80.results.toList.mapM (Kl Tryd.prog) = some [(.t 2)]:=by kernel_rfl
def UX (a : Int) : List D:=[.int .i64 a]
def UW (ds : List D) : Int:=uI (ds.getD 0 .top)
theorem VR (a : Int) : UW (UX a) = a:=by simp [UW,UX,uI]
def ZL (b : Bool) : D:=.bool b
def ZK (_b : Bool) : List D:=[]
noncomputable def RQ : Dw.Spec:=JZ [] .ground UX UW (fun a=>Om a) ZL ZK
set_option maxHeartbeats 4000000 in
theorem Zf : JX Tryd.prog 80 RQ:=by
 refine Kh (Ls) Tryd.func80 (by decide) AhG AhH (np:=1) (by decide) VR (fun _=>r) (fun _=>r) (by decide)<|?_
 intro n1
 show TrE (specs []) Aes (Km [] .ground [(.t 2)] ZL ZK) ⟨[(0,.int .i64 n1)],[],262144⟩ (Om n1)
 refine Kf<|?_
 unfold Aes Om
 refine sQ<|rG<|aS r r<|nI<|xS<|sQ<|rG<|mV r r<|bN (v:=.bool (decide (n1 ≥ 0))) r r r r r<|mV r r<|sP 5 (b:=(decide (n1 ≥ 0))) r ?_ ?_
 ·refine mV r r<|bN (v:=.bool (decide (n1 < 512))) r r r r r<|pT r r r r<|aS r r<|nI<|xS<|rT<|JV (b:=(decide (n1 < 512))) r ?_ r r ?_ r
  all_goals first|(simp;done)|(simp;omega)|rfl|(simp [JR,JO];done)
 ·refine oF r<|oF r<|pF r r r r<|aS r r<|nI<|xS<|rT<|JV (b:=false) r ?_ r r ?_ r
  all_goals first|(simp;done)|(simp;omega)|rfl|(simp [JR,JO];done)

def AdW : Kb:=(.seq (.reg [⟨(some 4),(.asg (.c .nils) (some ⟨1,3⟩)),none,[]⟩] false) (.seq (.reg [⟨(some 5),(.asg (.c .nils) (some ⟨1,3⟩)),none,[]⟩] false) (.seq (.reg [M 8 1,P 9 (.call (.c (.clo 80 [])) [(T 8)]),P 10 (.un .not (T 9)),P 6 (.asg (T 10) none)] false) (.seq (.seq (.reg [P 7 (.asg (C 0) none)] false) (.block 0 (.loop (.seq (.seq (.reg [M 11 7,M 12 0,P 13 (.len false (T 12)),P 14 (.bin .lss (T 11) (T 13))] false) (.cond (T 14) .skip (.exit 0))) (.seq (.block 1 (.seq (.seq (.reg [M 17 6,P 18 (.un .not (T 17)),M 19 18,⟨(some 20),(.mv (T 0)),(some ⟨19,true⟩),[]⟩,⟨(some 21),(.mv (T 7)),(some ⟨19,true⟩),[]⟩,⟨(some 22),(.ixA 1 (T 20) (T 21)),(some ⟨19,true⟩),[]⟩,⟨(some 23),(.ld 1 false (T 22)),(some ⟨19,true⟩),[]⟩,⟨(some 24),(.mv (T 1)),(some ⟨19,true⟩),[]⟩,⟨(some 25),(.bin .geq (T 23) (T 24)),(some ⟨19,true⟩),[]⟩,P 26 (.pick (T 19) (T 25) (.c (.bool false)))] false) (.cond (T 26) (.seq (.seq (.reg [M 27 0,M 28 7,P 29 (.ixA 1 (T 27) (T 28)),P 30 (.ld 1 false (T 29)),M 31 1,P 32 (.bin .gtr (T 30) (T 31))] false) (.cond (T 32) (.reg [M 33 5,M 34 1,⟨(some 35),(.bldS 1 3 (.int .i64 0) 1 [⟨0,(T 34)⟩]),none,[]⟩,P 36 (.app 1 3 8 (T 33) (T 35)),⟨(some 5),(.asg (T 36) (some ⟨1,3⟩)),none,[]⟩] false) .skip)) (.reg [P 6 (.asg (.c (.bool true)) none)] false)) .skip)) (.reg [M 37 5,M 38 0,M 39 7,P 40 (.ixA 1 (T 38) (T 39)),P 41 (.ld 1 false (T 40)),⟨(some 42),(.bldS 1 3 (.int .i64 0) 1 [⟨0,(T 41)⟩]),none,[]⟩,P 43 (.app 1 3 8 (T 37) (T 42)),⟨(some 5),(.asg (T 43) (some ⟨1,3⟩)),none,[]⟩] false))) (.reg [M 15 7,P 16 (.bin .add (T 15) (C 1)),P 7 (.asg (T 16) none)] false)))))) (.seq (.seq (.reg [M 44 6,P 45 (.un .not (T 44))] false) (.cond (T 45) (.reg [M 46 5,M 47 1,⟨(some 48),(.bldS 1 3 (.int .i64 0) 1 [⟨0,(T 47)⟩]),none,[]⟩,P 49 (.app 1 3 8 (T 46) (T 48)),⟨(some 5),(.asg (T 49) (some ⟨1,3⟩)),none,[]⟩] false) .skip)) (.seq (.reg [M 50 5,⟨(some 4),(.asg (T 50) (some ⟨1,3⟩)),none,[]⟩] false) .ret))))))
theorem AgO : (Tryd.f44.body.bind (Ke Tryd.prog Tryd.f44.ntmps)) = some AdW:=by kernel_rfl
theorem AgP : Tryd.f44.results.toList.mapM (Kl Tryd.prog) = some [(.t 4)]:=by kernel_rfl
def Tf (a : (List Int) × Int) : List D:=[.sl (a.1.map Ed),.int .i64 a.2]
def VM (ds : List D) : (List Int) × Int:=((uL uI) (ds.getD 0 .top),uI (ds.getD 1 .top))
theorem Uk (a : (List Int) × Int) : VM (Tf a) = a:=by simp [VM,Tf,uI,Lr (u:=uI) (en:=Ed) (fun _=>rfl)]
def Aau (b : (List Int)) : D:=.sl (b.map Ed)
def Aat (_b : (List Int)) : List D:=[]
noncomputable def SW : Dw.Spec:=JZ [] (.row 1 3) Tf VM (fun a=>Pq a.1 a.2) Aau Aat
set_option maxHeartbeats 4000000 in
theorem ZG : JX Tryd.prog 44 SW:=by
 refine Kh (Kd (l:=[(80,RQ)]) (by simp [Zf])) Tryd.func44 (by decide) AgO AgP (np:=2) (by decide) Uk (fun _=>r) (fun _=>r) (by decide)<|?_
 rintro ⟨s1,n2⟩
 show TrE (specs [(80,RQ)]) AdW (Km [] (.row 1 3) [(.t 4)] Aau Aat) ⟨[(0,.sl (s1.map Ed)),(1,.int .i64 n2)],[],262144⟩ (Pq s1 n2)
 refine Kf<|?_
 unfold AdW Pq
 refine sQ<|rG<|aN (α:=Int) r Ed r<|nI<|xS<|sQ<|rG<|aN (α:=Int) r Ed r<|nI<|xS<|sQ<|rG<|mV r r<|bD fun r3 hr3=>cG n2 r r r VR r r (by simp) r hr3 r<|uN (w:=.bool (!r3)) r r r r trivial<|aS r r<|nI<|xS<|sQ<|sQ<|rG<|aS r r<|nI<|xS<|bK<|lP (E:=fun (s : (List Int) × Bool × Int) (g : Nat)=>[(0,.sl (s1.map Ed)),(1,.int .i64 n2),(5,.osl 5 g 0 s.1.length),(6,.bool s.2.1),(7,.int .i64 s.2.2)]) (O:=fun s g=>[(5,some (g,⟨false,false,1,3,s.1.map Ed⟩))]) (body:=fun s=>LY s1 n2 s.1 s.2.1 s.2.2) (s:=(([] : List Int),(!r3),0)) _ ((hE ⟨rfl,r,r,r,r,trivial⟩ ⟨rfl,trivial⟩))<|?_
 rintro ⟨out4,done5,i6⟩ v5x1 nn
 try dsimp only
 unfold LY
 refine sQ<|sQ<|rG<|mV r r<|mV r r<|lS r r<|bN (v:=.bool (decide (i6 < (s1.length : Int)))) r r r r r<|nI<|xS<|cD (c:=(decide (i6 < (s1.length : Int)))) r ?_ ?_
 ·refine sK<|xS<|sQ<|bK<|sC (E:=fun (s : (List Int) × Bool) (g : Nat)=>[(0,.sl (s1.map Ed)),(1,.int .i64 n2),(5,.osl 5 g 0 s.1.length),(6,.bool s.2),(7,.int .i64 i6)]) (O:=fun s g=>[(5,some (g,⟨false,false,1,3,s.1.map Ed⟩))]) (j:=fun s=>MV s1 i6 s.1 s.2) ?_ ?_
  ·refine sC (E:=fun (s : Bool) (g : Nat)=>[(0,.sl (s1.map Ed)),(1,.int .i64 n2),(5,.osl 5 g 0 out4.length),(6,.bool done5),(7,.int .i64 i6),(26,.bool s)]) (O:=fun s g=>[(5,some (g,⟨false,false,1,3,out4.map Ed⟩))]) (j:=fun s=>NL s1 i6 n2 out4 done5 s) ?_ ?_
   ·refine rG<|mV r r<|uN (w:=.bool (!done5)) r r r r trivial<|mV r r<|sP 19 (b:=(!done5)) r ?_ ?_
    ·exact mV r r<|mV r r<|bD fun x_x10 hx_x10=>iS (en:=Ed) r r r hx_x10 r<|lF (v:=.int .i64 x_x10) r r r r<|mV r r<|bN (v:=.bool (decide (x_x10 ≥ n2))) r r r r r<|pT r r r r<|nI<|xC (s:=(decide (x_x10 ≥ n2))) _ ((hE ⟨rfl,r,r,r,r,r,trivial⟩ ⟨rfl,trivial⟩))
    ·exact oF r<|oF r<|oF r<|oF r<|oF r<|oF r<|pF r r r r<|nI<|xC (s:=false) _ ((hE ⟨rfl,r,r,r,r,r,trivial⟩ ⟨rfl,trivial⟩))
   ·rintro x9 v5x2 nn
    try dsimp only
    unfold NL
    refine cD (c:=x9) r ?_ ?_
    ·refine sQ<|sQ<|rG<|mV r r<|mV r r<|bD fun x_x11 hx_x11=>iS (en:=Ed) r r r hx_x11 r<|lF (v:=.int .i64 x_x11) r r r r<|mV r r<|bN (v:=.bool (decide (x_x11 > n2))) r r r r r<|nI<|xS<|cD (c:=(decide (x_x11 > n2))) r ?_ ?_
     ·exact rG<|mV r r<|mV r r<|bS ([n2] : List Int) Ed r r r (by simp) r r r<|cK fun hq=>aP (out4) (([n2] : List Int)) Ed r r r r r r r (by simp) (Kq _ _ r) r r (by simp) (JT _ _ r) (fun _=>r) r hq<|aO (l:=out4 ++ ([n2] : List Int)) (en:=Ed) r r r r<|nI<|xS<|rG<|aS r r<|nI<|xC (s:=(out4 ++ ([n2] : List Int),true)) _ ((hE ⟨rfl,r,r,r,r,trivial⟩ ⟨rfl,trivial⟩))
     ·exact sK<|xS<|rG<|aS r r<|nI<|xC (s:=(out4,true)) _ ((hE ⟨rfl,r,r,r,r,trivial⟩ ⟨rfl,trivial⟩))
    ·exact sK<|xC (s:=(out4,done5)) _ ((hE ⟨rfl,r,r,r,r,trivial⟩ ⟨rfl,trivial⟩))
  ·rintro ⟨out7,done8⟩ v5x3 nn
   try dsimp only
   unfold MV
   exact rG<|mV r r<|mV r r<|mV r r<|bD fun x_x12 hx_x12=>iS (en:=Ed) r r r hx_x12 r<|lF (v:=.int .i64 x_x12) r r r r<|bS ([x_x12] : List Int) Ed r r r (by simp) r r r<|cK fun hq=>aP (out7) (([x_x12] : List Int)) Ed r r r r r r r (by simp) (Kq _ _ r) r r (by simp) (JT _ _ r) (fun _=>r) r hq<|aO (l:=out7 ++ ([x_x12] : List Int)) (en:=Ed) r r r r<|nI<|bM<|xS<|rG<|mV r r<|bN (v:=.int .i64 (IntKind.i64.wrap (i6 + 1))) r r r r r<|aS r r<|nI<|xL (s:=(out7 ++ ([x_x12] : List Int),done8,IntKind.i64.wrap (i6 + 1))) _ ((hE ⟨rfl,r,r,r,r,trivial⟩ ⟨rfl,trivial⟩))
 ·refine eT<|xE<|lE<|bH<|xS<|sQ<|sQ<|rG<|mV r r<|uN (w:=.bool (!done5)) r r r r trivial<|nI<|xS<|cD (c:=(!done5)) r ?_ ?_
  ·refine rG<|mV r r<|mV r r<|bS ([n2] : List Int) Ed r r r (by simp) r r r<|cK fun hq=>aP (out4) (([n2] : List Int)) Ed r r r r r r r (by simp) (Kq _ _ r) r r (by simp) (JT _ _ r) (fun _=>r) r hq<|aO (l:=out4 ++ ([n2] : List Int)) (en:=Ed) r r r r<|nI<|xS<|sQ<|rG<|mV r r<|aO (l:=out4 ++ ([n2] : List Int)) (en:=Ed) r r r r<|nI<|xS<|rT<|Kr (b:=out4 ++ ([n2] : List Int)) r ?_ r r ?_ r ?_ (congrArg D.sl (JT _ _ r)) r
   all_goals first|(simp;done)|(simp;omega)|rfl|(simp [JR,JO];done)
  ·refine sK<|xS<|sQ<|rG<|mV r r<|aO (l:=out4) (en:=Ed) r r r r<|nI<|xS<|rT<|Kr (b:=out4) r ?_ r r ?_ r ?_ (congrArg D.sl (JT _ _ r)) r
   all_goals first|(simp;done)|(simp;omega)|rfl|(simp [JR,JO];done)

def AdM : Kb:=(.seq (.reg [⟨(some 4),(.asg (.c .nils) (some ⟨1,3⟩)),none,[]⟩] false) (.seq (.reg [M 7 0,P 8 (.app 1 3 8 (.c .nils) (T 7)),⟨(some 5),(.asg (T 8) (some ⟨1,3⟩)),none,[]⟩] false) (.seq (.seq (.reg [P 6 (.asg (C 0) none)] false) (.block 0 (.loop (.seq (.seq (.reg [M 9 6,M 10 1,P 11 (.len false (T 10)),P 12 (.bin .lss (T 9) (T 11))] false) (.cond (T 12) .skip (.exit 0))) (.seq (.block 1 (.reg [M 15 5,M 16 1,M 17 6,P 18 (.ixA 1 (T 16) (T 17)),P 19 (.ld 1 false (T 18)),P 20 (.call (.c (.clo 44 [])) [(T 15),(T 19)]),⟨(some 5),(.asg (T 20) (some ⟨1,3⟩)),none,[]⟩] false)) (.reg [M 13 6,P 14 (.bin .add (T 13) (C 1)),P 6 (.asg (T 14) none)] false)))))) (.seq (.reg [M 21 5,⟨(some 4),(.asg (T 21) (some ⟨1,3⟩)),none,[]⟩] false) .ret))))
theorem Agu : (Tryd.f27.body.bind (Ke Tryd.prog Tryd.f27.ntmps)) = some AdM:=by kernel_rfl
theorem Agv : Tryd.f27.results.toList.mapM (Kl Tryd.prog) = some [(.t 4)]:=by kernel_rfl
def MX (a : (List Int) × (List Int)) : List D:=[.sl (a.1.map Ed),.sl (a.2.map Ed)]
def Uq (ds : List D) : (List Int) × (List Int):=((uL uI) (ds.getD 0 .top),(uL uI) (ds.getD 1 .top))
theorem PY (a : (List Int) × (List Int)) : Uq (MX a) = a:=by simp [Uq,MX,Lr (u:=uI) (en:=Ed) (fun _=>rfl)]
def Ze (b : (List Int)) : D:=.sl (b.map Ed)
def Zd (_b : (List Int)) : List D:=[]
noncomputable def Ob : Dw.Spec:=JZ [] (.row 1 3) MX Uq (fun a=>NC a.1 a.2) Ze Zd
set_option maxHeartbeats 4000000 in
theorem UU : JX Tryd.prog 27 Ob:=by
 refine Kh (Kd (l:=[(44,SW)]) (by simp [ZG])) Tryd.func27 (by decide) Agu Agv (np:=2) (by decide) PY (fun _=>r) (fun _=>r) (by decide)<|?_
 rintro ⟨a1,b2⟩
 show TrE (specs [(44,SW)]) AdM (Km [] (.row 1 3) [(.t 4)] Ze Zd) ⟨[(0,.sl (a1.map Ed)),(1,.sl (b2.map Ed))],[],262144⟩ (NC a1 b2)
 refine Kf<|?_
 unfold AdM NC
 refine sQ<|rG<|aN (α:=Int) r Ed r<|nI<|xS<|sQ<|rG<|mV r r<|cK fun hq=>aP (([] : List Int)) (a1) Ed r r r r r r r (by simp) r r r (by simp) r (fun _=>r) r hq<|aO (l:=([] : List Int) ++ a1) (en:=Ed) r r r r<|nI<|xS<|sQ<|sQ<|rG<|aS r r<|nI<|xS<|bK<|lP (E:=fun (s : (List Int) × Int) (g : Nat)=>[(1,.sl (b2.map Ed)),(5,.osl 5 g 0 s.1.length),(6,.int .i64 s.2)]) (O:=fun s g=>[(5,some (g,⟨false,false,1,3,s.1.map Ed⟩))]) (body:=fun s=>Ou b2 s.1 s.2) (s:=(([] : List Int) ++ a1,0)) _ ((hE ⟨rfl,r,r,trivial⟩ ⟨rfl,trivial⟩))<|?_
 rintro ⟨out3,i4⟩ v5x1 nn
 try dsimp only
 unfold Ou
 refine sQ<|sQ<|rG<|mV r r<|mV r r<|lS r r<|bN (v:=.bool (decide (i4 < (b2.length : Int)))) r r r r r<|nI<|xS<|cD (c:=(decide (i4 < (b2.length : Int)))) r ?_ ?_
 ·exact sK<|xS<|sQ<|bK<|rG<|mV r r<|mV r r<|mV r r<|bD fun x_x5 hx_x5=>iS (en:=Ed) r r r hx_x5 r<|lF (v:=.int .i64 x_x5) r r r r<|bD fun r6 hr6=>cR (l:=r6) (en:=Ed) (out3,x_x5) r r r Uk r r (by simp) (by first | rfl | (simp only [Kn,Ks]; rfl) | simp [Tf]) hr6 r<|aO (l:=r6) (en:=Ed) r r r r<|nI<|bM<|xS<|rG<|mV r r<|bN (v:=.int .i64 (IntKind.i64.wrap (i4 + 1))) r r r r r<|aS r r<|nI<|xL (s:=(r6,IntKind.i64.wrap (i4 + 1))) _ ((hE ⟨rfl,r,r,trivial⟩ ⟨rfl,trivial⟩))
 ·refine eT<|xE<|lE<|bH<|xS<|sQ<|rG<|mV r r<|aO (l:=out3) (en:=Ed) r r r r<|nI<|xS<|rT<|Kr (b:=out3) r ?_ r r ?_ r ?_ (congrArg D.sl (JT _ _ r)) r
  all_goals first|(simp;done)|(simp;omega)|rfl|(simp [JR,JO];done)

def Aen : Kb:=(.seq (.reg [P 2 (.box (T 0) 5 66),⟨(some 4),(.asg (.c .nils) (some ⟨1,3⟩)),none,[]⟩] false) (.seq (.seq (.reg [P 8 (.ld 5 true (T 2)),P 9 (.call (.c (.clo 62 [])) [(T 8)]),M 7 9,P 10 (.ext (T 7) 0),P 11 (.ext (T 7) 1),P 5 (.asg (T 10) none),P 6 (.asg (T 11) none)] false) (.seq (.reg [M 12 6] false) (.cond (T 12) (.reg [M 13 1,M 14 5,P 15 (.call (.c (.clo 29 [])) [(T 13),(T 14)]),⟨(some 1),(.asg (T 15) (some ⟨1,3⟩)),none,[]⟩] false) .skip))) (.seq (.reg [M 16 1,P 17 (.ld 5 true (T 2)),P 18 (.call (.c (.clo 61 [])) [(T 17)]),P 19 (.call (.c (.clo 27 [])) [(T 16),(T 18)]),⟨(some 4),(.asg (T 19) (some ⟨1,3⟩)),none,[]⟩] false) .ret)))
theorem Ahw : (Tryd.f75.body.bind (Ke Tryd.prog Tryd.f75.ntmps)) = some Aen:=by kernel_rfl
theorem Ahx : Tryd.f75.results.toList.mapM (Kl Tryd.prog) = some [(.t 4)]:=by kernel_rfl
def Xv (a : JK × (List Int)) : List D:=[JM a.1,.sl (a.2.map Ed)]
def Xu (ds : List D) : JK × (List Int):=(RW (ds.getD 0 .top),(uL uI) (ds.getD 1 .top))
theorem Yf (a : JK × (List Int)) : Xu (Xv a) = a:=by simp [Xu,Xv,Lr (u:=uI) (en:=Ed) (fun _=>rfl)]
def AaN (b : (List Int)) : D:=.sl (b.map Ed)
def AaM (_b : (List Int)) : List D:=[]
noncomputable def Us : Dw.Spec:=JZ [] (.row 1 3) Xv Xu (fun a=>Tw a.1 a.2) AaN AaM
set_option maxHeartbeats 4000000 in
theorem Aax : JX Tryd.prog 75 Us:=by
 refine Kh (Kd (l:=[(62,Ur),(29,Nt),(61,Xw),(27,Ob)]) (by simp [AaD,Uo,Abs,UU])) Tryd.func75 (by decide) Ahw Ahx (np:=2) (by decide) Yf (fun _=>r) (fun _=>r) (by decide)<|?_
 rintro ⟨x1,out2⟩
 show TrE (specs [(62,Ur),(29,Nt),(61,Xw),(27,Ob)]) Aen (Km [] (.row 1 3) [(.t 4)] AaN AaM) ⟨[(0,.agg [.int .i64 x1.Op,.int .i64 x1.A,.int .i64 x1.B,.int .i64 x1.C,.int .u64 x1.Imm]),(1,.sl (out2.map Ed))],[],262144⟩ (Tw x1 out2)
 refine Kf<|?_
 unfold Aen Tw
 refine sQ<|rG<|bX r r r r r<|aN (α:=Int) r Ed r<|nI<|xS<|sQ<|sQ<|rG<|lO (v:=.agg [.int .i64 x1.Op,.int .i64 x1.A,.int .i64 x1.B,.int .i64 x1.C,.int .u64 x1.Imm]) (z:=.agg [.int .i64 x1.Op,.int .i64 x1.A,.int .i64 x1.B,.int .i64 x1.C,.int .u64 x1.Imm]) r r r r r r<|bD fun r3 hr3=>cG x1 r r r Xt r r (by simp) r hr3 r<|mV r r<|eX (v:=.int .i64 r3.1) r r r<|eX (v:=.bool r3.2) r r r<|aS r r<|aS r r<|nI<|xS<|sQ<|rG<|mV r r<|nI<|xS<|cD (c:=r3.2) r ?_ ?_
 ·refine rG<|mV r r<|mV r r<|bD fun r4 hr4=>cR (l:=r4) (en:=Ed) (out2,r3.1) r r r Rq r r (by simp) r hr4 r<|aO (l:=r4) (en:=Ed) r r r r<|nI<|xS<|sQ<|rG<|mV r r<|lO (v:=.agg [.int .i64 x1.Op,.int .i64 x1.A,.int .i64 x1.B,.int .i64 x1.C,.int .u64 x1.Imm]) (z:=.agg [.int .i64 x1.Op,.int .i64 x1.A,.int .i64 x1.B,.int .i64 x1.C,.int .u64 x1.Imm]) r r r r r r<|bD fun r5 hr5=>cR (l:=r5) (en:=Ed) x1 r r r VT r r (by simp) r hr5 r<|bD fun r6 hr6=>cR (l:=r6) (en:=Ed) (r4,r5) r r r PY r r (by simp) (by first | rfl | (simp only [Kn,Ks]; rfl) | simp [MX]) hr6 r<|aO (l:=r6) (en:=Ed) r r r r<|nI<|xS<|rT<|Kr (b:=r6) r ?_ r r ?_ r ?_ (congrArg D.sl (JT _ _ r)) r
  all_goals first|(simp;done)|(simp;omega)|rfl|(simp [JR,JO];done)
 ·refine sK<|xS<|sQ<|rG<|mV r r<|lO (v:=.agg [.int .i64 x1.Op,.int .i64 x1.A,.int .i64 x1.B,.int .i64 x1.C,.int .u64 x1.Imm]) (z:=.agg [.int .i64 x1.Op,.int .i64 x1.A,.int .i64 x1.B,.int .i64 x1.C,.int .u64 x1.Imm]) r r r r r r<|bD fun r7 hr7=>cR (l:=r7) (en:=Ed) x1 r r r VT r r (by simp) r hr7 r<|bD fun r8 hr8=>cR (l:=r8) (en:=Ed) (out2,r7) r r r PY r r (by simp) (by first | rfl | (simp only [Kn,Ks]; rfl) | simp [MX]) hr8 r<|aO (l:=r8) (en:=Ed) r r r r<|nI<|xS<|rT<|Kr (b:=r8) r ?_ r r ?_ r ?_ (congrArg D.sl (JT _ _ r)) r
  all_goals first|(simp;done)|(simp;omega)|rfl|(simp [JR,JO];done)

def AdS : Kb:=(.seq (.reg [P 2 (.box (T 0) 3 27),P 3 (.box (T 1) 1 30),P 4 (.new (.agg [.nils]) 1 30)] false) (.seq (.reg [P 10 (.fldA 2 (T 2)),P 11 (.ld 1 false (T 10)),P 12 (.len false (T 11)),P 13 (.mkS 1 36 24 .nils (T 12) (T 12)),⟨(some 14),(.bld [.nils] [⟨0,⟨1,(T 13)⟩⟩]),none,[]⟩,P 5 (.new (.agg [.nils]) 1 30),⟨none,(.st 1 (T 5) (T 14)),none,[]⟩] false) (.seq (.seq (.reg [P 6 (.asg (C 0) none)] false) (.block 0 (.loop (.seq (.seq (.reg [M 15 6,P 16 (.fldA 2 (T 2)),P 17 (.ld 1 false (T 16)),P 18 (.len false (T 17)),P 19 (.bin .lss (T 15) (T 18))] false) (.cond (T 19) .skip (.exit 0))) (.seq (.block 1 (.seq (.reg [P 22 (.ld 3 true (T 2)),M 23 6,P 24 (.call (.c (.clo 60 [])) [(T 22),(T 23)]),⟨(some 7),(.asg (T 24) (some ⟨1,3⟩)),none,[]⟩] false) (.seq (.reg [P 8 (.asg (C 0) none)] false) (.block 2 (.loop (.seq (.seq (.reg [M 25 8,M 26 7,P 27 (.len false (T 26)),P 28 (.bin .lss (T 25) (T 27))] false) (.cond (T 28) .skip (.exit 2))) (.seq (.block 3 (.seq (.reg [M 31 7,M 32 8,P 33 (.ixA 1 (T 31) (T 32)),P 34 (.ld 1 false (T 33)),P 9 (.asg (T 34) none)] false) (.reg [P 35 (.fldA 0 (T 5)),⟨(some 36),(.ld 1 false (T 35)),none,[0]⟩,M 37 6,P 38 (.fldA 0 (T 5)),⟨(some 39),(.ld 1 false (T 38)),none,[3]⟩,M 40 6,⟨(some 41),(.ixA 1 (T 39) (T 40)),none,[4,5]⟩,⟨(some 42),(.ld 1 false (T 41)),none,[6]⟩,P 43 (.fldA 2 (T 2)),⟨(some 44),(.ld 1 false (T 43)),none,[8]⟩,M 45 9,⟨(some 46),(.ixA 5 (T 44) (T 45)),none,[9,10]⟩,⟨(some 47),(.ld 5 true (T 46)),none,[11]⟩,P 48 (.fldA 0 (T 3)),⟨(some 49),(.ld 1 false (T 48)),none,[13]⟩,M 50 9,⟨(some 51),(.ixA 1 (T 49) (T 50)),none,[14,15]⟩,⟨(some 52),(.ld 1 false (T 51)),none,[16]⟩,⟨(some 53),(.call (.c (.clo 75 [])) [(T 47),(T 52)]),none,[12,17]⟩,⟨(some 54),(.call (.c (.clo 27 [])) [(T 42),(T 53)]),none,[7,18,18]⟩,⟨(some 55),(.ixA 1 (T 36) (T 37)),none,[1,2,0,1,2,3,4,5,6,7,8,9,10,11,12,13,14,15,16,17,18,19]⟩,⟨none,(.st 1 (T 55) (T 54)),none,[20,19,19,0,1,2,3,4,5,6,7,8,9,10,11,12,13,14,15,16,17,18,19]⟩] true))) (.reg [M 29 8,P 30 (.bin .add (T 29) (C 1)),P 8 (.asg (T 30) none)] false)))))))) (.reg [M 20 6,P 21 (.bin .add (T 20) (C 1)),P 6 (.asg (T 21) none)] false)))))) (.seq (.reg [P 56 (.ld 1 true (T 5)),⟨none,(.st 1 (T 4) (T 56)),none,[]⟩] false) .ret))))
theorem AgG : (Tryd.f38.body.bind (Ke Tryd.prog Tryd.f38.ntmps)) = some AdS:=by kernel_rfl
theorem AgH : Tryd.f38.results.toList.mapM (Kl Tryd.prog) = some [(.c 4 1 true)]:=by kernel_rfl
def Vf (a : JN × JP) : List D:=[Ku a.1,KF a.2]
def Ve (ds : List D) : JN × JP:=(Mi (ds.getD 0 .top),Mp (ds.getD 1 .top))
theorem Zk (a : JN × JP) : Ve (Vf a) = a:=by simp [Ve,Vf]
def Xy (b : JP) : D:=KF b
def ZT (_b : JP) : List D:=[]
noncomputable def Xz : Dw.Spec:=JZ [] .val Vf Ve (fun a=>Sc a.1 a.2) Xy ZT
set_option maxHeartbeats 4000000 in
theorem Abu : JX Tryd.prog 38 Xz:=by
 refine Kh (Kd (l:=[(60,RR),(75,Us),(27,Ob)]) (by simp [Zg,Aax,UU])) Tryd.func38 (by decide) AgG AgH (np:=2) (by decide) Zk (fun _=>r) (fun _=>r) (by decide)<|?_
 rintro ⟨f1,l2⟩
 show TrE (specs [(60,RR),(75,Us),(27,Ob)]) AdS (Km [] .val [(.c 4 1 true)] Xy ZT) ⟨[(0,.agg [.int .i64 f1.Params,.sl (f1.Slots.map JQ),.sl (f1.Code.map JM)]),(1,.agg [.sl (l2.Out.map (eL Ed))])],[],262144⟩ (Sc f1 l2)
 refine Kf<|?_
 unfold AdS Sc
 refine sQ<|rG<|bX r r r r r<|bX r r r r r<|nW r<|nI<|xS<|sQ<|rG<|fA r r<|lO (v:=.sl (f1.Code.map JM)) (z:=.agg [.int .i64 f1.Params,.sl (f1.Slots.map JQ),.sl (f1.Code.map JM)]) r r r r r r<|lS r r<|cK fun hq=>Aay (α:=Int) r r r hq r<|bL (cs:=[.osl 13 _ 0 ((List.replicate (f1.Code.length : Int).toNat ([] : (List Int))).length)]) (ps:=[(0,1,.osl 13 _ 0 ((List.replicate (f1.Code.length : Int).toNat ([] : (List Int))).length))]) r r r r<|nW r<|sV (z':=.agg [.osl 13 _ 0 ((List.replicate (f1.Code.length : Int).toNat ([] : (List Int))).length)]) r r r r r r r r r<|nI<|Mo (E:=[(2,.optr 2 _ 0 0),(3,.optr 3 _ 0 0),(4,.optr 4 _ 0 0),(5,.optr 5 _ 0 0)]) (O:=[(2,some (_,⟨false,true,3,27,[.agg [.int .i64 f1.Params,.sl (f1.Slots.map JQ),.sl (f1.Code.map JM)]]⟩)),(3,some (_,⟨false,true,1,30,[.agg [.sl (l2.Out.map (eL Ed))]]⟩)),(4,some (_,⟨false,true,1,30,[.agg [.nils]]⟩)),(5,some (_,⟨false,true,1,30,[.agg [.osl 13 _ 0 ((List.replicate (f1.Code.length : Int).toNat ([] : (List Int))).length)]]⟩)),(13,some (_,⟨false,false,1,36,(List.replicate (f1.Code.length : Int).toNat ([] : (List Int))).map (eL Ed)⟩))]) ((Abj (g:=13) r (AbU (l:=List.replicate (f1.Code.length : Int).toNat ([] : (List Int))) Ed (fun _ h=>List.eq_of_mem_replicate h)) (hE ⟨rfl,r,r,r,trivial⟩ ⟨rfl,r,r,r,r,trivial⟩))) fun nn=>sQ<|sQ<|rG<|aS r r<|nI<|xS<|bK<|lP (E:=fun (s : (List (List Int)) × Int) (g : Nat × Nat × Nat × Nat × Nat)=>[(2,.optr 2 g.1 0 0),(3,.optr 3 g.2.1 0 0),(4,.optr 4 g.2.2.1 0 0),(5,.optr 5 g.2.2.2.1 0 0),(6,.int .i64 s.2)]) (O:=fun s g=>[(2,some (g.1,⟨false,true,3,27,[.agg [.int .i64 f1.Params,.sl (f1.Slots.map JQ),.sl (f1.Code.map JM)]]⟩)),(3,some (g.2.1,⟨false,true,1,30,[.agg [.sl (l2.Out.map (eL Ed))]]⟩)),(4,some (g.2.2.1,⟨false,true,1,30,[.agg [.nils]]⟩)),(5,some (g.2.2.2.1,⟨false,true,1,30,[.agg [.osl 13 g.2.2.2.2 0 s.1.length]]⟩)),(13,some (g.2.2.2.2,⟨false,false,1,36,s.1.map (eL Ed)⟩))]) (body:=fun s=>OV f1 l2 s.1 s.2) (s:=(List.replicate (f1.Code.length : Int).toNat ([] : (List Int)),0)) (_,_,_,_,_) ((hE ⟨rfl,r,r,r,r,trivial⟩ ⟨rfl,r,r,r,r,trivial⟩))<|?_
 rintro ⟨x3,k4⟩ ⟨v2x1,v3x1,v4x1,v5x1,v13x1⟩ nn
 try dsimp only
 unfold OV
 refine sQ<|sQ<|rG<|mV r r<|fA r r<|lO (v:=.sl (f1.Code.map JM)) (z:=.agg [.int .i64 f1.Params,.sl (f1.Slots.map JQ),.sl (f1.Code.map JM)]) r r r r r r<|lS r r<|bN (v:=.bool (decide (k4 < (f1.Code.length : Int)))) r r r r r<|nI<|xS<|cD (c:=(decide (k4 < (f1.Code.length : Int)))) r ?_ ?_
 ·refine sK<|xS<|bC (E:=fun (s : (List (List Int))) (g : Nat × Nat × Nat × Nat × Nat)=>[(2,.optr 2 g.1 0 0),(3,.optr 3 g.2.1 0 0),(4,.optr 4 g.2.2.1 0 0),(5,.optr 5 g.2.2.2.1 0 0),(6,.int .i64 k4)]) (O:=fun s g=>[(2,some (g.1,⟨false,true,3,27,[.agg [.int .i64 f1.Params,.sl (f1.Slots.map JQ),.sl (f1.Code.map JM)]]⟩)),(3,some (g.2.1,⟨false,true,1,30,[.agg [.sl (l2.Out.map (eL Ed))]]⟩)),(4,some (g.2.2.1,⟨false,true,1,30,[.agg [.nils]]⟩)),(5,some (g.2.2.2.1,⟨false,true,1,30,[.agg [.osl 13 g.2.2.2.2 0 s.length]]⟩)),(13,some (g.2.2.2.2,⟨false,false,1,36,s.map (eL Ed)⟩))]) (j:=fun s=>Th k4 s) ?_ ?_
  ·refine sQ<|rG<|lO (v:=.agg [.int .i64 f1.Params,.sl (f1.Slots.map JQ),.sl (f1.Code.map JM)]) (z:=.agg [.int .i64 f1.Params,.sl (f1.Slots.map JQ),.sl (f1.Code.map JM)]) r r r r r r<|mV r r<|bD fun r6 hr6=>cR (l:=r6) (en:=Ed) (f1,k4) r r r VS r r (by simp) r hr6 r<|aO (l:=r6) (en:=Ed) r r r r<|nI<|xS<|sQ<|rG<|aS r r<|nI<|xS<|bK<|lP (E:=fun (s : (List (List Int)) × Int) (g : Nat × Nat × Nat × Nat × Nat × Nat)=>[(2,.optr 2 g.1 0 0),(3,.optr 3 g.2.1 0 0),(4,.optr 4 g.2.2.1 0 0),(5,.optr 5 g.2.2.2.1 0 0),(6,.int .i64 k4),(7,.osl 7 g.2.2.2.2.1 0 r6.length),(8,.int .i64 s.2)]) (O:=fun s g=>[(2,some (g.1,⟨false,true,3,27,[.agg [.int .i64 f1.Params,.sl (f1.Slots.map JQ),.sl (f1.Code.map JM)]]⟩)),(3,some (g.2.1,⟨false,true,1,30,[.agg [.sl (l2.Out.map (eL Ed))]]⟩)),(4,some (g.2.2.1,⟨false,true,1,30,[.agg [.nils]]⟩)),(5,some (g.2.2.2.1,⟨false,true,1,30,[.agg [.osl 13 g.2.2.2.2.2 0 s.1.length]]⟩)),(7,some (g.2.2.2.2.1,⟨false,false,1,3,r6.map Ed⟩)),(13,some (g.2.2.2.2.2,⟨false,false,1,36,s.1.map (eL Ed)⟩))]) (body:=fun s=>OW r6 k4 f1 l2 s.1 s.2) (s:=(x3,0)) (_,_,_,_,_,_) ((hE ⟨rfl,r,r,r,r,r,r,trivial⟩ ⟨rfl,r,r,r,r,r,trivial⟩))<|?_
   rintro ⟨x7,i8⟩ ⟨v2x2,v3x2,v4x2,v5x2,v7x2,v13x2⟩ nn
   try dsimp only
   unfold OW
   refine sQ<|sQ<|rG<|mV r r<|mV r r<|lW r r<|bN (v:=.bool (decide (i8 < (r6.length : Int)))) r r r r r<|nI<|xS<|cD (c:=(decide (i8 < (r6.length : Int)))) r ?_ ?_
   ·exact sK<|xS<|sQ<|bK<|sQ<|rG<|mV r r<|mV r r<|cK fun hq=>iO (l:=r6) (en:=Ed) r r r r r hq<|bD fun next_e9 hnext_e9=>lO (v:=.int .i64 next_e9) (z:=Ed next_e9) r r r (Md hnext_e9) r r<|aS r r<|nI<|xS<|rG<|fA r r<|lO (v:=.osl 13 _ 0 x7.length) (z:=.agg [.osl 13 _ 0 x7.length]) r r r r r r<|mV r r<|fA r r<|lO (v:=.osl 13 _ 0 x7.length) (z:=.agg [.osl 13 _ 0 x7.length]) r r r r r r<|mV r r<|cK fun hq=>iO (l:=x7) (en:=(eL Ed)) r r r r r hq<|bD fun x_e10 hx_e10=>lO (v:=.sl (x_e10.map Ed)) (z:=(eL Ed) x_e10) r r r (Md hx_e10) r r<|fA r r<|lO (v:=.sl (f1.Code.map JM)) (z:=.agg [.int .i64 f1.Params,.sl (f1.Slots.map JQ),.sl (f1.Code.map JM)]) r r r r r r<|mV r r<|bD fun x_x11 hx_x11=>iS (en:=JM) r r r hx_x11 r<|lF (v:=.agg [.int .i64 x_x11.Op,.int .i64 x_x11.A,.int .i64 x_x11.B,.int .i64 x_x11.C,.int .u64 x_x11.Imm]) r r r r<|fA r r<|lO (v:=.sl (l2.Out.map (eL Ed))) (z:=.agg [.sl (l2.Out.map (eL Ed))]) r r r r r r<|mV r r<|bD fun x_x12 hx_x12=>iS (en:=(eL Ed)) r r r hx_x12 r<|lF (v:=.sl (x_x12.map Ed)) r r r r<|bD fun r13 hr13=>cR (l:=r13) (en:=Ed) (x_x11,x_x12) r r r Yf r r (by simp) r hr13 r<|bD fun r14 hr14=>cR (l:=r14) (en:=Ed) (x_e10,r13) r r r PY r r (by simp) (by first | rfl | (simp only [Kn,Ks]; rfl) | simp [MX]) hr14 r<|cK fun hq=>iO (l:=x7) (en:=(eL Ed)) r r r r r hq<|bD fun x_o15 hx_o15=>sE (l:=x7) (en:=(eL Ed)) (q':=r14) r r r r r r r (by simp) hx_o15 r r r (by simp [Lf,cells,setAt,eL]) r<|Ka (by kernel_rfl)<|bM<|xS<|rG<|mV r r<|bN (v:=.int .i64 (IntKind.i64.wrap (i8 + 1))) r r r r r<|aS r r<|nI<|xL (s:=(x7.set k4.toNat r14,IntKind.i64.wrap (i8 + 1))) (_,_,_,_,_,_) ((hE ⟨rfl,r,r,r,r,r,r,trivial⟩ ⟨rfl,r,r,(Eq.trans (b:=some (_,⟨false,true,1,30,[.agg [.osl 13 _ 0 x7.length]]⟩)) r (by simp)),r,r,trivial⟩))
   ·exact eT<|xE<|lE<|bH<|Pt (s:=x7) (_,_,_,_,_) ((hE ⟨rfl,r,r,r,r,trivial⟩ ⟨rfl,r,r,r,r,trivial⟩))
  ·rintro x5 ⟨v2x3,v3x3,v4x3,v5x3,v13x3⟩ nn
   try dsimp only
   unfold Th
   exact rG<|mV r r<|bN (v:=.int .i64 (IntKind.i64.wrap (k4 + 1))) r r r r r<|aS r r<|nI<|xL (s:=(x5,IntKind.i64.wrap (k4 + 1))) (_,_,_,_,_) ((hE ⟨rfl,r,r,r,r,trivial⟩ ⟨rfl,r,r,r,r,trivial⟩))
 ·refine eT<|xE<|lE<|bH<|xS<|sQ<|rG<|lO (v:=.agg [.osl 13 _ 0 x3.length]) (z:=.agg [.osl 13 _ 0 x3.length]) r r r r r r<|sV (z':=.agg [.osl 13 _ 0 x3.length]) r r r r r r r r r<|nI<|xS<|rT<|KC (b:=(JP.mk x3)) r ?_ r r ?_ (by first | rfl | (simp only [Kn,Ks]; rfl) | simp [Xy,KF])
  all_goals first|(simp;done)|(simp;omega)|rfl|(simp [JR,JO];done)

def Ael : Kb:=(.seq (.reg [P 4 (.asg (.c (.bool false)) none)] false) (.seq (.seq (.reg [M 6 0,P 7 (.len false (T 6)),M 8 1,P 9 (.len false (T 8)),P 10 (.bin .neq (T 7) (T 9))] false) (.cond (T 10) (.seq (.reg [P 4 (.asg (.c (.bool false)) none)] false) .ret) .skip)) (.seq (.seq (.reg [P 5 (.asg (C 0) none)] false) (.block 0 (.loop (.seq (.seq (.reg [M 11 5,M 12 0,P 13 (.len false (T 12)),P 14 (.bin .lss (T 11) (T 13))] false) (.cond (T 14) .skip (.exit 0))) (.seq (.block 1 (.seq (.reg [M 17 0,M 18 5,⟨(some 19),(.ixA 1 (T 17) (T 18)),none,[0,1]⟩,⟨(some 20),(.ld 1 false (T 19)),none,[2]⟩,M 21 1,M 22 5,⟨(some 23),(.ixA 1 (T 21) (T 22)),none,[4,5]⟩,⟨(some 24),(.ld 1 false (T 23)),none,[6]⟩,⟨(some 25),(.bin .neq (T 20) (T 24)),none,[3,7]⟩] true) (.cond (T 25) (.seq (.reg [P 4 (.asg (.c (.bool false)) none)] false) .ret) .skip))) (.reg [M 15 5,P 16 (.bin .add (T 15) (C 1)),P 5 (.asg (T 16) none)] false)))))) (.seq (.reg [P 4 (.asg (.c (.bool true)) none)] false) .ret))))
theorem Ahs : (Tryd.f73.body.bind (Ke Tryd.prog Tryd.f73.ntmps)) = some Ael:=by kernel_rfl
theorem Aht : Tryd.f73.results.toList.mapM (Kl Tryd.prog) = some [(.t 4)]:=by kernel_rfl
def UT (a : (List Int) × (List Int)) : List D:=[.sl (a.1.map Ed),.sl (a.2.map Ed)]
def US (ds : List D) : (List Int) × (List Int):=((uL uI) (ds.getD 0 .top),(uL uI) (ds.getD 1 .top))
theorem Zc (a : (List Int) × (List Int)) : US (UT a) = a:=by simp [US,UT,Lr (u:=uI) (en:=Ed) (fun _=>rfl)]
def ZJ (b : Bool) : D:=.bool b
def ZI (_b : Bool) : List D:=[]
noncomputable def Xs : Dw.Spec:=JZ [] .ground UT US (fun a=>RZ a.1 a.2) ZJ ZI
set_option maxHeartbeats 4000000 in
theorem Abr : JX Tryd.prog 73 Xs:=by
 refine Kh (Ls) Tryd.func73 (by decide) Ahs Aht (np:=2) (by decide) Zc (fun _=>r) (fun _=>r) (by decide)<|?_
 rintro ⟨a1,b2⟩
 show TrE (specs []) Ael (Km [] .ground [(.t 4)] ZJ ZI) ⟨[(0,.sl (a1.map Ed)),(1,.sl (b2.map Ed))],[],262144⟩ (RZ a1 b2)
 refine Kf<|?_
 unfold Ael RZ
 refine sQ<|rG<|aS r r<|nI<|xS<|sQ<|sQ<|rG<|mV r r<|lS r r<|mV r r<|lS r r<|bN (v:=.bool ((a1.length : Int) != (b2.length : Int))) r r r r r<|nI<|xS<|cD (c:=((a1.length : Int) != (b2.length : Int))) r ?_ ?_
 ·refine sQ<|rG<|aS r r<|nI<|xS<|rT<|xR<|JV (b:=false) r ?_ r r ?_ r
  all_goals first|(simp;done)|(simp;omega)|rfl|(simp [JR,JO];done)
 ·refine sK<|xS<|sQ<|sQ<|rG<|aS r r<|nI<|xS<|bK<|lP (E:=fun (s : Int) (g : Unit)=>[(0,.sl (a1.map Ed)),(1,.sl (b2.map Ed)),(5,.int .i64 s)]) (O:=fun s g=>[]) (body:=fun s=>Oa a1 b2 s) (s:=0) () ((hE ⟨rfl,r,r,trivial⟩ trivial))<|?_
  rintro i3 ⟨⟩ nn
  try dsimp only
  unfold Oa
  refine sQ<|sQ<|rG<|mV r r<|mV r r<|lS r r<|bN (v:=.bool (decide (i3 < (a1.length : Int)))) r r r r r<|nI<|xS<|cD (c:=(decide (i3 < (a1.length : Int)))) r ?_ ?_
  ·refine sK<|xS<|sQ<|bK<|sQ<|rG<|mV r r<|mV r r<|bD fun x_x4 hx_x4=>iS (en:=Ed) r r r hx_x4 r<|lF (v:=.int .i64 x_x4) r r r r<|mV r r<|mV r r<|bD fun x_x5 hx_x5=>iS (en:=Ed) r r r hx_x5 r<|lF (v:=.int .i64 x_x5) r r r r<|bN (v:=.bool (x_x4 != x_x5)) r r r r r<|Ka (by kernel_rfl)<|xS<|cD (c:=(x_x4 != x_x5)) r ?_ ?_
   ·refine sQ<|rG<|aS r r<|nI<|xS<|rT<|bR<|xR<|lR<|bR<|xR<|JV (b:=false) r ?_ r r ?_ r
    all_goals first|(simp;done)|(simp;omega)|rfl|(simp [JR,JO];done)
   ·exact sK<|bM<|xS<|rG<|mV r r<|bN (v:=.int .i64 (IntKind.i64.wrap (i3 + 1))) r r r r r<|aS r r<|nI<|xL (s:=IntKind.i64.wrap (i3 + 1)) () ((hE ⟨rfl,r,r,trivial⟩ trivial))
  ·refine eT<|xE<|lE<|bH<|xS<|sQ<|rG<|aS r r<|nI<|xS<|rT<|JV (b:=true) r ?_ r r ?_ r
   all_goals first|(simp;done)|(simp;omega)|rfl|(simp [JR,JO];done)

def AdR : Kb:=(.seq (.reg [P 4 (.asg (.c (.bool false)) none)] false) (.seq (.seq (.reg [M 6 0,P 7 (.len false (T 6)),M 8 1,P 9 (.len false (T 8)),P 10 (.bin .neq (T 7) (T 9))] false) (.cond (T 10) (.seq (.reg [P 4 (.asg (.c (.bool false)) none)] false) .ret) .skip)) (.seq (.seq (.reg [P 5 (.asg (C 0) none)] false) (.block 0 (.loop (.seq (.seq (.reg [M 11 5,M 12 0,P 13 (.len false (T 12)),P 14 (.bin .lss (T 11) (T 13))] false) (.cond (T 14) .skip (.exit 0))) (.seq (.block 1 (.seq (.reg [M 17 0,M 18 5,⟨(some 19),(.ixA 1 (T 17) (T 18)),none,[0,1]⟩,⟨(some 20),(.ld 1 false (T 19)),none,[2]⟩,M 21 1,M 22 5,⟨(some 23),(.ixA 1 (T 21) (T 22)),none,[4,5]⟩,⟨(some 24),(.ld 1 false (T 23)),none,[6]⟩,⟨(some 25),(.call (.c (.clo 73 [])) [(T 20),(T 24)]),none,[3,7]⟩,⟨(some 26),(.un .not (T 25)),none,[8]⟩] true) (.cond (T 26) (.seq (.reg [P 4 (.asg (.c (.bool false)) none)] false) .ret) .skip))) (.reg [M 15 5,P 16 (.bin .add (T 15) (C 1)),P 5 (.asg (T 16) none)] false)))))) (.seq (.reg [P 4 (.asg (.c (.bool true)) none)] false) .ret))))
theorem AgE : (Tryd.f35.body.bind (Ke Tryd.prog Tryd.f35.ntmps)) = some AdR:=by kernel_rfl
theorem AgF : Tryd.f35.results.toList.mapM (Kl Tryd.prog) = some [(.t 4)]:=by kernel_rfl
def SJ (a : (List (List Int)) × (List (List Int))) : List D:=[.sl (a.1.map (eL Ed)),.sl (a.2.map (eL Ed))]
def SI (ds : List D) : (List (List Int)) × (List (List Int)):=((uL (uL uI)) (ds.getD 0 .top),(uL (uL uI)) (ds.getD 1 .top))
theorem Xr (a : (List (List Int)) × (List (List Int))) : SI (SJ a) = a:=by simp [SI,SJ,Lr (u:=(uL uI)) (en:=(eL Ed)) (Lr (u:=uI) (en:=Ed) (fun _=>rfl))]
def XR (b : Bool) : D:=.bool b
def XQ (_b : Bool) : List D:=[]
noncomputable def Up : Dw.Spec:=JZ [] .ground SJ SI (fun a=>OU a.1 a.2) XR XQ
set_option maxHeartbeats 4000000 in
theorem AaC : JX Tryd.prog 35 Up:=by
 refine Kh (Kd (l:=[(73,Xs)]) (by simp [Abr])) Tryd.func35 (by decide) AgE AgF (np:=2) (by decide) Xr (fun _=>r) (fun _=>r) (by decide)<|?_
 rintro ⟨a1,b2⟩
 show TrE (specs [(73,Xs)]) AdR (Km [] .ground [(.t 4)] XR XQ) ⟨[(0,.sl (a1.map (eL Ed))),(1,.sl (b2.map (eL Ed)))],[],262144⟩ (OU a1 b2)
 refine Kf<|?_
 unfold AdR OU
 refine sQ<|rG<|aS r r<|nI<|xS<|sQ<|sQ<|rG<|mV r r<|lS r r<|mV r r<|lS r r<|bN (v:=.bool ((a1.length : Int) != (b2.length : Int))) r r r r r<|nI<|xS<|cD (c:=((a1.length : Int) != (b2.length : Int))) r ?_ ?_
 ·refine sQ<|rG<|aS r r<|nI<|xS<|rT<|xR<|JV (b:=false) r ?_ r r ?_ r
  all_goals first|(simp;done)|(simp;omega)|rfl|(simp [JR,JO];done)
 ·refine sK<|xS<|sQ<|sQ<|rG<|aS r r<|nI<|xS<|bK<|lP (E:=fun (s : Int) (g : Unit)=>[(0,.sl (a1.map (eL Ed))),(1,.sl (b2.map (eL Ed))),(5,.int .i64 s)]) (O:=fun s g=>[]) (body:=fun s=>Mv a1 b2 s) (s:=0) () ((hE ⟨rfl,r,r,trivial⟩ trivial))<|?_
  rintro i3 ⟨⟩ nn
  try dsimp only
  unfold Mv
  refine sQ<|sQ<|rG<|mV r r<|mV r r<|lS r r<|bN (v:=.bool (decide (i3 < (a1.length : Int)))) r r r r r<|nI<|xS<|cD (c:=(decide (i3 < (a1.length : Int)))) r ?_ ?_
  ·refine sK<|xS<|sQ<|bK<|sQ<|rG<|mV r r<|mV r r<|bD fun x_x4 hx_x4=>iS (en:=(eL Ed)) r r r hx_x4 r<|lF (v:=.sl (x_x4.map Ed)) r r r r<|mV r r<|mV r r<|bD fun x_x5 hx_x5=>iS (en:=(eL Ed)) r r r hx_x5 r<|lF (v:=.sl (x_x5.map Ed)) r r r r<|bD fun r6 hr6=>cG (x_x4,x_x5) r r r Zc r r (by simp) r hr6 r<|uN (w:=.bool (!r6)) r r r r trivial<|Ka (by kernel_rfl)<|xS<|cD (c:=(!r6)) r ?_ ?_
   ·refine sQ<|rG<|aS r r<|nI<|xS<|rT<|bR<|xR<|lR<|bR<|xR<|JV (b:=false) r ?_ r r ?_ r
    all_goals first|(simp;done)|(simp;omega)|rfl|(simp [JR,JO];done)
   ·exact sK<|bM<|xS<|rG<|mV r r<|bN (v:=.int .i64 (IntKind.i64.wrap (i3 + 1))) r r r r r<|aS r r<|nI<|xL (s:=IntKind.i64.wrap (i3 + 1)) () ((hE ⟨rfl,r,r,trivial⟩ trivial))
  ·refine eT<|xE<|lE<|bH<|xS<|sQ<|rG<|aS r r<|nI<|xS<|rT<|JV (b:=true) r ?_ r r ?_ r
   all_goals first|(simp;done)|(simp;omega)|rfl|(simp [JR,JO];done)

def AdP : Kb:=(.seq (.reg [P 2 (.box (T 0) 1 30),P 3 (.box (T 1) 1 30),P 4 (.asg (.c (.bool false)) none)] false) (.seq (.reg [P 5 (.fldA 0 (T 2)),P 6 (.ld 1 false (T 5)),P 7 (.fldA 0 (T 3)),P 8 (.ld 1 false (T 7)),P 9 (.call (.c (.clo 35 [])) [(T 6),(T 8)]),P 4 (.asg (T 9) none)] false) .ret))
theorem AgA : (Tryd.f31.body.bind (Ke Tryd.prog Tryd.f31.ntmps)) = some AdP:=by kernel_rfl
theorem AgB : Tryd.f31.results.toList.mapM (Kl Tryd.prog) = some [(.t 4)]:=by kernel_rfl
def Vd (a : JP × JP) : List D:=[KF a.1,KF a.2]
def Vc (ds : List D) : JP × JP:=(Mp (ds.getD 0 .top),Mp (ds.getD 1 .top))
theorem Zh (a : JP × JP) : Vc (Vd a) = a:=by simp [Vc,Vd]
def ZS (b : Bool) : D:=.bool b
def ZR (_b : Bool) : List D:=[]
noncomputable def Xx : Dw.Spec:=JZ [] .ground Vd Vc (fun a=>Sa a.1 a.2) ZS ZR
set_option maxHeartbeats 4000000 in
theorem Abt : JX Tryd.prog 31 Xx:=by
 refine Kh (Kd (l:=[(35,Up)]) (by simp [AaC])) Tryd.func31 (by decide) AgA AgB (np:=2) (by decide) Zh (fun _=>r) (fun _=>r) (by decide)<|?_
 rintro ⟨a1,b2⟩
 show TrE (specs [(35,Up)]) AdP (Km [] .ground [(.t 4)] ZS ZR) ⟨[(0,.agg [.sl (a1.Out.map (eL Ed))]),(1,.agg [.sl (b2.Out.map (eL Ed))])],[],262144⟩ (Sa a1 b2)
 refine Kf<|?_
 unfold AdP Sa
 refine sQ<|rG<|bX r r r r r<|bX r r r r r<|aS r r<|nI<|xS<|sQ<|rG<|fA r r<|lO (v:=.sl (a1.Out.map (eL Ed))) (z:=.agg [.sl (a1.Out.map (eL Ed))]) r r r r r r<|fA r r<|lO (v:=.sl (b2.Out.map (eL Ed))) (z:=.agg [.sl (b2.Out.map (eL Ed))]) r r r r r r<|bD fun r3 hr3=>cG (a1.Out,b2.Out) r r r Xr r r (by simp) r hr3 r<|aS r r<|nI<|xS<|rT<|JV (b:=r3) r ?_ r r ?_ r
 all_goals first|(simp;done)|(simp;omega)|rfl|(simp [JR,JO];done)

def AdL : Kb:=(.seq (.reg [P 1 (.box (T 0) 3 27),P 2 (.new (.agg [.nils]) 1 30)] false) (.seq (.reg [P 5 (.fldA 2 (T 1)),P 6 (.ld 1 false (T 5)),P 7 (.len false (T 6)),P 8 (.mkS 1 36 24 .nils (T 7) (T 7)),⟨(some 9),(.bld [.nils] [⟨0,⟨1,(T 8)⟩⟩]),none,[]⟩,P 3 (.new (.agg [.nils]) 1 30),⟨none,(.st 1 (T 3) (T 9)),none,[]⟩] false) (.block 0 (.loop (.block 1 (.seq (.reg [P 10 (.ld 3 true (T 1)),P 11 (.ld 1 true (T 3)),P 12 (.call (.c (.clo 38 [])) [(T 10),(T 11)]),P 4 (.new (.agg [.nils]) 1 30),⟨none,(.st 1 (T 4) (T 12)),none,[]⟩] false) (.seq (.seq (.reg [P 13 (.ld 1 true (T 4)),P 14 (.ld 1 true (T 3)),P 15 (.call (.c (.clo 31 [])) [(T 13),(T 14)])] false) (.cond (T 15) (.seq (.reg [P 16 (.ld 1 true (T 3)),⟨none,(.st 1 (T 2) (T 16)),none,[]⟩] false) .ret) .skip)) (.reg [P 17 (.ld 1 true (T 4)),⟨none,(.st 1 (T 3) (T 17)),none,[]⟩] false))))))))
theorem Ags : (Tryd.f24.body.bind (Ke Tryd.prog Tryd.f24.ntmps)) = some AdL:=by kernel_rfl
theorem Agt : Tryd.f24.results.toList.mapM (Kl Tryd.prog) = some [(.c 2 1 true)]:=by kernel_rfl
def Uu (a : JN) : List D:=[Ku a]
def Ut (ds : List D) : JN:=Mi (ds.getD 0 .top)
theorem Yx (a : JN) : Ut (Uu a) = a:=by simp [Ut,Uu]
def Zj (b : JP) : D:=KF b
def Zi (_b : JP) : List D:=[]
noncomputable def VU : Dw.Spec:=JZ [] .val Uu Ut (fun a=>QK a) Zj Zi
set_option maxHeartbeats 4000000 in
theorem Abc : JX Tryd.prog 24 VU:=by
 refine Kh (Kd (l:=[(38,Xz),(31,Xx)]) (by simp [Abu,Abt])) Tryd.func24 (by decide) Ags Agt (np:=1) (by decide) Yx (fun _=>r) (fun _=>r) (by decide)<|?_
 intro f1
 show TrE (specs [(38,Xz),(31,Xx)]) AdL (Km [] .val [(.c 2 1 true)] Zj Zi) ⟨[(0,.agg [.int .i64 f1.Params,.sl (f1.Slots.map JQ),.sl (f1.Code.map JM)])],[],262144⟩ (QK f1)
 refine Kf<|?_
 unfold AdL QK
 refine sQ<|rG<|bX r r r r r<|nW r<|nI<|xS<|sQ<|rG<|fA r r<|lO (v:=.sl (f1.Code.map JM)) (z:=.agg [.int .i64 f1.Params,.sl (f1.Slots.map JQ),.sl (f1.Code.map JM)]) r r r r r r<|lS r r<|cK fun hq=>Aay (α:=Int) r r r hq r<|bL (cs:=[.osl 8 _ 0 ((List.replicate (f1.Code.length : Int).toNat ([] : (List Int))).length)]) (ps:=[(0,1,.osl 8 _ 0 ((List.replicate (f1.Code.length : Int).toNat ([] : (List Int))).length))]) r r r r<|nW r<|sV (z':=.agg [.osl 8 _ 0 ((List.replicate (f1.Code.length : Int).toNat ([] : (List Int))).length)]) r r r r r r r r r<|nI<|Mo (E:=[(1,.optr 1 _ 0 0),(2,.optr 2 _ 0 0),(3,.optr 3 _ 0 0)]) (O:=[(1,some (_,⟨false,true,3,27,[.agg [.int .i64 f1.Params,.sl (f1.Slots.map JQ),.sl (f1.Code.map JM)]]⟩)),(2,some (_,⟨false,true,1,30,[.agg [.nils]]⟩)),(3,some (_,⟨false,true,1,30,[.agg [.osl 8 _ 0 ((List.replicate (f1.Code.length : Int).toNat ([] : (List Int))).length)]]⟩)),(8,some (_,⟨false,false,1,36,(List.replicate (f1.Code.length : Int).toNat ([] : (List Int))).map (eL Ed)⟩))]) ((Abj (g:=8) r (AbU (l:=List.replicate (f1.Code.length : Int).toNat ([] : (List Int))) Ed (fun _ h=>List.eq_of_mem_replicate h)) (hE ⟨rfl,r,r,trivial⟩ ⟨rfl,r,r,r,trivial⟩))) fun nn=>bK<|lP (E:=fun (s : (List (List Int))) (g : Nat × Nat × Nat)=>[(1,.optr 1 g.1 0 0),(2,.optr 2 g.2.1 0 0),(3,.optr 3 g.2.2 0 0)]) (O:=fun s g=>[(1,some (g.1,⟨false,true,3,27,[.agg [.int .i64 f1.Params,.sl (f1.Slots.map JQ),.sl (f1.Code.map JM)]]⟩)),(2,some (g.2.1,⟨false,true,1,30,[.agg [.nils]]⟩)),(3,some (g.2.2,⟨false,true,1,30,[.agg [.sl (s.map (eL Ed))]]⟩))]) (body:=fun s=>Sb f1 s) (s:=List.replicate (f1.Code.length : Int).toNat ([] : (List Int))) (_,_,_) ((YN [(8,some (_,⟨true,false,1,36,(List.replicate (f1.Code.length : Int).toNat ([] : (List Int))).map (eL Ed)⟩))] ⟨⟨_,_,r,r,r⟩,trivial⟩ ⟨(KQ r),(KQ r),(KQ r),trivial⟩ ⟨(.inl r),(.inl r),(.inr ⟨_,_,_,_,r,r,r,r,YL r ⟨(XP (l:=List.replicate (f1.Code.length : Int).toNat ([] : (List Int))) (en:=(eL Ed)) r r r (by simp)),trivial⟩⟩),trivial⟩))<|?_
 rintro l2 ⟨v1x1,v2x1,v3x1⟩ nn
 try dsimp only
 unfold Sb
 refine bK<|sQ<|rG<|lO (v:=.agg [.int .i64 f1.Params,.sl (f1.Slots.map JQ),.sl (f1.Code.map JM)]) (z:=.agg [.int .i64 f1.Params,.sl (f1.Slots.map JQ),.sl (f1.Code.map JM)]) r r r r r r<|lO (v:=.agg [.sl (l2.map (eL Ed))]) (z:=.agg [.sl (l2.map (eL Ed))]) r r r r r r<|bD fun r3 hr3=>cV (f1,(JP.mk l2)) r r r Zk r r (by simp) r hr3<|nW r<|sV (z':=.agg [.sl (r3.Out.map (eL Ed))]) r r r r r r r r r<|nI<|xS<|sQ<|sQ<|rG<|lO (v:=.agg [.sl (r3.Out.map (eL Ed))]) (z:=.agg [.sl (r3.Out.map (eL Ed))]) r r r r r r<|lO (v:=.agg [.sl (l2.map (eL Ed))]) (z:=.agg [.sl (l2.map (eL Ed))]) r r r r r r<|bD fun r4 hr4=>cG (r3,(JP.mk l2)) r r r Zh r r (by simp) r hr4 r<|nI<|xS<|cD (c:=r4) r ?_ ?_
 ·refine sQ<|rG<|lO (v:=.agg [.sl (l2.map (eL Ed))]) (z:=.agg [.sl (l2.map (eL Ed))]) r r r r r r<|sV (z':=.agg [.sl (l2.map (eL Ed))]) r r r r r r r r r<|nI<|xS<|rT<|xR<|bR<|lR<|bR<|KC (b:=(JP.mk l2)) r ?_ r r ?_ r
  all_goals first|(simp;done)|(simp;omega)|rfl|(simp [JR,JO];done)
 ·exact sK<|xS<|rG<|lO (v:=.agg [.sl (r3.Out.map (eL Ed))]) (z:=.agg [.sl (r3.Out.map (eL Ed))]) r r r r r r<|sV (z':=.agg [.sl (r3.Out.map (eL Ed))]) r r r r r r r r r<|nI<|bM<|xL (s:=r3.Out) (_,_,_) ((hE ⟨rfl,r,r,trivial⟩ ⟨rfl,r,r,trivial⟩))

def Aek : Kb:=(.seq (.reg [P 2 (.asg (C 0) none)] false) (.seq (.reg [M 5 0,P 6 (.call (.c (.clo 54 [])) [(T 5),(C 12)]),P 3 (.asg (T 6) none)] false) (.seq (.seq (.reg [M 7 3,P 8 (.bin .eql (T 7) (C 11))] false) (.cond (T 8) (.seq (.reg [⟨(some 9),(.bldS 1 3 (.int .i64 0) 10 [⟨0,(C 9223372036854775807)⟩,⟨1,(.c (.int .i64 (-9223372036854775808)))⟩,⟨2,(C 2147483648)⟩,⟨3,(C 2147483647)⟩,⟨4,(.c (.int .i64 (-1)))⟩,⟨5,(C 16777216)⟩,⟨6,(C 33554432)⟩,⟨7,(C 1048577)⟩,⟨8,(C 512)⟩,⟨9,(C 80)⟩]),none,[]⟩,⟨(some 4),(.asg (T 9) (some ⟨1,3⟩)),none,[]⟩] false) (.seq (.reg [M 10 4,M 11 0,M 12 4,P 13 (.len false (T 12)),P 14 (.call (.c (.clo 54 [])) [(T 11),(T 13)]),P 15 (.ixA 1 (T 10) (T 14)),P 16 (.ld 1 false (T 15)),P 2 (.asg (T 16) none)] false) .ret)) .skip)) (.seq (.reg [M 17 0,P 18 (.call (.c (.clo 54 [])) [(T 17),(C 256)]),M 19 0,P 20 (.call (.c (.clo 54 [])) [(T 19),(C 7)]),P 21 (.bin .shr (T 18) (T 20)),M 22 3,P 23 (.bin .quo (T 22) (C 9)),P 24 (.bin .sub (T 21) (T 23)),P 2 (.asg (T 24) none)] false) .ret))))
theorem Ahq : (Tryd.f72.body.bind (Ke Tryd.prog Tryd.f72.ntmps)) = some Aek:=by kernel_rfl
theorem Ahr : Tryd.f72.results.toList.mapM (Kl Tryd.prog) = some [(.t 2)]:=by kernel_rfl
def RA (a : JJ) : List D:=[Kp a]
def Rz (ds : List D) : JJ:=LG (ds.getD 0 .top)
theorem SA (a : JJ) : Rz (RA a) = a:=by simp [Rz,RA]
def Xh (b : Int × JJ) : D:=.int .i64 b.1
def Xg (b : Int × JJ) : List D:=[Kp b.2]
noncomputable def Tq : Dw.Spec:=JZ [(0,(2,100))] .val RA Rz (fun a=>Nq a) Xh Xg
set_option maxHeartbeats 4000000 in
theorem Aae : JX Tryd.prog 72 Tq:=by
 refine Kh (Kd (l:=[(54,Ki)]) (by simp [KT])) Tryd.func72 (by decide) Ahq Ahr (np:=1) (by decide) SA (fun _=>r) (fun _=>r) (by decide)<|?_
 intro c1
 show TrE (specs [(54,Ki)]) Aek (Km [(0,(2,100))] .val [(.t 2)] Xh Xg) ⟨[(0,.optr 8192 0 0 0)],[(8192,some (0,⟨false,true,2,100,[.agg [.sl (c1.list.map eU8),.int .i64 c1.at_]]⟩))],262144⟩ (Nq c1)
 refine Kf<|?_
 unfold Aek Nq
 refine sQ<|rG<|aS r r<|nI<|xS<|sQ<|rG<|mV r r<|bD fun r2 hr2=>cV (c1,12) r r r JS r r (by simp) r hr2<|aS r r<|nI<|xS<|sQ<|sQ<|rG<|mV r r<|bN (v:=.bool (r2.1 == 11)) r r r r r<|nI<|xS<|cD (c:=(r2.1 == 11)) r ?_ ?_
 ·refine sQ<|rG<|bS ([9223372036854775807,(-9223372036854775808),2147483648,2147483647,(-1),16777216,33554432,1048577,512,80] : List Int) Ed r r r (by simp) r r r<|aO (l:=([9223372036854775807,(-9223372036854775808),2147483648,2147483647,(-1),16777216,33554432,1048577,512,80] : List Int)) (en:=Ed) r r r r<|nI<|xS<|sQ<|rG<|mV r r<|mV r r<|mV r r<|lW r r<|bD fun r3 hr3=>cV (r2.2,(([9223372036854775807,(-9223372036854775808),2147483648,2147483647,(-1),16777216,33554432,1048577,512,80] : List Int).length : Int)) r r r JS r r (by simp) r hr3<|cK fun hq=>iO (l:=([9223372036854775807,(-9223372036854775808),2147483648,2147483647,(-1),16777216,33554432,1048577,512,80] : List Int)) (en:=Ed) r r r r r hq<|bD fun l_e4 hl_e4=>lO (v:=.int .i64 l_e4) (z:=Ed l_e4) r r r (Md hl_e4) r r<|aS r r<|nI<|xS<|rT<|xR<|KC (b:=(l_e4,r3.2)) r ?_ r r ?_ r
  all_goals first|(simp;done)|(simp;omega)|rfl|(simp [JR,JO];done)
 ·refine sK<|xS<|sQ<|rG<|mV r r<|bD fun r5 hr5=>cV (r2.2,256) r r r JS r r (by simp) r hr5<|mV r r<|bD fun r6 hr6=>cV (r5.2,7) r r r JS r r (by simp) r hr6<|cK fun hq=>bN (v:=.int .i64 (r5.1.fdiv (2 ^ (Nat.min r6.1.toNat IntKind.i64.bits)))) r r r r hq<|mV r r<|bN (v:=.int .i64 (IntKind.i64.wrap (r2.1.tdiv 9))) r r r r ⟨rfl,(by decide)⟩<|bN (v:=.int .i64 (IntKind.i64.wrap ((r5.1.fdiv (2 ^ (Nat.min r6.1.toNat IntKind.i64.bits))) - (IntKind.i64.wrap (r2.1.tdiv 9))))) r r r r r<|aS r r<|nI<|xS<|rT<|KC (b:=(IntKind.i64.wrap ((r5.1.fdiv (2 ^ (Nat.min r6.1.toNat IntKind.i64.bits))) - (IntKind.i64.wrap (r2.1.tdiv 9))),r6.2)) r ?_ r r ?_ r
  all_goals first|(simp;done)|(simp;omega)|rfl|(simp [JR,JO];done)

end Go.Proofs.YtcelninhkmhjkaaDoor
