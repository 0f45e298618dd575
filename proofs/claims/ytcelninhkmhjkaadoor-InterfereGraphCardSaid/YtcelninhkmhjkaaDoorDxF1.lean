/-
  Programs on typed data, and the proofs that the code does what they say; written by a program (dx.py).
-/
import Derived.Test.YtcelninhkmhjkaaDoorProg
import Derived.Test.YtcelninhkmhjkaaDoorDc
import Derived.KernelRfl
import Derived.Test.YtcelninhkmhjkaaDoorDxP
namespace Go.Proofs.YtcelninhkmhjkaaDoor
open Go Go.Dw Go.Proofs
set_option maxRecDepth 100000
open Go.Dw renaming Ym → mV,VP → bN,PJ → lO,TU → bD,VS → cK,VU → nI,VX → xS,Yo → rG,Yq → sQ,Ru → aO,VO → aS,VV → oF,AaU → bL,VQ → bS,OZ → cV,Nj → cG,Qz → cR,Zu → aP,PK → sV,SP → iS,Rv → iO,QY → lS,Rx → lW,TV → fA,ZH → fF,Acl → nC,TW → lF,SE → sP,OA → pT,NL → pF,Yn → uN,Adw → cT,VT → nW,VR → bX,Rt → aN,JE → eA_,VY → cD,TY → bK,Yp → rT,Wc → sK,VZ → eT,VW → xC,TX → xL,PY → xR,Adg → yR,Wd → zR,SF → lR,So → hE,OB → lE,Pa → bH,NM → bM,PX → bR,Pb → xE,Wa → lP,QZ → sC,Wb → bC,rf → r
def AdI : Ka:=(.seq (.reg [P 3 (.box (T 1) 2 61),P 4 (.asg (C 0) none)] false) (.seq (.seq (.reg [M 6 0,P 7 (.len false (T 6)),P 8 (.mv (C 0))] false) (.block 0 (.loop (.seq (.reg [P 9 (.bin .lss (T 8) (T 7))] false) (.seq (.cond (T 9) .skip (.exit 0)) (.seq (.block 1 (.seq (.reg [M 10 8,P 5 (.asg (T 10) none)] false) (.seq (.reg [P 11 (.ld 2 true (T 3)),M 12 0,M 13 5,⟨(some 14),(.ixA 2 (T 12) (T 13)),none,[1,2]⟩,⟨(some 15),(.ld 2 true (T 14)),none,[3]⟩,⟨(some 16),(.eqA 2 false (T 11) (T 15)),none,[0,4]⟩] true) (.cond (T 16) (.seq (.reg [M 17 5,P 4 (.asg (T 17) none)] false) .ret) .skip)))) (.reg [P 18 (.bin .add (T 8) (C 1)),M 8 18] false))))))) (.seq (.reg [⟨(some 4),(.asg (.c (.int .i64 (-1))) none),none,[]⟩] false) .ret)))
theorem Agv : (Tryd.f108.body.bind (Kb Tryd.prog Tryd.f108.ntmps)) = some AdI:=by kernel_rfl
theorem Agw : Tryd.f108.results.toList.mapM (Kn Tryd.prog) = some [(.t 4)]:=by kernel_rfl
def NK (a : (List Kh) × Kh) : List D:=[.sl (a.1.map Ls),Ls a.2]
def NJ (ds : List D) : (List Kh) × Kh:=((uL Ul) (ds.getD 0 .top),Ul (ds.getD 1 .top))
theorem QH (a : (List Kh) × Kh) : NJ (NK a) = a:=by simp [NJ,NK,Lw (u:=Ul) (en:=Ls) Acm]
def Rj (b : Int) : D:=.int .i64 b
def Ri (_b : Int) : List D:=[]
noncomputable def Oz : Dw.Spec:=JZ [] .ground NK NJ (fun a=>LZ a.1 a.2) Rj Ri
set_option maxHeartbeats 4000000 in
theorem WB : JY Tryd.prog 108 Oz:=by
 refine Ki (KI) Tryd.func108 (by decide) Agv Agw (np:=2) (by decide) QH (fun _=>r) (fun _=>r) (by decide)<|?_
 rintro ⟨s1,v2⟩
 show TrE (specs []) AdI (Kp [] .ground [(.t 4)] Rj Ri) ⟨[(0,.sl (s1.map Ls)),(1,.agg [.int .i64 v2.a0,.int .i64 v2.a1])],[],262144⟩ (LZ s1 v2)
 refine Kc<|?_
 unfold AdI LZ
 refine sQ<|rG<|bX r r r r r<|aS r r<|nI<|xS<|sQ<|sQ<|rG<|mV r r<|lS r r<|mV r r<|nI<|xS<|bK<|lP (E:=fun (s : Int) (g : Nat)=>[(0,.sl (s1.map Ls)),(3,.optr 3 g 0 0),(7,.int .i64 (s1.length : Int)),(8,.int .i64 s)]) (O:=fun s g=>[(3,some (g,⟨false,true,2,61,[.agg [.int .i64 v2.a0,.int .i64 v2.a1]]⟩))]) (body:=fun s=>KA s1 v2 s) (s:=0) _ ((hE ⟨rfl,r,r,r,trivial⟩ ⟨rfl,trivial⟩))<|?_
 rintro x3 v3x1 nn
 try dsimp only
 unfold KA
 refine sQ<|rG<|bN (v:=.bool (decide (x3 < (s1.length : Int)))) r r r r r<|nI<|xS<|sQ<|cD (c:=(decide (x3 < (s1.length : Int)))) r ?_ ?_
 ·refine sK<|xS<|sQ<|bK<|sQ<|rG<|mV r r<|aS r r<|nI<|xS<|sQ<|rG<|lO (v:=.agg [.int .i64 v2.a0,.int .i64 v2.a1]) (z:=.agg [.int .i64 v2.a0,.int .i64 v2.a1]) r r r r r r<|mV r r<|mV r r<|bD fun x_x4 hx_x4=>iS (en:=Ls) r r r hx_x4 r<|lF (v:=.agg [.int .i64 x_x4.a0,.int .i64 x_x4.a1]) r r r r<|eA_ (p:=((v2.a0 == x_x4.a0) && ((v2.a1 == x_x4.a1) && true))) r r r r ⟨rfl,⟨rfl,trivial⟩⟩ r<|Kf (by kernel_rfl)<|xS<|cD (c:=((v2.a0 == x_x4.a0) && ((v2.a1 == x_x4.a1) && true))) r ?_ ?_
  ·refine sQ<|rG<|mV r r<|aS r r<|nI<|xS<|rT<|bR<|xR<|lR<|bR<|xR<|JX (b:=x3) r ?_ r r ?_ r
   all_goals first|(simp;done)|(simp;omega)|rfl|(simp [JT,JQ];done)
  ·exact sK<|bM<|xS<|rG<|bN (v:=.int .i64 (IntKind.i64.wrap (x3 + 1))) r r r r r<|mV r r<|nI<|xL (s:=IntKind.i64.wrap (x3 + 1)) _ ((hE ⟨rfl,r,r,r,trivial⟩ ⟨rfl,trivial⟩))
 ·refine eT<|xE<|lE<|bH<|xS<|sQ<|rG<|aS r r<|nI<|xS<|rT<|JX (b:=(-1)) r ?_ r r ?_ r
  all_goals first|(simp;done)|(simp;omega)|rfl|(simp [JT,JQ];done)

def AfB : Ka:=(.seq (.reg [P 3 (.box (T 1) 2 61),P 4 (.asg (.c (.bool false)) none)] false) (.seq (.reg [M 5 0,P 6 (.ld 2 true (T 3)),P 7 (.call (.c (.clo 108 [])) [(T 5),(T 6)]),P 8 (.bin .geq (T 7) (C 0)),P 4 (.asg (T 8) none)] false) .ret))
theorem AiS : (Tryd.f85.body.bind (Kb Tryd.prog Tryd.f85.ntmps)) = some AfB:=by kernel_rfl
theorem AiT : Tryd.f85.results.toList.mapM (Kn Tryd.prog) = some [(.t 4)]:=by kernel_rfl
def Lz (a : (List Kh) × Kh) : List D:=[.sl (a.1.map Ls),Ls a.2]
def MX (ds : List D) : (List Kh) × Kh:=((uL Ul) (ds.getD 0 .top),Ul (ds.getD 1 .top))
theorem PI (a : (List Kh) × Kh) : MX (Lz a) = a:=by simp [MX,Lz,Lw (u:=Ul) (en:=Ls) Acm]
def Qe (b : Bool) : D:=.bool b
def Qd (_b : Bool) : List D:=[]
noncomputable def Ns : Dw.Spec:=JZ [] .ground Lz MX (fun a=>La a.1 a.2) Qe Qd
set_option maxHeartbeats 4000000 in
theorem Vd : JY Tryd.prog 85 Ns:=by
 refine Ki (Ke (l:=[(108,Oz)]) (by simp [WB])) Tryd.func85 (by decide) AiS AiT (np:=2) (by decide) PI (fun _=>r) (fun _=>r) (by decide)<|?_
 rintro ⟨s1,v2⟩
 show TrE (specs [(108,Oz)]) AfB (Kp [] .ground [(.t 4)] Qe Qd) ⟨[(0,.sl (s1.map Ls)),(1,.agg [.int .i64 v2.a0,.int .i64 v2.a1])],[],262144⟩ (La s1 v2)
 refine Kc<|?_
 unfold AfB La
 refine sQ<|rG<|bX r r r r r<|aS r r<|nI<|xS<|sQ<|rG<|mV r r<|lO (v:=.agg [.int .i64 v2.a0,.int .i64 v2.a1]) (z:=.agg [.int .i64 v2.a0,.int .i64 v2.a1]) r r r r r r<|bD fun r3 hr3=>cG (s1,v2) r r r QH r r (by simp) r hr3 r<|bN (v:=.bool (decide (r3 ≥ 0))) r r r r r<|aS r r<|nI<|xS<|rT<|JX (b:=(decide (r3 ≥ 0))) r ?_ r r ?_ r
 all_goals first|(simp;done)|(simp;omega)|rfl|(simp [JT,JQ];done)

def Afc : Ka:=(.seq (.reg [P 1 (.box (T 0) 3 27),⟨(some 2),(.asg (.c .nils) (some ⟨2,61⟩)),none,[]⟩] false) (.seq (.reg [⟨(some 3),(.asg (.c .nils) (some ⟨2,61⟩)),none,[]⟩] false) (.seq (.seq (.reg [P 7 (.fldA 2 (T 1)),P 8 (.ld 1 false (T 7)),P 9 (.len false (T 8)),P 10 (.mv (C 0))] false) (.block 0 (.loop (.seq (.reg [P 11 (.bin .lss (T 10) (T 9))] false) (.seq (.cond (T 11) .skip (.exit 0)) (.seq (.block 1 (.seq (.reg [P 12 (.ixA 5 (T 8) (T 10)),P 13 (.ld 5 true (T 12)),P 5 (.new (.agg [(.int .i64 0),(.int .i64 0),(.int .i64 0),(.int .i64 0),(.int .u64 0)]) 5 66),⟨none,(.st 5 (T 5) (T 13)),none,[]⟩] false) (.seq (.reg [P 14 (.fldA 1 (T 5)),P 15 (.ld 1 false (T 14)),P 16 (.fldA 2 (T 5)),P 17 (.ld 1 false (T 16)),⟨(some 18),(.bld [(.int .i64 0),(.int .i64 0)] [⟨0,⟨1,(T 15)⟩⟩,⟨1,⟨1,(T 17)⟩⟩]),none,[]⟩,P 6 (.new (.agg [(.int .i64 0),(.int .i64 0)]) 2 61),⟨none,(.st 2 (T 6) (T 18)),none,[]⟩] false) (.seq (.reg [P 19 (.fldA 0 (T 5)),P 20 (.ld 1 false (T 19)),P 21 (.bin .eql (T 20) (C 17)),M 22 21,⟨(some 23),(.fldA 1 (T 5)),(some ⟨22,true⟩),[]⟩,⟨(some 24),(.ld 1 false (T 23)),(some ⟨22,true⟩),[]⟩,⟨(some 25),(.fldA 2 (T 5)),(some ⟨22,true⟩),[]⟩,⟨(some 26),(.ld 1 false (T 25)),(some ⟨22,true⟩),[]⟩,⟨(some 27),(.bin .neq (T 24) (T 26)),(some ⟨22,true⟩),[]⟩,P 28 (.pick (T 22) (T 27) (.c (.bool false))),M 29 28,⟨(some 30),(.mv (T 3)),(some ⟨29,true⟩),[]⟩,⟨(some 31),(.ld 2 true (T 6)),(some ⟨29,true⟩),[]⟩,⟨(some 32),(.call (.c (.clo 85 [])) [(T 30),(T 31)]),(some ⟨29,true⟩),[]⟩,⟨(some 33),(.un .not (T 32)),(some ⟨29,true⟩),[]⟩,P 34 (.pick (T 29) (T 33) (.c (.bool false)))] false) (.cond (T 34) (.reg [M 35 3,P 36 (.ld 2 true (T 6)),⟨(some 37),(.bldS 2 61 (.agg [(.int .i64 0),(.int .i64 0)]) 1 [⟨0,(T 36)⟩]),none,[]⟩,P 38 (.app 2 61 16 (T 35) (T 37)),⟨(some 3),(.asg (T 38) (some ⟨2,61⟩)),none,[]⟩] false) .skip))))) (.reg [P 39 (.bin .add (T 10) (C 1)),M 10 39] false))))))) (.seq (.reg [M 40 3,⟨(some 2),(.asg (T 40) (some ⟨2,61⟩)),none,[]⟩] false) .ret))))
theorem AhU : (Tryd.f51.body.bind (Kb Tryd.prog Tryd.f51.ntmps)) = some Afc:=by kernel_rfl
theorem AhV : Tryd.f51.results.toList.mapM (Kn Tryd.prog) = some [(.t 2)]:=by kernel_rfl
def Pe (a : JO) : List D:=[Kv a]
def RP (ds : List D) : JO:=LA (ds.getD 0 .top)
theorem Wq (a : JO) : RP (Pe a) = a:=by simp [RP,Pe]
def Xs (b : (List Kh)) : D:=.sl (b.map Ls)
def Xr (_b : (List Kh)) : List D:=[]
noncomputable def Ti : Dw.Spec:=JZ [] (.row 2 61) Pe RP (fun a=>Oj a) Xs Xr
set_option maxHeartbeats 4000000 in
theorem Aaz : JY Tryd.prog 51 Ti:=by
 refine Ki (Ke (l:=[(85,Ns)]) (by simp [Vd])) Tryd.func51 (by decide) AhU AhV (np:=1) (by decide) Wq (fun _=>r) (fun _=>r) (by decide)<|?_
 intro f1
 show TrE (specs [(85,Ns)]) Afc (Kp [] (.row 2 61) [(.t 2)] Xs Xr) ⟨[(0,.agg [.int .i64 f1.Params,.sl (f1.Slots.map JP),.sl (f1.Code.map JM)])],[],262144⟩ (Oj f1)
 refine Kc<|?_
 unfold Afc Oj
 refine sQ<|rG<|bX r r r r r<|aN (α:=Kh) r Ls r<|nI<|xS<|sQ<|rG<|aN (α:=Kh) r Ls r<|nI<|xS<|sQ<|sQ<|rG<|fA r r<|lO (v:=.sl (f1.Code.map JM)) (z:=.agg [.int .i64 f1.Params,.sl (f1.Slots.map JP),.sl (f1.Code.map JM)]) r r r r r r<|lS r r<|mV r r<|nI<|xS<|bK<|lP (E:=fun (s : (List Kh) × Int) (g : Nat)=>[(3,.osl 3 g 0 s.1.length),(8,.sl (f1.Code.map JM)),(9,.int .i64 (f1.Code.length : Int)),(10,.int .i64 s.2)]) (O:=fun s g=>[(3,some (g,⟨false,false,2,61,s.1.map Ls⟩))]) (body:=fun s=>Lj f1 s.1 s.2) (s:=(([] : List Kh),0)) _ ((hE ⟨rfl,r,r,r,trivial⟩ ⟨rfl,trivial⟩))<|?_
 rintro ⟨l2,x3⟩ v3x1 nn
 try dsimp only
 unfold Lj
 refine sQ<|rG<|bN (v:=.bool (decide (x3 < (f1.Code.length : Int)))) r r r r r<|nI<|xS<|sQ<|cD (c:=(decide (x3 < (f1.Code.length : Int)))) r ?_ ?_
 ·refine sK<|xS<|sQ<|bK<|sQ<|rG<|bD fun x_x4 hx_x4=>iS (en:=JM) r r r hx_x4 r<|lF (v:=.agg [.int .i64 x_x4.Op,.int .i64 x_x4.A,.int .i64 x_x4.B,.int .i64 x_x4.C,.int .u64 x_x4.Imm]) r r r r<|nW r<|sV (z':=.agg [.int .i64 x_x4.Op,.int .i64 x_x4.A,.int .i64 x_x4.B,.int .i64 x_x4.C,.int .u64 x_x4.Imm]) r r r r r r r r r<|nI<|xS<|sQ<|rG<|fA r r<|lO (v:=.int .i64 x_x4.A) (z:=.agg [.int .i64 x_x4.Op,.int .i64 x_x4.A,.int .i64 x_x4.B,.int .i64 x_x4.C,.int .u64 x_x4.Imm]) r r r r r r<|fA r r<|lO (v:=.int .i64 x_x4.B) (z:=.agg [.int .i64 x_x4.Op,.int .i64 x_x4.A,.int .i64 x_x4.B,.int .i64 x_x4.C,.int .u64 x_x4.Imm]) r r r r r r<|bL (cs:=[.int .i64 x_x4.A,.int .i64 x_x4.B]) (ps:=[(0,1,.int .i64 x_x4.A),(1,1,.int .i64 x_x4.B)]) r r r r<|nW r<|sV (z':=.agg [.int .i64 x_x4.A,.int .i64 x_x4.B]) r r r r r r r r r<|nI<|xS<|sQ<|rG<|fA r r<|lO (v:=.int .i64 x_x4.Op) (z:=.agg [.int .i64 x_x4.Op,.int .i64 x_x4.A,.int .i64 x_x4.B,.int .i64 x_x4.C,.int .u64 x_x4.Imm]) r r r r r r<|bN (v:=.bool (x_x4.Op == 17)) r r r r r<|mV r r<|sP 22 (b:=(x_x4.Op == 17)) r ?_ ?_
  ·refine fA r r<|lO (v:=.int .i64 x_x4.A) (z:=.agg [.int .i64 x_x4.Op,.int .i64 x_x4.A,.int .i64 x_x4.B,.int .i64 x_x4.C,.int .u64 x_x4.Imm]) r r r r r r<|fA r r<|lO (v:=.int .i64 x_x4.B) (z:=.agg [.int .i64 x_x4.Op,.int .i64 x_x4.A,.int .i64 x_x4.B,.int .i64 x_x4.C,.int .u64 x_x4.Imm]) r r r r r r<|bN (v:=.bool (x_x4.A != x_x4.B)) r r r r r<|pT r r r r<|mV r r<|sP 29 (b:=(x_x4.A != x_x4.B)) r ?_ ?_
   ·refine mV r r<|lO (v:=.agg [.int .i64 x_x4.A,.int .i64 x_x4.B]) (z:=.agg [.int .i64 x_x4.A,.int .i64 x_x4.B]) r r r r r r<|bD fun r5 hr5=>cG (l2,(Kh.mk x_x4.A x_x4.B)) r r r PI r r (by simp) (by first | rfl | (simp only [Kg,Kk]; rfl) | simp [Lz,Ls]) hr5 r<|uN (w:=.bool (!r5)) r r r r trivial<|pT r r r r<|nI<|xS<|cD (c:=(!r5)) r ?_ ?_
    ·exact rG<|mV r r<|lO (v:=.agg [.int .i64 x_x4.A,.int .i64 x_x4.B]) (z:=.agg [.int .i64 x_x4.A,.int .i64 x_x4.B]) r r r r r r<|bS ([(Kh.mk x_x4.A x_x4.B)] : List Kh) Ls r r r (by simp) r r r<|cK fun hq=>aP (l2) (([(Kh.mk x_x4.A x_x4.B)] : List Kh)) Ls r r r r r r r (by simp) (Ko _ _ r) r r (by simp) (JS _ _ r) (fun _=>r) r hq<|aO (l:=l2 ++ ([(Kh.mk x_x4.A x_x4.B)] : List Kh)) (en:=Ls) r r r r<|nI<|bM<|xS<|rG<|bN (v:=.int .i64 (IntKind.i64.wrap (x3 + 1))) r r r r r<|mV r r<|nI<|xL (s:=(l2 ++ ([(Kh.mk x_x4.A x_x4.B)] : List Kh),IntKind.i64.wrap (x3 + 1))) _ ((hE ⟨rfl,r,r,r,trivial⟩ ⟨rfl,trivial⟩))
    ·exact sK<|bM<|xS<|rG<|bN (v:=.int .i64 (IntKind.i64.wrap (x3 + 1))) r r r r r<|mV r r<|nI<|xL (s:=(l2,IntKind.i64.wrap (x3 + 1))) _ ((hE ⟨rfl,r,r,r,trivial⟩ ⟨rfl,trivial⟩))
   ·exact oF r<|oF r<|oF r<|oF r<|pF r r r r<|nI<|xS<|Lf r<|sK<|bM<|xS<|rG<|bN (v:=.int .i64 (IntKind.i64.wrap (x3 + 1))) r r r r r<|mV r r<|nI<|xL (s:=(l2,IntKind.i64.wrap (x3 + 1))) _ ((hE ⟨rfl,r,r,r,trivial⟩ ⟨rfl,trivial⟩))
  ·exact oF r<|oF r<|oF r<|oF r<|oF r<|pF r r r r<|mV r r<|oF r<|oF r<|oF r<|oF r<|pF r r r r<|nI<|xS<|Lf r<|sK<|bM<|xS<|rG<|bN (v:=.int .i64 (IntKind.i64.wrap (x3 + 1))) r r r r r<|mV r r<|nI<|xL (s:=(l2,IntKind.i64.wrap (x3 + 1))) _ ((hE ⟨rfl,r,r,r,trivial⟩ ⟨rfl,trivial⟩))
 ·refine eT<|xE<|lE<|bH<|xS<|sQ<|rG<|mV r r<|aO (l:=l2) (en:=Ls) r r r r<|nI<|xS<|rT<|Kt (b:=l2) r ?_ r r ?_ r ?_ (congrArg D.sl (JS _ _ r)) r
  all_goals first|(simp;done)|(simp;omega)|rfl|(simp [JT,JQ];done)

def AeW : Ka:=(.seq (.reg [P 0 (.asg (.c (.bool false)) none)] false) (.seq (.reg [⟨(some 2),(.bld [(.int .i64 0),(.int .i64 0)] [⟨0,⟨1,(C 8)⟩⟩,⟨1,⟨1,(C 8)⟩⟩]),none,[]⟩,⟨(some 3),(.bld [(.int .i64 0),(.int .i64 0)] [⟨0,⟨1,(C 8)⟩⟩,⟨1,⟨1,(C 8)⟩⟩]),none,[]⟩,⟨(some 4),(.bldS 2 63 (.agg [(.int .i64 0),(.int .i64 0)]) 2 [⟨0,(T 2)⟩,⟨1,(T 3)⟩]),none,[]⟩,⟨(some 5),(.bld [(.int .i64 0),(.int .i64 0),(.int .i64 0),(.int .i64 0),(.int .u64 0)] [⟨0,⟨1,(C 17)⟩⟩,⟨2,⟨1,(C 1)⟩⟩]),none,[]⟩,⟨(some 6),(.bld [(.int .i64 0),(.int .i64 0),(.int .i64 0),(.int .i64 0),(.int .u64 0)] [⟨0,⟨1,(C 23)⟩⟩]),none,[]⟩,⟨(some 7),(.bldS 5 66 (.agg [(.int .i64 0),(.int .i64 0),(.int .i64 0),(.int .i64 0),(.int .u64 0)]) 2 [⟨0,(T 5)⟩,⟨1,(T 6)⟩]),none,[]⟩,⟨(some 8),(.bld [(.int .i64 0),.nils,.nils] [⟨1,⟨1,(T 4)⟩⟩,⟨2,⟨1,(T 7)⟩⟩]),none,[]⟩,P 1 (.new (.agg [(.int .i64 0),.nils,.nils]) 3 27),⟨none,(.st 3 (T 1) (T 8)),none,[]⟩] false) (.seq (.reg [P 9 (.ld 3 true (T 1)),P 10 (.call (.c (.clo 51 [])) [(T 9)]),P 11 (.len false (T 10)),P 12 (.bin .eql (T 11) (C 1)),P 0 (.asg (T 12) none)] false) .ret)))
theorem AhI : (Tryd.f45.body.bind (Kb Tryd.prog Tryd.f45.ntmps)) = some AeW:=by kernel_rfl
theorem AhJ : Tryd.f45.results.toList.mapM (Kn Tryd.prog) = some [(.t 0)]:=by kernel_rfl
def UF (a : Unit) : List D:=[]
def UE (ds : List D) : Unit:=()
theorem Zg (a : Unit) : UE (UF a) = a:=by simp [UE,UF]
def ZN (b : Bool) : D:=.bool b
def ZM (_b : Bool) : List D:=[]
noncomputable def WK : Dw.Spec:=JZ [] .ground UF UE (fun a=>Rk) ZN ZM
set_option maxHeartbeats 4000000 in
theorem AbS : JY Tryd.prog 45 WK:=by
 refine Ki (Ke (l:=[(51,Ti)]) (by simp [Aaz])) Tryd.func45 (by decide) AhI AhJ (np:=0) (by decide) Zg (fun _=>r) (fun _=>r) (by decide)<|?_
 intro _
 show TrE (specs [(51,Ti)]) AeW (Kp [] .ground [(.t 0)] ZN ZM) ⟨[],[],262144⟩ (Rk)
 refine Kc<|?_
 unfold AeW Rk
 refine sQ<|rG<|aS r r<|nI<|xS<|sQ<|rG<|bL (cs:=[.int .i64 8,.int .i64 8]) (ps:=[(0,1,.int .i64 8),(1,1,.int .i64 8)]) r r r r<|bL (cs:=[.int .i64 8,.int .i64 8]) (ps:=[(0,1,.int .i64 8),(1,1,.int .i64 8)]) r r r r<|bS ([(Kr.mk 8 8),(Kr.mk 8 8)] : List Kr) JP r r r (by simp) r r r<|bL (cs:=[.int .i64 17,.int .i64 0,.int .i64 1,.int .i64 0,.int .u64 0]) (ps:=[(0,1,.int .i64 17),(2,1,.int .i64 1)]) r r r r<|bL (cs:=[.int .i64 23,.int .i64 0,.int .i64 0,.int .i64 0,.int .u64 0]) (ps:=[(0,1,.int .i64 23)]) r r r r<|bS ([(JL.mk 17 0 1 0 0),(JL.mk 23 0 0 0 0)] : List JL) JM r r r (by simp) r r r<|bL (cs:=[.int .i64 0,.osl 4 _ 0 (([(Kr.mk 8 8),(Kr.mk 8 8)] : List Kr).length),.osl 7 _ 0 (([(JL.mk 17 0 1 0 0),(JL.mk 23 0 0 0 0)] : List JL).length)]) (ps:=[(1,1,.osl 4 _ 0 (([(Kr.mk 8 8),(Kr.mk 8 8)] : List Kr).length)),(2,1,.osl 7 _ 0 (([(JL.mk 17 0 1 0 0),(JL.mk 23 0 0 0 0)] : List JL).length))]) r r r r<|nW r<|sV (z':=.agg [.int .i64 0,.osl 4 _ 0 (([(Kr.mk 8 8),(Kr.mk 8 8)] : List Kr).length),.osl 7 _ 0 (([(JL.mk 17 0 1 0 0),(JL.mk 23 0 0 0 0)] : List JL).length)]) r r r r r r r r r<|nI<|xS<|sQ<|rG<|lO (v:=.agg [.int .i64 0,.osl 4 _ 0 (([(Kr.mk 8 8),(Kr.mk 8 8)] : List Kr).length),.osl 7 _ 0 (([(JL.mk 17 0 1 0 0),(JL.mk 23 0 0 0 0)] : List JL).length)]) (z:=.agg [.int .i64 0,.osl 4 _ 0 (([(Kr.mk 8 8),(Kr.mk 8 8)] : List Kr).length),.osl 7 _ 0 (([(JL.mk 17 0 1 0 0),(JL.mk 23 0 0 0 0)] : List JL).length)]) r r r r r r<|bD fun r1 hr1=>cR (l:=r1) (en:=Ls) (JO.mk 0 ([(Kr.mk 8 8),(Kr.mk 8 8)] : List Kr) ([(JL.mk 17 0 1 0 0),(JL.mk 23 0 0 0 0)] : List JL)) r r r Wq r r (by simp) (by first | rfl | (simp only [Kg,Kk]; rfl) | simp [Pe,Kv]) hr1 r<|lW r r<|bN (v:=.bool ((r1.length : Int) == 1)) r r r r r<|aS r r<|nI<|xS<|rT<|JX (b:=((r1.length : Int) == 1)) r ?_ r r ?_ r
 all_goals first|(simp;done)|(simp;omega)|rfl|(simp [JT,JQ];done)

def Afd : Ka:=(.seq (.reg [P 4 (.asg (.c .top) none)] false) (.seq (.reg [M 5 0,M 6 0,P 7 (.len false (T 6)),M 8 1,P 9 (.min [(T 7),(T 8)]),P 10 (.slc 1 (T 5) none (some (T 9))),⟨(some 11),(.bld [.nils,(.int .i64 0)] [⟨0,⟨1,(T 10)⟩⟩]),none,[]⟩,P 12 (.box (T 11) 2 100),P 4 (.asg (T 12) none)] false) .ret))
theorem AhW : (Tryd.f52.body.bind (Kb Tryd.prog Tryd.f52.ntmps)) = some Afd:=by kernel_rfl
theorem AhX : Tryd.f52.results.toList.mapM (Kn Tryd.prog) = some [(.t 4)]:=by kernel_rfl
def XS (a : (List Int) × Int) : List D:=[.sl (a.1.map eU8),.int .i64 a.2]
def XR (ds : List D) : (List Int) × Int:=((uL uI) (ds.getD 0 .top),uI (ds.getD 1 .top))
theorem Abf (a : (List Int) × Int) : XR (XS a) = a:=by simp [XR,XS,uI,Lw (u:=uI) (en:=eU8) (fun _=>rfl)]
def AbC (b : JK) : D:=Kq b
def AbB (_b : JK) : List D:=[]
noncomputable def ZB : Dw.Spec:=JZ [] (.ptr 2 100) XS XR (fun a=>Vs a.1 a.2) AbC AbB
set_option maxHeartbeats 4000000 in
theorem Adn : JY Tryd.prog 52 ZB:=by
 refine Ki (KI) Tryd.func52 (by decide) AhW AhX (np:=2) (by decide) Abf (fun _=>r) (fun _=>r) (by decide)<|?_
 rintro ⟨list1,limit2⟩
 show TrE (specs []) Afd (Kp [] (.ptr 2 100) [(.t 4)] AbC AbB) ⟨[(0,.sl (list1.map eU8)),(1,.int .i64 limit2)],[],262144⟩ (Vs list1 limit2)
 refine Kc<|?_
 unfold Afd Vs
 refine sQ<|rG<|aS r r<|nI<|xS<|sQ<|rG<|mV r r<|mV r r<|lS r r<|mV r r<|AgW r r r<|cK fun hq=>Acu (l:=list1) (en:=eU8) r r r (fun _=>r) r hq<|bL (cs:=[.sl ((list1.take (UI (list1.length : Int) limit2).toNat).map eU8),.int .i64 0]) (ps:=[(0,1,.sl ((list1.take (UI (list1.length : Int) limit2).toNat).map eU8))]) r r r r<|bX r r r r r<|aS r r<|nI<|xS<|rT<|AaT (b:=(JK.mk (list1.take (UI (list1.length : Int) limit2).toNat) 0)) r ?_ r ?_ r r ?_ r
 all_goals first|(simp;done)|(simp;omega)|rfl|(simp [JT,JQ];done)

def AfD : Ka:=(.seq (.reg [P 2 (.asg (.c (.bool false)) none)] false) (.seq (.reg [M 3 0,⟨(some 4),(.nilck (T 3)),none,[0]⟩,⟨(some 5),(.fldA 1 (T 4)),none,[1]⟩,⟨(some 6),(.ld 1 false (T 5)),none,[2]⟩,M 7 0,⟨(some 8),(.nilck (T 7)),none,[4]⟩,⟨(some 9),(.fldA 0 (T 8)),none,[5]⟩,⟨(some 10),(.ld 1 false (T 9)),none,[6]⟩,⟨(some 11),(.len false (T 10)),none,[7]⟩,⟨(some 12),(.bin .lss (T 6) (T 11)),none,[3,8]⟩,⟨(some 2),(.asg (T 12) none),none,[9,0,1,2,3,4,5,6,7,8,9]⟩] true) .ret))
theorem AiW : (Tryd.f87.body.bind (Kb Tryd.prog Tryd.f87.ntmps)) = some AfD:=by kernel_rfl
theorem AiX : Tryd.f87.results.toList.mapM (Kn Tryd.prog) = some [(.t 2)]:=by kernel_rfl
def RA (a : JK) : List D:=[Kq a]
def Rz (ds : List D) : JK:=LD (ds.getD 0 .top)
theorem Wf (a : JK) : Rz (RA a) = a:=by simp [Rz,RA]
def Xd (b : Bool × JK) : D:=.bool b.1
def Xc (b : Bool × JK) : List D:=[Kq b.2]
noncomputable def Tb : Dw.Spec:=JZ [(0,(2,100))] .val RA Rz (fun a=>Px a) Xd Xc
set_option maxHeartbeats 4000000 in
theorem Aap : JY Tryd.prog 87 Tb:=by
 refine Ki (KI) Tryd.func87 (by decide) AiW AiX (np:=1) (by decide) Wf (fun _=>r) (fun _=>r) (by decide)<|?_
 intro c1
 show TrE (specs []) AfD (Kp [(0,(2,100))] .val [(.t 2)] Xd Xc) ⟨[(0,.optr 8192 0 0 0)],[(8192,some (0,⟨false,true,2,100,[.agg [.sl (c1.list.map eU8),.int .i64 c1.at_]]⟩))],262144⟩ (Px c1)
 refine Kc<|?_
 unfold AfD Px
 refine sQ<|rG<|aS r r<|nI<|xS<|sQ<|rG<|mV r r<|nC r r r<|fA r r<|lO (v:=.int .i64 c1.at_) (z:=.agg [.sl (c1.list.map eU8),.int .i64 c1.at_]) r r r r r r<|mV r r<|nC r r r<|fA r r<|lO (v:=.sl (c1.list.map eU8)) (z:=.agg [.sl (c1.list.map eU8),.int .i64 c1.at_]) r r r r r r<|lS r r<|bN (v:=.bool (decide (c1.at_ < (c1.list.length : Int)))) r r r r r<|aS r r<|Kf (by kernel_rfl)<|xS<|rT<|KG (b:=((decide (c1.at_ < (c1.list.length : Int))),c1)) r ?_ r r ?_ r
 all_goals first|(simp;done)|(simp;omega)|rfl|(simp [JT,JQ];done)

def Aff : Ka:=(.seq (.reg [P 4 (.asg (C 0) none)] false) (.seq (.seq (.reg [M 6 0,P 7 (.call (.c (.clo 87 [])) [(T 6)]),P 8 (.un .not (T 7)),M 9 8,⟨(some 10),(.mv (T 1)),(some ⟨9,false⟩),[]⟩,⟨(some 11),(.bin .lss (T 10) (C 1)),(some ⟨9,false⟩),[]⟩,P 12 (.pick (T 9) (.c (.bool true)) (T 11))] false) (.cond (T 12) (.seq (.reg [P 4 (.asg (C 0) none)] false) .ret) .skip)) (.seq (.reg [M 13 0,⟨(some 14),(.nilck (T 13)),none,[0]⟩,⟨(some 15),(.fldA 0 (T 14)),none,[1]⟩,⟨(some 16),(.ld 1 false (T 15)),none,[2]⟩,M 17 0,⟨(some 18),(.nilck (T 17)),none,[4]⟩,⟨(some 19),(.fldA 1 (T 18)),none,[5]⟩,⟨(some 20),(.ld 1 false (T 19)),none,[6]⟩,⟨(some 21),(.ixA 1 (T 16) (T 20)),none,[3,7]⟩,⟨(some 22),(.ld 1 false (T 21)),none,[8]⟩,⟨(some 23),(.cvt .i64 (T 22)),none,[9]⟩,⟨(some 5),(.asg (T 23) none),none,[10,0,1,2,3,4,5,6,7,8,9,10]⟩] true) (.seq (.reg [M 24 0,P 25 (.nilck (T 24)),P 26 (.fldA 1 (T 25)),P 27 (.ld 1 false (T 26)),P 28 (.bin .add (T 27) (C 1)),P 29 (.nilck (T 24)),P 30 (.fldA 1 (T 29)),⟨none,(.st 1 (T 30) (T 28)),none,[]⟩] false) (.seq (.reg [M 31 5,M 32 1,P 33 (.bin .mul (T 31) (T 32)),P 34 (.bin .quo (T 33) (C 256)),P 4 (.asg (T 34) none)] false) .ret)))))
theorem Aia : (Tryd.f54.body.bind (Kb Tryd.prog Tryd.f54.ntmps)) = some Aff:=by kernel_rfl
theorem Aib : Tryd.f54.results.toList.mapM (Kn Tryd.prog) = some [(.t 4)]:=by kernel_rfl
def RE (a : JK × Int) : List D:=[Kq a.1,.int .i64 a.2]
def RD (ds : List D) : JK × Int:=(LD (ds.getD 0 .top),uI (ds.getD 1 .top))
theorem JU (a : JK × Int) : RD (RE a) = a:=by simp [RD,RE,uI]
def Xg (b : Int × JK) : D:=.int .i64 b.1
def Xf (b : Int × JK) : List D:=[Kq b.2]
noncomputable def Kj : Dw.Spec:=JZ [(0,(2,100))] .val RE RD (fun a=>JV a.1 a.2) Xg Xf
set_option maxHeartbeats 4000000 in
theorem KP : JY Tryd.prog 54 Kj:=by
 refine Ki (Ke (l:=[(87,Tb)]) (by simp [Aap])) Tryd.func54 (by decide) Aia Aib (np:=2) (by decide) JU (fun _=>r) (fun _=>r) (by decide)<|?_
 rintro ⟨c1,n2⟩
 show TrE (specs [(87,Tb)]) Aff (Kp [(0,(2,100))] .val [(.t 4)] Xg Xf) ⟨[(0,.optr 8192 0 0 0),(1,.int .i64 n2)],[(8192,some (0,⟨false,true,2,100,[.agg [.sl (c1.list.map eU8),.int .i64 c1.at_]]⟩))],262144⟩ (JV c1 n2)
 refine Kc<|?_
 unfold Aff JV
 refine sQ<|rG<|aS r r<|nI<|xS<|sC (E:=fun (s : (List Int) × Int) (g : Unit)=>[(0,.optr 8192 0 0 0),(1,.int .i64 n2)]) (O:=fun s g=>[(8192,some (0,⟨false,true,2,100,[.agg [.sl (s.1.map eU8),.int .i64 s.2]]⟩))]) (j:=fun s=>PC n2 s.1 s.2) ?_ ?_
 ·refine sQ<|rG<|mV r r<|bD fun r5 hr5=>cV c1 r r r Wf r r (by simp) r hr5<|uN (w:=.bool (!r5.1)) r r r r trivial<|mV r r<|sP 9 (b:=(!r5.1)) r ?_ ?_
  ·refine oF r<|oF r<|pT r r r r<|nI<|xS<|KT r<|sQ<|rG<|aS r r<|nI<|xS<|rT<|zR<|KG (b:=(0,r5.2)) r ?_ r r ?_ r
   all_goals first|(simp;done)|(simp;omega)|rfl|(simp [JT,JQ];done)
  ·refine mV r r<|bN (v:=.bool (decide (n2 < 1))) r r r r r<|pF r r r r<|nI<|xS<|cD (c:=(decide (n2 < 1))) r ?_ ?_
   ·refine sQ<|rG<|aS r r<|nI<|xS<|rT<|zR<|KG (b:=(0,r5.2)) r ?_ r r ?_ r
    all_goals first|(simp;done)|(simp;omega)|rfl|(simp [JT,JQ];done)
   ·exact sK<|xC (s:=(r5.2.list,r5.2.at_)) () ((hE ⟨rfl,r,trivial⟩ ⟨rfl,trivial⟩))
 ·rintro ⟨c3,c4⟩ ⟨⟩ nn
  try dsimp only
  unfold PC
  refine sQ<|rG<|mV r r<|nC r r r<|fA r r<|lO (v:=.sl (c3.map eU8)) (z:=.agg [.sl (c3.map eU8),.int .i64 c4]) r r r r r r<|mV r r<|nC r r r<|fA r r<|lO (v:=.int .i64 c4) (z:=.agg [.sl (c3.map eU8),.int .i64 c4]) r r r r r r<|bD fun x_x6 hx_x6=>iS (en:=eU8) r r r hx_x6 r<|lF (v:=.int .u8 x_x6) r r r r<|cT r r<|aS r r<|Kf (by kernel_rfl)<|xS<|sQ<|rG<|mV r r<|nC r r r<|fA r r<|lO (v:=.int .i64 c4) (z:=.agg [.sl (c3.map eU8),.int .i64 c4]) r r r r r r<|bN (v:=.int .i64 (IntKind.i64.wrap (c4 + 1))) r r r r r<|nC r r r<|fA r r<|Ty (i:=0) (es':=[.agg [.sl (c3.map eU8),.int .i64 (IntKind.i64.wrap (c4 + 1))]]) r r r r r r r (by first | trivial | (simp; done) | (simp; omega)) r r r r r r<|nI<|xS<|sQ<|rG<|mV r r<|mV r r<|bN (v:=.int .i64 (IntKind.i64.wrap ((IntKind.i64.wrap (x_x6)) * n2))) r r r r r<|bN (v:=.int .i64 (IntKind.i64.wrap ((IntKind.i64.wrap ((IntKind.i64.wrap (x_x6)) * n2)).tdiv 256))) r r r r ⟨rfl,(by decide)⟩<|aS r r<|nI<|xS<|rT<|KG (b:=(IntKind.i64.wrap ((IntKind.i64.wrap ((IntKind.i64.wrap (x_x6)) * n2)).tdiv 256),(JK.mk c3 (IntKind.i64.wrap (c4 + 1))))) r ?_ r r ?_ r
  all_goals first|(simp;done)|(simp;omega)|rfl|(simp [JT,JQ];done)

def AdP : Ka:=(.seq (.reg [P 2 (.new (.agg [(.int .i64 0),(.int .i64 0)]) 2 63)] false) (.seq (.reg [⟨(some 3),(.bldS 1 3 (.int .i64 0) 7 [⟨0,(C 8)⟩,⟨1,(C 4)⟩,⟨2,(C 8)⟩,⟨3,(C 1)⟩,⟨4,(C 2)⟩,⟨5,(C 16)⟩,⟨6,(C 8)⟩]),none,[]⟩,M 4 0,⟨(some 5),(.call (.c (.clo 54 [])) [(T 4),(C 7)]),none,[1]⟩,⟨(some 6),(.ixA 1 (T 3) (T 5)),none,[0,2]⟩,⟨(some 7),(.ld 1 false (T 6)),none,[3]⟩,⟨(some 8),(.bldS 1 3 (.int .i64 0) 8 [⟨0,(C 8)⟩,⟨1,(C 4)⟩,⟨2,(C 1)⟩,⟨3,(C 8)⟩,⟨4,(C 16)⟩,⟨5,(C 2)⟩,⟨6,(C 32)⟩,⟨7,(C 64)⟩]),none,[]⟩,M 9 0,⟨(some 10),(.call (.c (.clo 54 [])) [(T 9),(C 8)]),none,[6,2]⟩,⟨(some 11),(.ixA 1 (T 8) (T 10)),none,[5,7]⟩,⟨(some 12),(.ld 1 false (T 11)),none,[8]⟩,⟨(some 13),(.bld [(.int .i64 0),(.int .i64 0)] [⟨0,⟨1,(T 7)⟩⟩,⟨1,⟨1,(T 12)⟩⟩]),none,[4,9]⟩,⟨none,(.st 2 (T 2) (T 13)),none,[10,7,0,1,2,3,4,5,6,7,8,9,10]⟩] true) .ret))
theorem AgJ : (Tryd.f121.body.bind (Kb Tryd.prog Tryd.f121.ntmps)) = some AdP:=by kernel_rfl
theorem AgK : Tryd.f121.results.toList.mapM (Kn Tryd.prog) = some [(.c 2 2 true)]:=by kernel_rfl
def RG (a : JK) : List D:=[Kq a]
def RF (ds : List D) : JK:=LD (ds.getD 0 .top)
theorem Wh (a : JK) : RF (RG a) = a:=by simp [RF,RG]
def Xi (b : Kr × JK) : D:=JP b.1
def Xh (b : Kr × JK) : List D:=[Kq b.2]
noncomputable def Td : Dw.Spec:=JZ [(0,(2,100))] .val RG RF (fun a=>Of a) Xi Xh
set_option maxHeartbeats 4000000 in
theorem Aar : JY Tryd.prog 121 Td:=by
 refine Ki (Ke (l:=[(54,Kj)]) (by simp [KP])) Tryd.func121 (by decide) AgJ AgK (np:=1) (by decide) Wh (fun _=>r) (fun _=>r) (by decide)<|?_
 intro c1
 show TrE (specs [(54,Kj)]) AdP (Kp [(0,(2,100))] .val [(.c 2 2 true)] Xi Xh) ⟨[(0,.optr 8192 0 0 0)],[(8192,some (0,⟨false,true,2,100,[.agg [.sl (c1.list.map eU8),.int .i64 c1.at_]]⟩))],262144⟩ (Of c1)
 refine Kc<|?_
 unfold AdP Of
 refine sQ<|rG<|nW r<|nI<|xS<|sQ<|rG<|bS ([8,4,8,1,2,16,8] : List Int) JJ r r r (by simp) r r r<|mV r r<|bD fun r2 hr2=>cV (c1,7) r r r JU r r (by simp) r hr2<|cK fun hq=>iO (l:=([8,4,8,1,2,16,8] : List Int)) (en:=JJ) r r r r r hq<|bD fun x_e3 hx_e3=>lO (v:=.int .i64 x_e3) (z:=JJ x_e3) r r r (LR hx_e3) r r<|bS ([8,4,1,8,16,2,32,64] : List Int) JJ r r r (by simp) r r r<|mV r r<|bD fun r4 hr4=>cV (r2.2,8) r r r JU r r (by simp) r hr4<|cK fun hq=>iO (l:=([8,4,1,8,16,2,32,64] : List Int)) (en:=JJ) r r r r r hq<|bD fun x_e5 hx_e5=>lO (v:=.int .i64 x_e5) (z:=JJ x_e5) r r r (LR hx_e5) r r<|bL (cs:=[.int .i64 x_e3,.int .i64 x_e5]) (ps:=[(0,1,.int .i64 x_e3),(1,1,.int .i64 x_e5)]) r r r r<|sV (z':=.agg [.int .i64 x_e3,.int .i64 x_e5]) r r r r r r r r r<|Kf (by kernel_rfl)<|xS<|rT<|KG (b:=((Kr.mk x_e3 x_e5),r4.2)) r ?_ r r ?_ r
 all_goals first|(simp;done)|(simp;omega)|rfl|(simp [JT,JQ];done)

def AdJ : Ka:=(.seq (.reg [⟨(some 4),(.asg (.c .nils) (some ⟨2,63⟩)),none,[]⟩] false) (.seq (.reg [⟨(some 5),(.asg (.c .nils) (some ⟨2,63⟩)),none,[]⟩] false) (.seq (.seq (.reg [M 7 0,M 8 1,P 9 (.bin .add (T 8) (C 1)),P 10 (.call (.c (.clo 54 [])) [(T 7),(T 9)]),P 6 (.asg (T 10) none)] false) (.block 0 (.loop (.seq (.seq (.reg [M 11 6,P 12 (.bin .gtr (T 11) (C 0))] false) (.cond (T 12) .skip (.exit 0))) (.seq (.block 1 (.reg [M 15 5,M 16 0,P 17 (.call (.c (.clo 121 [])) [(T 16)]),⟨(some 18),(.bldS 2 63 (.agg [(.int .i64 0),(.int .i64 0)]) 1 [⟨0,(T 17)⟩]),none,[]⟩,P 19 (.app 2 63 16 (T 15) (T 18)),⟨(some 5),(.asg (T 19) (some ⟨2,63⟩)),none,[]⟩] false)) (.reg [M 13 6,P 14 (.bin .sub (T 13) (C 1)),P 6 (.asg (T 14) none)] false)))))) (.seq (.reg [M 20 5,⟨(some 4),(.asg (T 20) (some ⟨2,63⟩)),none,[]⟩] false) .ret))))
theorem Agx : (Tryd.f109.body.bind (Kb Tryd.prog Tryd.f109.ntmps)) = some AdJ:=by kernel_rfl
theorem Agy : Tryd.f109.results.toList.mapM (Kn Tryd.prog) = some [(.t 4)]:=by kernel_rfl
def QN (a : JK × Int) : List D:=[Kq a.1,.int .i64 a.2]
def QM (ds : List D) : JK × Int:=(LD (ds.getD 0 .top),uI (ds.getD 1 .top))
theorem Vh (a : JK × Int) : QM (QN a) = a:=by simp [QM,QN,uI]
def Wj (b : (List Kr) × JK) : D:=.sl (b.1.map JP)
def Wi (b : (List Kr) × JK) : List D:=[Kq b.2]
noncomputable def Si : Dw.Spec:=JZ [(0,(2,100))] (.row 2 63) QN QM (fun a=>NA a.1 a.2) Wj Wi
set_option maxHeartbeats 4000000 in
theorem Aan : JY Tryd.prog 109 Si:=by
 refine Ki (Ke (l:=[(54,Kj),(121,Td)]) (by simp [KP,Aar])) Tryd.func109 (by decide) Agx Agy (np:=2) (by decide) Vh (fun _=>r) (fun _=>r) (by decide)<|?_
 rintro ⟨c1,most2⟩
 show TrE (specs [(54,Kj),(121,Td)]) AdJ (Kp [(0,(2,100))] (.row 2 63) [(.t 4)] Wj Wi) ⟨[(0,.optr 8192 0 0 0),(1,.int .i64 most2)],[(8192,some (0,⟨false,true,2,100,[.agg [.sl (c1.list.map eU8),.int .i64 c1.at_]]⟩))],262144⟩ (NA c1 most2)
 refine Kc<|?_
 unfold AdJ NA
 refine sQ<|rG<|aN (α:=Kr) r JP r<|nI<|xS<|sQ<|rG<|aN (α:=Kr) r JP r<|nI<|xS<|sQ<|sQ<|rG<|mV r r<|mV r r<|bN (v:=.int .i64 (IntKind.i64.wrap (most2 + 1))) r r r r r<|bD fun r3 hr3=>cV (c1,IntKind.i64.wrap (most2 + 1)) r r r JU r r (by simp) r hr3<|aS r r<|nI<|xS<|bK<|lP (E:=fun (s : (List Int) × Int × (List Kr) × Int) (g : Nat)=>[(0,.optr 8192 0 0 0),(5,.osl 5 g 0 s.2.2.1.length),(6,.int .i64 s.2.2.2)]) (O:=fun s g=>[(5,some (g,⟨false,false,2,63,s.2.2.1.map JP⟩)),(8192,some (0,⟨false,true,2,100,[.agg [.sl (s.1.map eU8),.int .i64 s.2.1]]⟩))]) (body:=fun s=>Pc s.1 s.2.1 s.2.2.1 s.2.2.2) (s:=(r3.2.list,r3.2.at_,([] : List Kr),r3.1)) _ ((hE ⟨rfl,r,r,trivial⟩ ⟨rfl,r,trivial⟩))<|?_
 rintro ⟨c4,c5,l6,n7⟩ v5x1 nn
 try dsimp only
 unfold Pc
 refine sQ<|sQ<|rG<|mV r r<|bN (v:=.bool (decide (n7 > 0))) r r r r r<|nI<|xS<|cD (c:=(decide (n7 > 0))) r ?_ ?_
 ·exact sK<|xS<|sQ<|bK<|rG<|mV r r<|mV r r<|bD fun r8 hr8=>cV (JK.mk c4 c5) r r r Wh r r (by simp) r hr8<|bS ([r8.1] : List Kr) JP r r r (by simp) r r r<|cK fun hq=>aP (l6) (([r8.1] : List Kr)) JP r r r r r r r (by simp) (Ko _ _ r) r r (by simp) (JS _ _ r) (fun _=>r) r hq<|aO (l:=l6 ++ ([r8.1] : List Kr)) (en:=JP) r r r r<|nI<|bM<|xS<|rG<|mV r r<|bN (v:=.int .i64 (IntKind.i64.wrap (n7 - 1))) r r r r r<|aS r r<|nI<|xL (s:=(r8.2.list,r8.2.at_,l6 ++ ([r8.1] : List Kr),IntKind.i64.wrap (n7 - 1))) _ ((hE ⟨rfl,r,r,trivial⟩ ⟨rfl,r,trivial⟩))
 ·refine eT<|xE<|lE<|bH<|xS<|sQ<|rG<|mV r r<|aO (l:=l6) (en:=JP) r r r r<|nI<|xS<|rT<|Kt (b:=(l6,(JK.mk c4 c5))) r ?_ r r ?_ r ?_ (congrArg D.sl (JS _ _ r)) r
  all_goals first|(simp;done)|(simp;omega)|rfl|(simp [JT,JQ];done)

def AdQ : Ka:=(.seq (.reg [P 4 (.box (T 1) 3 27),P 6 (.asg (C 0) none)] false) (.seq (.reg [⟨(some 7),(.asg (.c .nils) (some ⟨1,3⟩)),none,[]⟩] false) (.seq (.seq (.reg [P 8 (.asg (C 0) none)] false) (.block 0 (.loop (.seq (.seq (.reg [M 9 8,P 10 (.fldA 1 (T 4)),P 11 (.ld 1 false (T 10)),P 12 (.len false (T 11)),P 13 (.bin .lss (T 9) (T 12))] false) (.cond (T 13) .skip (.exit 0))) (.seq (.block 1 (.seq (.reg [P 16 (.fldA 1 (T 4)),⟨(some 17),(.ld 1 false (T 16)),none,[0]⟩,M 18 8,⟨(some 19),(.ixA 2 (T 17) (T 18)),none,[1,2]⟩,⟨(some 20),(.fldA 0 (T 19)),none,[3]⟩,⟨(some 21),(.ld 1 false (T 20)),none,[4]⟩,P 22 (.fldA 1 (T 4)),⟨(some 23),(.ld 1 false (T 22)),none,[6]⟩,M 24 2,⟨(some 25),(.ixA 2 (T 23) (T 24)),none,[7,8]⟩,⟨(some 26),(.fldA 0 (T 25)),none,[9]⟩,⟨(some 27),(.ld 1 false (T 26)),none,[10]⟩,⟨(some 28),(.bin .eql (T 21) (T 27)),none,[5,11]⟩] true) (.cond (T 28) (.reg [M 29 7,M 30 8,⟨(some 31),(.bldS 1 3 (.int .i64 0) 1 [⟨0,(T 30)⟩]),none,[]⟩,P 32 (.app 1 3 8 (T 29) (T 31)),⟨(some 7),(.asg (T 32) (some ⟨1,3⟩)),none,[]⟩] false) .skip))) (.reg [M 14 8,P 15 (.bin .add (T 14) (C 1)),P 8 (.asg (T 15) none)] false)))))) (.seq (.reg [M 33 7,M 34 0,M 35 7,P 36 (.len false (T 35)),P 37 (.call (.c (.clo 54 [])) [(T 34),(T 36)]),P 38 (.ixA 1 (T 33) (T 37)),P 39 (.ld 1 false (T 38)),P 6 (.asg (T 39) none)] false) .ret))))
theorem AgL : (Tryd.f122.body.bind (Kb Tryd.prog Tryd.f122.ntmps)) = some AdQ:=by kernel_rfl
theorem AgM : Tryd.f122.results.toList.mapM (Kn Tryd.prog) = some [(.t 6)]:=by kernel_rfl
def RL (a : JK × JO × Int) : List D:=[Kq a.1,Kv a.2.1,.int .i64 a.2.2]
def RK (ds : List D) : JK × JO × Int:=(LD (ds.getD 0 .top),LA (ds.getD 1 .top),uI (ds.getD 2 .top))
theorem Wn (a : JK × JO × Int) : RK (RL a) = a:=by simp [RK,RL,uI]
def Xo (b : Int × JK) : D:=.int .i64 b.1
def Xn (b : Int × JK) : List D:=[Kq b.2]
noncomputable def Tf : Dw.Spec:=JZ [(0,(2,100))] .val RL RK (fun a=>Oh a.1 a.2.1 a.2.2) Xo Xn
set_option maxHeartbeats 4000000 in
theorem Aat : JY Tryd.prog 122 Tf:=by
 refine Ki (Ke (l:=[(54,Kj)]) (by simp [KP])) Tryd.func122 (by decide) AgL AgM (np:=3) (by decide) Wn (fun _=>r) (fun _=>r) (by decide)<|?_
 rintro ⟨c1,f2,s3⟩
 show TrE (specs [(54,Kj)]) AdQ (Kp [(0,(2,100))] .val [(.t 6)] Xo Xn) ⟨[(0,.optr 8192 0 0 0),(1,.agg [.int .i64 f2.Params,.sl (f2.Slots.map JP),.sl (f2.Code.map JM)]),(2,.int .i64 s3)],[(8192,some (0,⟨false,true,2,100,[.agg [.sl (c1.list.map eU8),.int .i64 c1.at_]]⟩))],262144⟩ (Oh c1 f2 s3)
 refine Kc<|?_
 unfold AdQ Oh
 refine sQ<|rG<|bX r r r r r<|aS r r<|nI<|xS<|sQ<|rG<|aN (α:=Int) r JJ r<|nI<|xS<|sQ<|sQ<|rG<|aS r r<|nI<|xS<|bK<|lP (E:=fun (s : (List Int) × Int) (g : Nat × Nat)=>[(0,.optr 8192 0 0 0),(2,.int .i64 s3),(4,.optr 4 g.1 0 0),(7,.osl 7 g.2 0 s.1.length),(8,.int .i64 s.2)]) (O:=fun s g=>[(4,some (g.1,⟨false,true,3,27,[.agg [.int .i64 f2.Params,.sl (f2.Slots.map JP),.sl (f2.Code.map JM)]]⟩)),(7,some (g.2,⟨false,false,1,3,s.1.map JJ⟩)),(8192,some (0,⟨false,true,2,100,[.agg [.sl (c1.list.map eU8),.int .i64 c1.at_]]⟩))]) (body:=fun s=>PE f2 s3 c1 s.1 s.2) (s:=(([] : List Int),0)) (_,_) ((hE ⟨rfl,r,r,r,r,trivial⟩ ⟨rfl,r,r,trivial⟩))<|?_
 rintro ⟨l4,k5⟩ ⟨v4x1,v7x1⟩ nn
 try dsimp only
 unfold PE
 refine sQ<|sQ<|rG<|mV r r<|fA r r<|lO (v:=.sl (f2.Slots.map JP)) (z:=.agg [.int .i64 f2.Params,.sl (f2.Slots.map JP),.sl (f2.Code.map JM)]) r r r r r r<|lS r r<|bN (v:=.bool (decide (k5 < (f2.Slots.length : Int)))) r r r r r<|nI<|xS<|cD (c:=(decide (k5 < (f2.Slots.length : Int)))) r ?_ ?_
 ·refine sK<|xS<|sQ<|bK<|sQ<|rG<|fA r r<|lO (v:=.sl (f2.Slots.map JP)) (z:=.agg [.int .i64 f2.Params,.sl (f2.Slots.map JP),.sl (f2.Code.map JM)]) r r r r r r<|mV r r<|bD fun x_x6 hx_x6=>iS (en:=JP) r r r hx_x6 r<|fF r r<|lF (v:=.int .i64 x_x6.Size) r r r r<|fA r r<|lO (v:=.sl (f2.Slots.map JP)) (z:=.agg [.int .i64 f2.Params,.sl (f2.Slots.map JP),.sl (f2.Code.map JM)]) r r r r r r<|mV r r<|bD fun x_x7 hx_x7=>iS (en:=JP) r r r hx_x7 r<|fF r r<|lF (v:=.int .i64 x_x7.Size) r r r r<|bN (v:=.bool (x_x6.Size == x_x7.Size)) r r r r r<|Kf (by kernel_rfl)<|xS<|cD (c:=(x_x6.Size == x_x7.Size)) r ?_ ?_
  ·exact rG<|mV r r<|mV r r<|bS ([k5] : List Int) JJ r r r (by simp) r r r<|cK fun hq=>aP (l4) (([k5] : List Int)) JJ r r r r r r r (by simp) (Ko _ _ r) r r (by simp) (JS _ _ r) (fun _=>r) r hq<|aO (l:=l4 ++ ([k5] : List Int)) (en:=JJ) r r r r<|nI<|bM<|xS<|rG<|mV r r<|bN (v:=.int .i64 (IntKind.i64.wrap (k5 + 1))) r r r r r<|aS r r<|nI<|xL (s:=(l4 ++ ([k5] : List Int),IntKind.i64.wrap (k5 + 1))) (_,_) ((hE ⟨rfl,r,r,r,r,trivial⟩ ⟨rfl,r,r,trivial⟩))
  ·exact sK<|bM<|xS<|rG<|mV r r<|bN (v:=.int .i64 (IntKind.i64.wrap (k5 + 1))) r r r r r<|aS r r<|nI<|xL (s:=(l4,IntKind.i64.wrap (k5 + 1))) (_,_) ((hE ⟨rfl,r,r,r,r,trivial⟩ ⟨rfl,r,r,trivial⟩))
 ·refine eT<|xE<|lE<|bH<|xS<|sQ<|rG<|mV r r<|mV r r<|mV r r<|lW r r<|bD fun r8 hr8=>cV (c1,(l4.length : Int)) r r r JU r r (by simp) r hr8<|cK fun hq=>iO (l:=l4) (en:=JJ) r r r r r hq<|bD fun l_e9 hl_e9=>lO (v:=.int .i64 l_e9) (z:=JJ l_e9) r r r (LR hl_e9) r r<|aS r r<|nI<|xS<|rT<|KG (b:=(l_e9,r8.2)) r ?_ r r ?_ r
  all_goals first|(simp;done)|(simp;omega)|rfl|(simp [JT,JQ];done)

def AdL : Ka:=(.seq (.reg [P 2 (.asg (.c (.int .u64 0)) none)] false) (.seq (.seq (.reg [M 3 0,P 4 (.call (.c (.clo 54 [])) [(T 3),(C 6)])] false) (.block 0 (.seq (.reg [P 6 (.bin .eql (T 4) (C 0)),P 5 (.asg (T 6) none)] false) (.cond (T 5) (.seq (.reg [M 7 0,P 8 (.call (.c (.clo 54 [])) [(T 7),(C 3)]),P 9 (.cvt .u64 (T 8)),P 10 (.bin .sub (.c (.int .u64 18446744073709551615)) (T 9)),P 2 (.asg (T 10) none)] false) .ret) (.seq (.reg [P 12 (.bin .eql (T 4) (C 1)),P 11 (.asg (T 12) none)] false) (.cond (T 11) (.seq (.reg [M 13 0,P 14 (.call (.c (.clo 54 [])) [(T 13),(C 64)]),P 15 (.bin .shl (.c (.int .u64 1)) (T 14)),P 2 (.asg (T 15) none)] false) .ret) (.seq (.reg [P 17 (.bin .eql (T 4) (C 2)),P 16 (.asg (T 17) none)] false) (.cond (T 16) (.seq (.reg [P 2 (.asg (.c (.int .u64 0)) none)] false) .ret) .skip)))))))) (.seq (.reg [M 18 0,P 19 (.call (.c (.clo 54 [])) [(T 18),(C 256)]),P 20 (.cvt .u64 (T 19)),P 2 (.asg (T 20) none)] false) .ret)))
theorem AgB : (Tryd.f111.body.bind (Kb Tryd.prog Tryd.f111.ntmps)) = some AdL:=by kernel_rfl
theorem AgC : Tryd.f111.results.toList.mapM (Kn Tryd.prog) = some [(.t 2)]:=by kernel_rfl
def RI (a : JK) : List D:=[Kq a]
def RH (ds : List D) : JK:=LD (ds.getD 0 .top)
theorem Sj (a : JK) : RH (RI a) = a:=by simp [RH,RI]
def Xk (b : Int × JK) : D:=.int .u64 b.1
def Xj (b : Int × JK) : List D:=[Kq b.2]
noncomputable def OD : Dw.Spec:=JZ [(0,(2,100))] .val RI RH (fun a=>Na a) Xk Xj
set_option maxHeartbeats 4000000 in
theorem Wl : JY Tryd.prog 111 OD:=by
 refine Ki (Ke (l:=[(54,Kj)]) (by simp [KP])) Tryd.func111 (by decide) AgB AgC (np:=1) (by decide) Sj (fun _=>r) (fun _=>r) (by decide)<|?_
 intro c1
 show TrE (specs [(54,Kj)]) AdL (Kp [(0,(2,100))] .val [(.t 2)] Xk Xj) ⟨[(0,.optr 8192 0 0 0)],[(8192,some (0,⟨false,true,2,100,[.agg [.sl (c1.list.map eU8),.int .i64 c1.at_]]⟩))],262144⟩ (Na c1)
 refine Kc<|?_
 unfold AdL Na
 refine sQ<|rG<|aS r r<|nI<|xS<|sQ<|sQ<|rG<|mV r r<|bD fun r2 hr2=>cV (c1,6) r r r JU r r (by simp) r hr2<|nI<|xS<|bK<|sQ<|rG<|bN (v:=.bool (r2.1 == 0)) r r r r r<|aS r r<|nI<|xS<|cD (c:=(r2.1 == 0)) r ?_ ?_
 ·refine sQ<|rG<|mV r r<|bD fun r3 hr3=>cV (r2.2,3) r r r JU r r (by simp) r hr3<|cT r r<|bN (v:=.int .u64 (IntKind.u64.wrap (18446744073709551615 - (IntKind.u64.wrap (r3.1))))) r r r r r<|aS r r<|nI<|xS<|rT<|bR<|xR<|KG (b:=(IntKind.u64.wrap (18446744073709551615 - (IntKind.u64.wrap (r3.1))),r3.2)) r ?_ r r ?_ r
  all_goals first|(simp;done)|(simp;omega)|rfl|(simp [JT,JQ];done)
 ·refine sQ<|rG<|bN (v:=.bool (r2.1 == 1)) r r r r r<|aS r r<|nI<|xS<|cD (c:=(r2.1 == 1)) r ?_ ?_
  ·refine sQ<|rG<|mV r r<|bD fun r4 hr4=>cV (r2.2,64) r r r JU r r (by simp) r hr4<|cK fun hq=>bN (v:=.int .u64 (IntKind.u64.wrap (1 * 2 ^ (Nat.min r4.1.toNat IntKind.u64.bits)))) r r r r hq<|aS r r<|nI<|xS<|rT<|bR<|xR<|KG (b:=(IntKind.u64.wrap (1 * 2 ^ (Nat.min r4.1.toNat IntKind.u64.bits)),r4.2)) r ?_ r r ?_ r
   all_goals first|(simp;done)|(simp;omega)|rfl|(simp [JT,JQ];done)
  ·refine sQ<|rG<|bN (v:=.bool (r2.1 == 2)) r r r r r<|aS r r<|nI<|xS<|cD (c:=(r2.1 == 2)) r ?_ ?_
   ·refine sQ<|rG<|aS r r<|nI<|xS<|rT<|bR<|xR<|KG (b:=(0,r2.2)) r ?_ r r ?_ r
    all_goals first|(simp;done)|(simp;omega)|rfl|(simp [JT,JQ];done)
   ·refine sK<|bM<|xS<|sQ<|rG<|mV r r<|bD fun r5 hr5=>cV (r2.2,256) r r r JU r r (by simp) r hr5<|cT r r<|aS r r<|nI<|xS<|rT<|KG (b:=(IntKind.u64.wrap (r5.1),r5.2)) r ?_ r r ?_ r
    all_goals first|(simp;done)|(simp;omega)|rfl|(simp [JT,JQ];done)

def AdK : Ka:=(.seq (.reg [P 5 (.box (T 1) 3 27),⟨(some 8),(.asg (.c .nils) (some ⟨5,66⟩)),none,[]⟩] false) (.seq (.reg [M 16 0,P 17 (.call (.c (.clo 54 [])) [(T 16),(C 4)]),P 9 (.asg (T 17) none)] false) (.seq (.reg [P 18 (.fldA 1 (T 5)),P 19 (.ld 1 false (T 18)),P 20 (.len false (T 19)),P 10 (.asg (T 20) none)] false) (.seq (.reg [M 21 0,P 22 (.call (.c (.clo 54 [])) [(T 21),(C 20)]),P 11 (.asg (T 22) none)] false) (.seq (.block 0 (.seq (.reg [M 24 11,P 25 (.bin .lss (T 24) (C 3)),M 26 25,⟨(some 27),(.mv (T 10)),(some ⟨26,true⟩),[]⟩,⟨(some 28),(.bin .gtr (T 27) (C 0)),(some ⟨26,true⟩),[]⟩,P 29 (.pick (T 26) (T 28) (.c (.bool false))),P 23 (.asg (T 29) none)] false) (.cond (T 23) (.seq (.reg [M 30 0,M 31 10,P 32 (.call (.c (.clo 54 [])) [(T 30),(T 31)]),M 33 9,⟨(some 34),(.bld [(.int .i64 0),(.int .i64 0),(.int .i64 0),(.int .i64 0),(.int .u64 0)] [⟨0,⟨1,(C 16)⟩⟩,⟨1,⟨1,(T 32)⟩⟩,⟨2,⟨1,(T 33)⟩⟩]),none,[]⟩,⟨(some 35),(.bldS 5 66 (.agg [(.int .i64 0),(.int .i64 0),(.int .i64 0),(.int .i64 0),(.int .u64 0)]) 1 [⟨0,(T 34)⟩]),none,[]⟩,⟨(some 8),(.asg (T 35) (some ⟨5,66⟩)),none,[]⟩] false) .ret) (.seq (.reg [M 37 11,P 38 (.bin .lss (T 37) (C 6)),M 39 38,⟨(some 40),(.mv (T 10)),(some ⟨39,true⟩),[]⟩,⟨(some 41),(.bin .gtr (T 40) (C 0)),(some ⟨39,true⟩),[]⟩,P 42 (.pick (T 39) (T 41) (.c (.bool false))),P 36 (.asg (T 42) none)] false) (.cond (T 36) (.seq (.reg [M 43 9,M 44 0,M 45 10,P 46 (.call (.c (.clo 54 [])) [(T 44),(T 45)]),⟨(some 47),(.bld [(.int .i64 0),(.int .i64 0),(.int .i64 0),(.int .i64 0),(.int .u64 0)] [⟨0,⟨1,(C 15)⟩⟩,⟨1,⟨1,(T 43)⟩⟩,⟨2,⟨1,(T 46)⟩⟩]),none,[]⟩,⟨(some 48),(.bldS 5 66 (.agg [(.int .i64 0),(.int .i64 0),(.int .i64 0),(.int .i64 0),(.int .u64 0)]) 1 [⟨0,(T 47)⟩]),none,[]⟩,⟨(some 8),(.asg (T 48) (some ⟨5,66⟩)),none,[]⟩] false) .ret) (.seq (.reg [M 50 11,P 51 (.bin .lss (T 50) (C 9)),M 52 51,⟨(some 53),(.mv (T 10)),(some ⟨52,true⟩),[]⟩,⟨(some 54),(.bin .gtr (T 53) (C 0)),(some ⟨52,true⟩),[]⟩,P 55 (.pick (T 52) (T 54) (.c (.bool false))),P 49 (.asg (T 55) none)] false) (.cond (T 49) (.seq (.reg [M 56 0,M 57 10,P 58 (.call (.c (.clo 54 [])) [(T 56),(T 57)]),P 12 (.asg (T 58) none)] false) (.seq (.reg [M 59 0,P 60 (.ld 3 true (T 5)),M 61 12,P 62 (.call (.c (.clo 122 [])) [(T 59),(T 60),(T 61)]),M 63 12,⟨(some 64),(.bld [(.int .i64 0),(.int .i64 0),(.int .i64 0),(.int .i64 0),(.int .u64 0)] [⟨0,⟨1,(C 17)⟩⟩,⟨1,⟨1,(T 62)⟩⟩,⟨2,⟨1,(T 63)⟩⟩]),none,[]⟩,⟨(some 65),(.bldS 5 66 (.agg [(.int .i64 0),(.int .i64 0),(.int .i64 0),(.int .i64 0),(.int .u64 0)]) 1 [⟨0,(T 64)⟩]),none,[]⟩,⟨(some 8),(.asg (T 65) (some ⟨5,66⟩)),none,[]⟩] false) .ret)) (.seq (.reg [M 67 11,P 68 (.bin .lss (T 67) (C 11)),P 66 (.asg (T 68) none)] false) (.cond (T 66) (.seq (.reg [M 69 9,M 70 0,P 71 (.call (.c (.clo 111 [])) [(T 70)]),⟨(some 72),(.bld [(.int .i64 0),(.int .i64 0),(.int .i64 0),(.int .i64 0),(.int .u64 0)] [⟨0,⟨1,(C 0)⟩⟩,⟨1,⟨1,(T 69)⟩⟩,⟨4,⟨1,(T 71)⟩⟩]),none,[]⟩,⟨(some 73),(.bldS 5 66 (.agg [(.int .i64 0),(.int .i64 0),(.int .i64 0),(.int .i64 0),(.int .u64 0)]) 1 [⟨0,(T 72)⟩]),none,[]⟩,⟨(some 8),(.asg (T 73) (some ⟨5,66⟩)),none,[]⟩] false) .ret) (.seq (.reg [M 75 11,P 76 (.bin .lss (T 75) (C 13)),P 74 (.asg (T 76) none)] false) (.cond (T 74) (.seq (.reg [M 77 0,P 78 (.call (.c (.clo 54 [])) [(T 77),(C 10)]),P 79 (.bin .add (C 2) (T 78)),M 80 9,M 81 0,P 82 (.call (.c (.clo 54 [])) [(T 81),(C 4)]),M 83 0,P 84 (.call (.c (.clo 54 [])) [(T 83),(C 8)]),⟨(some 85),(.bld [(.int .i64 0),(.int .i64 0),(.int .i64 0),(.int .i64 0),(.int .u64 0)] [⟨0,⟨1,(T 79)⟩⟩,⟨1,⟨1,(T 80)⟩⟩,⟨2,⟨1,(T 82)⟩⟩,⟨3,⟨1,(T 84)⟩⟩]),none,[]⟩,⟨(some 86),(.bldS 5 66 (.agg [(.int .i64 0),(.int .i64 0),(.int .i64 0),(.int .i64 0),(.int .u64 0)]) 1 [⟨0,(T 85)⟩]),none,[]⟩,⟨(some 8),(.asg (T 86) (some ⟨5,66⟩)),none,[]⟩] false) .ret) (.seq (.reg [M 88 11,P 89 (.bin .lss (T 88) (C 15)),P 87 (.asg (T 89) none)] false) (.cond (T 87) (.seq (.reg [M 90 9,⟨(some 91),(.bld [(.int .i64 0),(.int .i64 0),(.int .i64 0),(.int .i64 0),(.int .u64 0)] [⟨0,⟨1,(C 14)⟩⟩,⟨1,⟨1,(T 90)⟩⟩]),none,[]⟩,⟨(some 92),(.bldS 5 66 (.agg [(.int .i64 0),(.int .i64 0),(.int .i64 0),(.int .i64 0),(.int .u64 0)]) 1 [⟨0,(T 91)⟩]),none,[]⟩,⟨(some 8),(.asg (T 92) (some ⟨5,66⟩)),none,[]⟩] false) .ret) (.seq (.reg [M 94 11,P 95 (.bin .eql (T 94) (C 15)),P 93 (.asg (T 95) none)] false) (.cond (T 93) (.seq (.reg [⟨(some 96),(.bldS 1 3 (.int .i64 0) 3 [⟨0,(C 13)⟩,⟨1,(C 12)⟩,⟨2,(C 1)⟩]),none,[]⟩,M 97 0,P 98 (.call (.c (.clo 54 [])) [(T 97),(C 3)]),P 99 (.ixA 1 (T 96) (T 98)),P 100 (.ld 1 false (T 99)),M 101 9,⟨(some 102),(.bld [(.int .i64 0),(.int .i64 0),(.int .i64 0),(.int .i64 0),(.int .u64 0)] [⟨0,⟨1,(T 100)⟩⟩,⟨1,⟨1,(T 101)⟩⟩]),none,[]⟩,⟨(some 103),(.bldS 5 66 (.agg [(.int .i64 0),(.int .i64 0),(.int .i64 0),(.int .i64 0),(.int .u64 0)]) 1 [⟨0,(T 102)⟩]),none,[]⟩,⟨(some 8),(.asg (T 103) (some ⟨5,66⟩)),none,[]⟩] false) .ret) (.seq (.reg [M 105 11,P 106 (.bin .eql (T 105) (C 16)),M 107 106,⟨(some 108),(.fldA 0 (T 5)),(some ⟨107,true⟩),[]⟩,⟨(some 109),(.ld 1 false (T 108)),(some ⟨107,true⟩),[]⟩,⟨(some 110),(.bin .gtr (T 109) (C 0)),(some ⟨107,true⟩),[]⟩,P 111 (.pick (T 107) (T 110) (.c (.bool false))),P 104 (.asg (T 111) none)] false) (.cond (T 104) (.seq (.reg [M 112 9,M 113 0,P 114 (.fldA 0 (T 5)),P 115 (.ld 1 false (T 114)),P 116 (.call (.c (.clo 54 [])) [(T 113),(T 115)]),⟨(some 117),(.bld [(.int .i64 0),(.int .i64 0),(.int .i64 0),(.int .i64 0),(.int .u64 0)] [⟨0,⟨1,(C 19)⟩⟩,⟨1,⟨1,(T 112)⟩⟩,⟨2,⟨1,(T 116)⟩⟩]),none,[]⟩,⟨(some 118),(.bldS 5 66 (.agg [(.int .i64 0),(.int .i64 0),(.int .i64 0),(.int .i64 0),(.int .u64 0)]) 1 [⟨0,(T 117)⟩]),none,[]⟩,⟨(some 8),(.asg (T 118) (some ⟨5,66⟩)),none,[]⟩] false) .ret) (.seq (.reg [M 120 11,P 121 (.bin .geq (T 120) (C 17)),M 122 121,⟨(some 123),(.mv (T 2)),(some ⟨122,true⟩),[]⟩,⟨(some 124),(.bin .add (T 123) (C 1)),(some ⟨122,true⟩),[]⟩,⟨(some 125),(.mv (T 3)),(some ⟨122,true⟩),[]⟩,⟨(some 126),(.len false (T 125)),(some ⟨122,true⟩),[]⟩,⟨(some 127),(.bin .lss (T 124) (T 126)),(some ⟨122,true⟩),[]⟩,P 128 (.pick (T 122) (T 127) (.c (.bool false))),P 119 (.asg (T 128) none)] false) (.cond (T 119) (.seq (.reg [M 129 2,P 130 (.bin .add (T 129) (C 1)),M 131 0,M 132 3,P 133 (.len false (T 132)),M 134 2,P 135 (.bin .sub (T 133) (T 134)),P 136 (.bin .sub (T 135) (C 1)),P 137 (.call (.c (.clo 54 [])) [(T 131),(T 136)]),P 138 (.bin .add (T 130) (T 137)),P 13 (.asg (T 138) none)] false) (.seq (.reg [⟨(some 14),(.asg (.c .nils) (some ⟨5,66⟩)),none,[]⟩] false) (.seq (.seq (.reg [P 15 (.asg (C 0) none)] false) (.block 1 (.loop (.seq (.seq (.reg [M 139 15,M 140 3,M 141 13,P 142 (.ixA 1 (T 140) (T 141)),P 143 (.ld 1 false (T 142)),P 144 (.bin .lss (T 139) (T 143))] false) (.cond (T 144) .skip (.exit 1))) (.seq (.block 2 (.seq (.reg [M 147 0,P 148 (.call (.c (.clo 54 [])) [(T 147),(C 8)]),P 149 (.bin .lss (T 148) (C 7))] false) (.cond (T 149) (.reg [M 150 14,M 151 15,M 152 0,P 153 (.call (.c (.clo 54 [])) [(T 152),(C 4)]),⟨(some 154),(.bld [(.int .i64 0),(.int .i64 0),(.int .i64 0),(.int .i64 0),(.int .u64 0)] [⟨0,⟨1,(C 18)⟩⟩,⟨1,⟨1,(T 151)⟩⟩,⟨2,⟨1,(T 153)⟩⟩]),none,[]⟩,⟨(some 155),(.bldS 5 66 (.agg [(.int .i64 0),(.int .i64 0),(.int .i64 0),(.int .i64 0),(.int .u64 0)]) 1 [⟨0,(T 154)⟩]),none,[]⟩,P 156 (.app 5 66 40 (T 150) (T 155)),⟨(some 14),(.asg (T 156) (some ⟨5,66⟩)),none,[]⟩] false) .skip))) (.reg [M 145 15,P 146 (.bin .add (T 145) (C 1)),P 15 (.asg (T 146) none)] false)))))) (.seq (.reg [M 157 14,M 158 13,⟨(some 159),(.bld [(.int .i64 0),(.int .i64 0),(.int .i64 0),(.int .i64 0),(.int .u64 0)] [⟨0,⟨1,(C 22)⟩⟩,⟨1,⟨1,(T 158)⟩⟩]),none,[]⟩,⟨(some 160),(.bldS 5 66 (.agg [(.int .i64 0),(.int .i64 0),(.int .i64 0),(.int .i64 0),(.int .u64 0)]) 1 [⟨0,(T 159)⟩]),none,[]⟩,P 161 (.app 5 66 40 (T 157) (T 160)),⟨(some 8),(.asg (T 161) (some ⟨5,66⟩)),none,[]⟩] false) .ret)))) .skip))))))))))))))))))) (.seq (.reg [M 162 9,⟨(some 163),(.bld [(.int .i64 0),(.int .i64 0),(.int .i64 0),(.int .i64 0),(.int .u64 0)] [⟨0,⟨1,(C 14)⟩⟩,⟨1,⟨1,(T 162)⟩⟩]),none,[]⟩,⟨(some 164),(.bldS 5 66 (.agg [(.int .i64 0),(.int .i64 0),(.int .i64 0),(.int .i64 0),(.int .u64 0)]) 1 [⟨0,(T 163)⟩]),none,[]⟩,⟨(some 8),(.asg (T 164) (some ⟨5,66⟩)),none,[]⟩] false) .ret))))))
theorem Agz : (Tryd.f110.body.bind (Kb Tryd.prog Tryd.f110.ntmps)) = some AdK:=by kernel_rfl
theorem AgA : Tryd.f110.results.toList.mapM (Kn Tryd.prog) = some [(.t 8)]:=by kernel_rfl
def Pd (a : JK × JO × Int × (List Int)) : List D:=[Kq a.1,Kv a.2.1,.int .i64 a.2.2.1,.sl (a.2.2.2.map JJ)]
def RJ (ds : List D) : JK × JO × Int × (List Int):=(LD (ds.getD 0 .top),LA (ds.getD 1 .top),uI (ds.getD 2 .top),(uL uI) (ds.getD 3 .top))
theorem Wm (a : JK × JO × Int × (List Int)) : RJ (Pd a) = a:=by simp [RJ,Pd,uI,Lw (u:=uI) (en:=JJ) (fun _=>rfl)]
def Xm (b : (List JL) × JK) : D:=.sl (b.1.map JM)
def Xl (b : (List JL) × JK) : List D:=[Kq b.2]
noncomputable def Te : Dw.Spec:=JZ [(0,(2,100))] (.row 5 66) Pd RJ (fun a=>Og a.1 a.2.1 a.2.2.1 a.2.2.2) Xm Xl
set_option maxHeartbeats 4000000 in
theorem Aas : JY Tryd.prog 110 Te:=by
 refine Ki (Ke (l:=[(54,Kj),(122,Tf),(111,OD)]) (by simp [KP,Aat,Wl])) Tryd.func110 (by decide) Agz AgA (np:=4) (by decide) Wm (fun _=>r) (fun _=>r) (by decide)<|?_
 rintro ⟨c1,f2,i3,params4⟩
 show TrE (specs [(54,Kj),(122,Tf),(111,OD)]) AdK (Kp [(0,(2,100))] (.row 5 66) [(.t 8)] Xm Xl) ⟨[(0,.optr 8192 0 0 0),(1,.agg [.int .i64 f2.Params,.sl (f2.Slots.map JP),.sl (f2.Code.map JM)]),(2,.int .i64 i3),(3,.sl (params4.map JJ))],[(8192,some (0,⟨false,true,2,100,[.agg [.sl (c1.list.map eU8),.int .i64 c1.at_]]⟩))],262144⟩ (Og c1 f2 i3 params4)
 refine Kc<|?_
 unfold AdK Og
 refine sQ<|rG<|bX r r r r r<|aN (α:=JL) r JM r<|nI<|xS<|sQ<|rG<|mV r r<|bD fun r5 hr5=>cV (c1,4) r r r JU r r (by simp) r hr5<|aS r r<|nI<|xS<|sQ<|rG<|fA r r<|lO (v:=.sl (f2.Slots.map JP)) (z:=.agg [.int .i64 f2.Params,.sl (f2.Slots.map JP),.sl (f2.Code.map JM)]) r r r r r r<|lS r r<|aS r r<|nI<|xS<|sQ<|rG<|mV r r<|bD fun r6 hr6=>cV (r5.2,20) r r r JU r r (by simp) r hr6<|aS r r<|nI<|xS<|bC (E:=fun (s : Unit) (g : Unit)=>[(9,.int .i64 r5.1)]) (O:=fun s g=>[(8192,some (0,⟨false,true,2,100,[.agg [.sl (r6.2.list.map eU8),.int .i64 r6.2.at_]]⟩))]) (j:=fun s=>Sk r5 r6) ?_ ?_
 ·refine sC (E:=fun (s : Bool) (g : Nat)=>[(0,.optr 8192 0 0 0),(2,.int .i64 i3),(3,.sl (params4.map JJ)),(5,.optr 5 g 0 0),(9,.int .i64 r5.1),(10,.int .i64 (f2.Slots.length : Int)),(11,.int .i64 r6.1),(23,.bool s)]) (O:=fun s g=>[(5,some (g,⟨false,true,3,27,[.agg [.int .i64 f2.Params,.sl (f2.Slots.map JP),.sl (f2.Code.map JM)]]⟩)),(8192,some (0,⟨false,true,2,100,[.agg [.sl (r6.2.list.map eU8),.int .i64 r6.2.at_]]⟩))]) (j:=fun s=>MI r6 f2 r5 params4 i3 s) ?_ ?_
  ·refine rG<|mV r r<|bN (v:=.bool (decide (r6.1 < 3))) r r r r r<|mV r r<|sP 26 (b:=(decide (r6.1 < 3))) r ?_ ?_
   ·exact mV r r<|bN (v:=.bool (decide ((f2.Slots.length : Int) > 0))) r r r r r<|pT r r r r<|aS r r<|nI<|xC (s:=(decide ((f2.Slots.length : Int) > 0))) _ ((hE ⟨rfl,r,r,r,r,r,r,r,trivial⟩ ⟨rfl,r,trivial⟩))
   ·exact oF r<|oF r<|pF r r r r<|aS r r<|nI<|xC (s:=false) _ ((hE ⟨rfl,r,r,r,r,r,r,r,trivial⟩ ⟨rfl,r,trivial⟩))
  ·rintro x7 v5x1 nn
   try dsimp only
   unfold MI
   refine cD (c:=x7) r ?_ ?_
   ·refine sQ<|rG<|mV r r<|mV r r<|bD fun r8 hr8=>cV (r6.2,(f2.Slots.length : Int)) r r r JU r r (by simp) r hr8<|mV r r<|bL (cs:=[.int .i64 16,.int .i64 r8.1,.int .i64 r5.1,.int .i64 0,.int .u64 0]) (ps:=[(0,1,.int .i64 16),(1,1,.int .i64 r8.1),(2,1,.int .i64 r5.1)]) r r r r<|bS ([(JL.mk 16 r8.1 r5.1 0 0)] : List JL) JM r r r (by simp) r r r<|aO (l:=([(JL.mk 16 r8.1 r5.1 0 0)] : List JL)) (en:=JM) r r r r<|nI<|xS<|rT<|yR<|Kt (b:=(([(JL.mk 16 r8.1 r5.1 0 0)] : List JL),r8.2)) r ?_ r r ?_ r ?_ (congrArg D.sl (JS _ _ r)) r
    all_goals first|(simp;done)|(simp;omega)|rfl|(simp [JT,JQ];done)
   ·refine sC (E:=fun (s : Bool) (g : Nat)=>[(0,.optr 8192 0 0 0),(2,.int .i64 i3),(3,.sl (params4.map JJ)),(5,.optr 5 g 0 0),(9,.int .i64 r5.1),(10,.int .i64 (f2.Slots.length : Int)),(11,.int .i64 r6.1),(36,.bool s)]) (O:=fun s g=>[(5,some (g,⟨false,true,3,27,[.agg [.int .i64 f2.Params,.sl (f2.Slots.map JP),.sl (f2.Code.map JM)]]⟩)),(8192,some (0,⟨false,true,2,100,[.agg [.sl (r6.2.list.map eU8),.int .i64 r6.2.at_]]⟩))]) (j:=fun s=>MJ r6 f2 r5 params4 i3 s) ?_ ?_
    ·refine rG<|mV r r<|bN (v:=.bool (decide (r6.1 < 6))) r r r r r<|mV r r<|sP 39 (b:=(decide (r6.1 < 6))) r ?_ ?_
     ·exact mV r r<|bN (v:=.bool (decide ((f2.Slots.length : Int) > 0))) r r r r r<|pT r r r r<|aS r r<|nI<|xC (s:=(decide ((f2.Slots.length : Int) > 0))) _ ((hE ⟨rfl,r,r,r,r,r,r,r,trivial⟩ ⟨rfl,r,trivial⟩))
     ·exact oF r<|oF r<|pF r r r r<|aS r r<|nI<|xC (s:=false) _ ((hE ⟨rfl,r,r,r,r,r,r,r,trivial⟩ ⟨rfl,r,trivial⟩))
    ·rintro x9 v5x2 nn
     try dsimp only
     unfold MJ
     refine cD (c:=x9) r ?_ ?_
     ·refine sQ<|rG<|mV r r<|mV r r<|mV r r<|bD fun r10 hr10=>cV (r6.2,(f2.Slots.length : Int)) r r r JU r r (by simp) r hr10<|bL (cs:=[.int .i64 15,.int .i64 r5.1,.int .i64 r10.1,.int .i64 0,.int .u64 0]) (ps:=[(0,1,.int .i64 15),(1,1,.int .i64 r5.1),(2,1,.int .i64 r10.1)]) r r r r<|bS ([(JL.mk 15 r5.1 r10.1 0 0)] : List JL) JM r r r (by simp) r r r<|aO (l:=([(JL.mk 15 r5.1 r10.1 0 0)] : List JL)) (en:=JM) r r r r<|nI<|xS<|rT<|yR<|Kt (b:=(([(JL.mk 15 r5.1 r10.1 0 0)] : List JL),r10.2)) r ?_ r r ?_ r ?_ (congrArg D.sl (JS _ _ r)) r
      all_goals first|(simp;done)|(simp;omega)|rfl|(simp [JT,JQ];done)
     ·refine sC (E:=fun (s : Bool) (g : Nat)=>[(0,.optr 8192 0 0 0),(2,.int .i64 i3),(3,.sl (params4.map JJ)),(5,.optr 5 g 0 0),(9,.int .i64 r5.1),(10,.int .i64 (f2.Slots.length : Int)),(11,.int .i64 r6.1),(49,.bool s)]) (O:=fun s g=>[(5,some (g,⟨false,true,3,27,[.agg [.int .i64 f2.Params,.sl (f2.Slots.map JP),.sl (f2.Code.map JM)]]⟩)),(8192,some (0,⟨false,true,2,100,[.agg [.sl (r6.2.list.map eU8),.int .i64 r6.2.at_]]⟩))]) (j:=fun s=>MK r6 f2 r5 params4 i3 s) ?_ ?_
      ·refine rG<|mV r r<|bN (v:=.bool (decide (r6.1 < 9))) r r r r r<|mV r r<|sP 52 (b:=(decide (r6.1 < 9))) r ?_ ?_
       ·exact mV r r<|bN (v:=.bool (decide ((f2.Slots.length : Int) > 0))) r r r r r<|pT r r r r<|aS r r<|nI<|xC (s:=(decide ((f2.Slots.length : Int) > 0))) _ ((hE ⟨rfl,r,r,r,r,r,r,r,trivial⟩ ⟨rfl,r,trivial⟩))
       ·exact oF r<|oF r<|pF r r r r<|aS r r<|nI<|xC (s:=false) _ ((hE ⟨rfl,r,r,r,r,r,r,r,trivial⟩ ⟨rfl,r,trivial⟩))
      ·rintro x11 v5x3 nn
       try dsimp only
       unfold MK
       refine cD (c:=x11) r ?_ ?_
       ·refine sQ<|rG<|mV r r<|mV r r<|bD fun r12 hr12=>cV (r6.2,(f2.Slots.length : Int)) r r r JU r r (by simp) r hr12<|aS r r<|nI<|xS<|sQ<|rG<|mV r r<|lO (v:=.agg [.int .i64 f2.Params,.sl (f2.Slots.map JP),.sl (f2.Code.map JM)]) (z:=.agg [.int .i64 f2.Params,.sl (f2.Slots.map JP),.sl (f2.Code.map JM)]) r r r r r r<|mV r r<|bD fun r13 hr13=>cV (r12.2,f2,r12.1) r r r Wn r r (by simp) r hr13<|mV r r<|bL (cs:=[.int .i64 17,.int .i64 r13.1,.int .i64 r12.1,.int .i64 0,.int .u64 0]) (ps:=[(0,1,.int .i64 17),(1,1,.int .i64 r13.1),(2,1,.int .i64 r12.1)]) r r r r<|bS ([(JL.mk 17 r13.1 r12.1 0 0)] : List JL) JM r r r (by simp) r r r<|aO (l:=([(JL.mk 17 r13.1 r12.1 0 0)] : List JL)) (en:=JM) r r r r<|nI<|xS<|rT<|yR<|Kt (b:=(([(JL.mk 17 r13.1 r12.1 0 0)] : List JL),r13.2)) r ?_ r r ?_ r ?_ (congrArg D.sl (JS _ _ r)) r
        all_goals first|(simp;done)|(simp;omega)|rfl|(simp [JT,JQ];done)
       ·refine sQ<|rG<|mV r r<|bN (v:=.bool (decide (r6.1 < 11))) r r r r r<|aS r r<|nI<|xS<|cD (c:=(decide (r6.1 < 11))) r ?_ ?_
        ·refine sQ<|rG<|mV r r<|mV r r<|bD fun r14 hr14=>cV r6.2 r r r Sj r r (by simp) r hr14<|bL (cs:=[.int .i64 0,.int .i64 r5.1,.int .i64 0,.int .i64 0,.int .u64 r14.1]) (ps:=[(0,1,.int .i64 0),(1,1,.int .i64 r5.1),(4,1,.int .u64 r14.1)]) r r r r<|bS ([(JL.mk 0 r5.1 0 0 r14.1)] : List JL) JM r r r (by simp) r r r<|aO (l:=([(JL.mk 0 r5.1 0 0 r14.1)] : List JL)) (en:=JM) r r r r<|nI<|xS<|rT<|yR<|Kt (b:=(([(JL.mk 0 r5.1 0 0 r14.1)] : List JL),r14.2)) r ?_ r r ?_ r ?_ (congrArg D.sl (JS _ _ r)) r
         all_goals first|(simp;done)|(simp;omega)|rfl|(simp [JT,JQ];done)
        ·refine sQ<|rG<|mV r r<|bN (v:=.bool (decide (r6.1 < 13))) r r r r r<|aS r r<|nI<|xS<|cD (c:=(decide (r6.1 < 13))) r ?_ ?_
         ·refine sQ<|rG<|mV r r<|bD fun r15 hr15=>cV (r6.2,10) r r r JU r r (by simp) r hr15<|bN (v:=.int .i64 (IntKind.i64.wrap (2 + r15.1))) r r r r r<|mV r r<|mV r r<|bD fun r16 hr16=>cV (r15.2,4) r r r JU r r (by simp) r hr16<|mV r r<|bD fun r17 hr17=>cV (r16.2,8) r r r JU r r (by simp) r hr17<|bL (cs:=[.int .i64 (IntKind.i64.wrap (2 + r15.1)),.int .i64 r5.1,.int .i64 r16.1,.int .i64 r17.1,.int .u64 0]) (ps:=[(0,1,.int .i64 (IntKind.i64.wrap (2 + r15.1))),(1,1,.int .i64 r5.1),(2,1,.int .i64 r16.1),(3,1,.int .i64 r17.1)]) r r r r<|bS ([(JL.mk (IntKind.i64.wrap (2 + r15.1)) r5.1 r16.1 r17.1 0)] : List JL) JM r r r (by simp) r r r<|aO (l:=([(JL.mk (IntKind.i64.wrap (2 + r15.1)) r5.1 r16.1 r17.1 0)] : List JL)) (en:=JM) r r r r<|nI<|xS<|rT<|yR<|Kt (b:=(([(JL.mk (IntKind.i64.wrap (2 + r15.1)) r5.1 r16.1 r17.1 0)] : List JL),r17.2)) r ?_ r r ?_ r ?_ (congrArg D.sl (JS _ _ r)) r
          all_goals first|(simp;done)|(simp;omega)|rfl|(simp [JT,JQ];done)
         ·refine sQ<|rG<|mV r r<|bN (v:=.bool (decide (r6.1 < 15))) r r r r r<|aS r r<|nI<|xS<|cD (c:=(decide (r6.1 < 15))) r ?_ ?_
          ·refine sQ<|rG<|mV r r<|bL (cs:=[.int .i64 14,.int .i64 r5.1,.int .i64 0,.int .i64 0,.int .u64 0]) (ps:=[(0,1,.int .i64 14),(1,1,.int .i64 r5.1)]) r r r r<|bS ([(JL.mk 14 r5.1 0 0 0)] : List JL) JM r r r (by simp) r r r<|aO (l:=([(JL.mk 14 r5.1 0 0 0)] : List JL)) (en:=JM) r r r r<|nI<|xS<|rT<|yR<|Kt (b:=(([(JL.mk 14 r5.1 0 0 0)] : List JL),r6.2)) r ?_ r r ?_ r ?_ (congrArg D.sl (JS _ _ r)) r
           all_goals first|(simp;done)|(simp;omega)|rfl|(simp [JT,JQ];done)
          ·refine sQ<|rG<|mV r r<|bN (v:=.bool (r6.1 == 15)) r r r r r<|aS r r<|nI<|xS<|cD (c:=(r6.1 == 15)) r ?_ ?_
           ·refine sQ<|rG<|bS ([13,12,1] : List Int) JJ r r r (by simp) r r r<|mV r r<|bD fun r18 hr18=>cV (r6.2,3) r r r JU r r (by simp) r hr18<|cK fun hq=>iO (l:=([13,12,1] : List Int)) (en:=JJ) r r r r r hq<|bD fun x_e19 hx_e19=>lO (v:=.int .i64 x_e19) (z:=JJ x_e19) r r r (LR hx_e19) r r<|mV r r<|bL (cs:=[.int .i64 x_e19,.int .i64 r5.1,.int .i64 0,.int .i64 0,.int .u64 0]) (ps:=[(0,1,.int .i64 x_e19),(1,1,.int .i64 r5.1)]) r r r r<|bS ([(JL.mk x_e19 r5.1 0 0 0)] : List JL) JM r r r (by simp) r r r<|aO (l:=([(JL.mk x_e19 r5.1 0 0 0)] : List JL)) (en:=JM) r r r r<|nI<|xS<|rT<|yR<|Kt (b:=(([(JL.mk x_e19 r5.1 0 0 0)] : List JL),r18.2)) r ?_ r r ?_ r ?_ (congrArg D.sl (JS _ _ r)) r
            all_goals first|(simp;done)|(simp;omega)|rfl|(simp [JT,JQ];done)
           ·refine sC (E:=fun (s : Bool) (g : Nat)=>[(0,.optr 8192 0 0 0),(2,.int .i64 i3),(3,.sl (params4.map JJ)),(5,.optr 5 g 0 0),(9,.int .i64 r5.1),(11,.int .i64 r6.1),(104,.bool s)]) (O:=fun s g=>[(5,some (g,⟨false,true,3,27,[.agg [.int .i64 f2.Params,.sl (f2.Slots.map JP),.sl (f2.Code.map JM)]]⟩)),(8192,some (0,⟨false,true,2,100,[.agg [.sl (r6.2.list.map eU8),.int .i64 r6.2.at_]]⟩))]) (j:=fun s=>ML r6 f2 r5 params4 i3 s) ?_ ?_
            ·refine rG<|mV r r<|bN (v:=.bool (r6.1 == 16)) r r r r r<|mV r r<|sP 107 (b:=(r6.1 == 16)) r ?_ ?_
             ·exact fA r r<|lO (v:=.int .i64 f2.Params) (z:=.agg [.int .i64 f2.Params,.sl (f2.Slots.map JP),.sl (f2.Code.map JM)]) r r r r r r<|bN (v:=.bool (decide (f2.Params > 0))) r r r r r<|pT r r r r<|aS r r<|nI<|xC (s:=(decide (f2.Params > 0))) _ ((hE ⟨rfl,r,r,r,r,r,r,trivial⟩ ⟨rfl,r,trivial⟩))
             ·exact oF r<|oF r<|oF r<|pF r r r r<|aS r r<|nI<|xC (s:=false) _ ((hE ⟨rfl,r,r,r,r,r,r,trivial⟩ ⟨rfl,r,trivial⟩))
            ·rintro x20 v5x4 nn
             try dsimp only
             unfold ML
             refine cD (c:=x20) r ?_ ?_
             ·refine sQ<|rG<|mV r r<|mV r r<|fA r r<|lO (v:=.int .i64 f2.Params) (z:=.agg [.int .i64 f2.Params,.sl (f2.Slots.map JP),.sl (f2.Code.map JM)]) r r r r r r<|bD fun r21 hr21=>cV (r6.2,f2.Params) r r r JU r r (by simp) r hr21<|bL (cs:=[.int .i64 19,.int .i64 r5.1,.int .i64 r21.1,.int .i64 0,.int .u64 0]) (ps:=[(0,1,.int .i64 19),(1,1,.int .i64 r5.1),(2,1,.int .i64 r21.1)]) r r r r<|bS ([(JL.mk 19 r5.1 r21.1 0 0)] : List JL) JM r r r (by simp) r r r<|aO (l:=([(JL.mk 19 r5.1 r21.1 0 0)] : List JL)) (en:=JM) r r r r<|nI<|xS<|rT<|yR<|Kt (b:=(([(JL.mk 19 r5.1 r21.1 0 0)] : List JL),r21.2)) r ?_ r r ?_ r ?_ (congrArg D.sl (JS _ _ r)) r
              all_goals first|(simp;done)|(simp;omega)|rfl|(simp [JT,JQ];done)
             ·refine sC (E:=fun (s : Bool) (g : Unit)=>[(0,.optr 8192 0 0 0),(2,.int .i64 i3),(3,.sl (params4.map JJ)),(9,.int .i64 r5.1),(119,.bool s)]) (O:=fun s g=>[(8192,some (0,⟨false,true,2,100,[.agg [.sl (r6.2.list.map eU8),.int .i64 r6.2.at_]]⟩))]) (j:=fun s=>MM r6 params4 i3 r5 s) ?_ ?_
              ·refine rG<|mV r r<|bN (v:=.bool (decide (r6.1 ≥ 17))) r r r r r<|mV r r<|sP 122 (b:=(decide (r6.1 ≥ 17))) r ?_ ?_
               ·exact mV r r<|bN (v:=.int .i64 (IntKind.i64.wrap (i3 + 1))) r r r r r<|mV r r<|lS r r<|bN (v:=.bool (decide ((IntKind.i64.wrap (i3 + 1)) < (params4.length : Int)))) r r r r r<|pT r r r r<|aS r r<|nI<|xC (s:=(decide ((IntKind.i64.wrap (i3 + 1)) < (params4.length : Int)))) () ((hE ⟨rfl,r,r,r,r,trivial⟩ ⟨rfl,trivial⟩))
               ·exact oF r<|oF r<|oF r<|oF r<|oF r<|pF r r r r<|aS r r<|nI<|xC (s:=false) () ((hE ⟨rfl,r,r,r,r,trivial⟩ ⟨rfl,trivial⟩))
              ·rintro x22 ⟨⟩ nn
               try dsimp only
               unfold MM
               refine cD (c:=x22) r ?_ ?_
               ·refine sQ<|rG<|mV r r<|bN (v:=.int .i64 (IntKind.i64.wrap (i3 + 1))) r r r r r<|mV r r<|mV r r<|lS r r<|mV r r<|bN (v:=.int .i64 (IntKind.i64.wrap ((params4.length : Int) - i3))) r r r r r<|bN (v:=.int .i64 (IntKind.i64.wrap ((IntKind.i64.wrap ((params4.length : Int) - i3)) - 1))) r r r r r<|bD fun r23 hr23=>cV (r6.2,IntKind.i64.wrap ((IntKind.i64.wrap ((params4.length : Int) - i3)) - 1)) r r r JU r r (by simp) r hr23<|bN (v:=.int .i64 (IntKind.i64.wrap ((IntKind.i64.wrap (i3 + 1)) + r23.1))) r r r r r<|aS r r<|nI<|xS<|sQ<|rG<|aN (α:=JL) r JM r<|nI<|xS<|sQ<|sQ<|rG<|aS r r<|nI<|xS<|bK<|lP (E:=fun (s : (List Int) × Int × (List JL) × Int) (g : Nat)=>[(0,.optr 8192 0 0 0),(3,.sl (params4.map JJ)),(13,.int .i64 (IntKind.i64.wrap ((IntKind.i64.wrap (i3 + 1)) + r23.1))),(14,.osl 14 g 0 s.2.2.1.length),(15,.int .i64 s.2.2.2)]) (O:=fun s g=>[(14,some (g,⟨false,false,5,66,s.2.2.1.map JM⟩)),(8192,some (0,⟨false,true,2,100,[.agg [.sl (s.1.map eU8),.int .i64 s.2.1]]⟩))]) (body:=fun s=>PD params4 i3 r23 s.1 s.2.1 s.2.2.1 s.2.2.2) (s:=(r23.2.list,r23.2.at_,([] : List JL),0)) _ ((hE ⟨rfl,r,r,r,r,trivial⟩ ⟨rfl,r,trivial⟩))<|?_
                rintro ⟨c24,c25,out26,a27⟩ v14x6 nn
                try dsimp only
                unfold PD
                refine sQ<|sQ<|rG<|mV r r<|mV r r<|mV r r<|bD fun x_x28 hx_x28=>iS (en:=JJ) r r r hx_x28 r<|lF (v:=.int .i64 x_x28) r r r r<|bN (v:=.bool (decide (a27 < x_x28))) r r r r r<|nI<|xS<|cD (c:=(decide (a27 < x_x28))) r ?_ ?_
                ·refine sK<|xS<|sQ<|bK<|sQ<|rG<|mV r r<|bD fun r29 hr29=>cV ((JK.mk c24 c25),8) r r r JU r r (by simp) r hr29<|bN (v:=.bool (decide (r29.1 < 7))) r r r r r<|nI<|xS<|cD (c:=(decide (r29.1 < 7))) r ?_ ?_
                 ·exact rG<|mV r r<|mV r r<|mV r r<|bD fun r30 hr30=>cV (r29.2,4) r r r JU r r (by simp) r hr30<|bL (cs:=[.int .i64 18,.int .i64 a27,.int .i64 r30.1,.int .i64 0,.int .u64 0]) (ps:=[(0,1,.int .i64 18),(1,1,.int .i64 a27),(2,1,.int .i64 r30.1)]) r r r r<|bS ([(JL.mk 18 a27 r30.1 0 0)] : List JL) JM r r r (by simp) r r r<|cK fun hq=>aP (out26) (([(JL.mk 18 a27 r30.1 0 0)] : List JL)) JM r r r r r r r (by simp) (Ko _ _ r) r r (by simp) (JS _ _ r) (fun _=>r) r hq<|aO (l:=out26 ++ ([(JL.mk 18 a27 r30.1 0 0)] : List JL)) (en:=JM) r r r r<|nI<|bM<|xS<|rG<|mV r r<|bN (v:=.int .i64 (IntKind.i64.wrap (a27 + 1))) r r r r r<|aS r r<|nI<|xL (s:=(r30.2.list,r30.2.at_,out26 ++ ([(JL.mk 18 a27 r30.1 0 0)] : List JL),IntKind.i64.wrap (a27 + 1))) _ ((hE ⟨rfl,r,r,r,r,trivial⟩ ⟨rfl,r,trivial⟩))
                 ·exact sK<|bM<|xS<|rG<|mV r r<|bN (v:=.int .i64 (IntKind.i64.wrap (a27 + 1))) r r r r r<|aS r r<|nI<|xL (s:=(r29.2.list,r29.2.at_,out26,IntKind.i64.wrap (a27 + 1))) _ ((hE ⟨rfl,r,r,r,r,trivial⟩ ⟨rfl,r,trivial⟩))
                ·refine eT<|xE<|lE<|bH<|xS<|sQ<|rG<|mV r r<|mV r r<|bL (cs:=[.int .i64 22,.int .i64 (IntKind.i64.wrap ((IntKind.i64.wrap (i3 + 1)) + r23.1)),.int .i64 0,.int .i64 0,.int .u64 0]) (ps:=[(0,1,.int .i64 22),(1,1,.int .i64 (IntKind.i64.wrap ((IntKind.i64.wrap (i3 + 1)) + r23.1)))]) r r r r<|bS ([(JL.mk 22 (IntKind.i64.wrap ((IntKind.i64.wrap (i3 + 1)) + r23.1)) 0 0 0)] : List JL) JM r r r (by simp) r r r<|cK fun hq=>aP (out26) (([(JL.mk 22 (IntKind.i64.wrap ((IntKind.i64.wrap (i3 + 1)) + r23.1)) 0 0 0)] : List JL)) JM r r r r r r r (by simp) (Ko _ _ r) r r (by simp) (JS _ _ r) (fun _=>r) r hq<|aO (l:=out26 ++ ([(JL.mk 22 (IntKind.i64.wrap ((IntKind.i64.wrap (i3 + 1)) + r23.1)) 0 0 0)] : List JL)) (en:=JM) r r r r<|nI<|xS<|rT<|yR<|Kt (b:=(out26 ++ ([(JL.mk 22 (IntKind.i64.wrap ((IntKind.i64.wrap (i3 + 1)) + r23.1)) 0 0 0)] : List JL),(JK.mk c24 c25))) r ?_ r r ?_ r ?_ (congrArg D.sl (JS _ _ r)) r
                 all_goals first|(simp;done)|(simp;omega)|rfl|(simp [JT,JQ];done)
               ·exact sK<|Ot (s:=()) () ((hE ⟨rfl,trivial⟩ ⟨rfl,trivial⟩))
 ·rintro ⟨⟩ ⟨⟩ nn
  try dsimp only
  unfold Sk
  refine sQ<|rG<|mV r r<|bL (cs:=[.int .i64 14,.int .i64 r5.1,.int .i64 0,.int .i64 0,.int .u64 0]) (ps:=[(0,1,.int .i64 14),(1,1,.int .i64 r5.1)]) r r r r<|bS ([(JL.mk 14 r5.1 0 0 0)] : List JL) JM r r r (by simp) r r r<|aO (l:=([(JL.mk 14 r5.1 0 0 0)] : List JL)) (en:=JM) r r r r<|nI<|xS<|rT<|Kt (b:=(([(JL.mk 14 r5.1 0 0 0)] : List JL),r6.2)) r ?_ r r ?_ r ?_ (congrArg D.sl (JS _ _ r)) r
  all_goals first|(simp;done)|(simp;omega)|rfl|(simp [JT,JQ];done)

end Go.Proofs.YtcelninhkmhjkaaDoor
