/-
  Programs on typed data, and the proofs that the code does what they say; written by a program (dx.py).
-/
import Derived.Test.YtfpgidpffhmadaaDoorProg
import Derived.Test.YtfpgidpffhmadaaDoorDc
import Derived.KernelRfl
import Derived.Test.YtfpgidpffhmadaaDoorDxP
namespace Go.Proofs.YtfpgidpffhmadaaDoor
open Go Go.Dw Go.Proofs
set_option maxRecDepth 100000
open Go.Dw renaming Yj → mV,VN → bN,Pu → lO,TV → bD,XC → cK,VQ → nI,VT → xS,Yl → rG,Yn → sQ,Rj → aO,VM → aS,VR → oF,Zl → bL,VO → bS,OE → cV,MG → cG,Qo → cR,Zk → aP,Pv → sV,QP → iS,Tu → iO,QS → lS,Tv → lW,TW → fA,ZC → fF,AaC → nC,Sy → lF,Sz → sP,Ob → pT,Nl → pF,Yk → uN,AbP → cT,VP → nW,XB → bX,Ri → aN,AgE → eA_,VU → cD,TY → bK,Ym → rT,VY → sK,VV → eT,VS → xC,TX → xL,PK → xR,Adf → yR,Wa → zR,Qq → lR,Sh → hE,Oc → lE,OG → bH,Nm → bM,PJ → bR,OH → xE,VW → lP,QT → sC,VX → bC,rf → r
def AfD : Jt:=(.seq (.reg [P 3 (.box (T 1) 2 89),P 4 (.asg (C 0) none)] false) (.seq (.seq (.reg [M 6 0,P 7 (.len false (T 6)),P 8 (.mv (C 0))] false) (.block 0 (.loop (.seq (.reg [P 9 (.bin .lss (T 8) (T 7))] false) (.seq (.cond (T 9) .skip (.exit 0)) (.seq (.block 1 (.seq (.reg [M 10 8,P 5 (.asg (T 10) none)] false) (.seq (.reg [P 11 (.ld 2 true (T 3)),M 12 0,M 13 5,⟨(some 14),(.ixA 2 (T 12) (T 13)),none,[1,2]⟩,⟨(some 15),(.ld 2 true (T 14)),none,[3]⟩,⟨(some 16),(.eqA 2 false (T 11) (T 15)),none,[0,4]⟩] true) (.cond (T 16) (.seq (.reg [M 17 5,P 4 (.asg (T 17) none)] false) .ret) .skip)))) (.reg [P 18 (.bin .add (T 8) (C 1)),M 8 18] false))))))) (.seq (.reg [⟨(some 4),(.asg (.c (.int .i64 (-1))) none),none,[]⟩] false) .ret)))
theorem AiR : (Tryd.f76.body.bind (Ju Tryd.prog Tryd.f76.ntmps)) = some AfD:=by kernel_rfl
theorem AiS : Tryd.f76.results.toList.mapM (JE Tryd.prog) = some [(.t 4)]:=by kernel_rfl
def Nj (a : (List JB) × JB) : List D:=[.sl (a.1.map KT),KT a.2]
def Ni (ds : List D) : (List JB) × JB:=((uL Un) (ds.getD 0 .top),Un (ds.getD 1 .top))
theorem Qy (a : (List JB) × JB) : Ni (Nj a) = a:=by simp [Ni,Nj,KE (u:=Un) (en:=KT) Ach]
def Rc (b : Int) : D:=.int .i64 b
def Rb (_b : Int) : List D:=[]
noncomputable def Oa : Dw.Spec:=Js [] .ground Nj Ni (fun a=>Lt a.1 a.2) Rc Rb
set_option maxHeartbeats 4000000 in
theorem Wx : Jr Tryd.prog 76 Oa:=by
 refine JA (JW) Tryd.func76 (by decide) AiR AiS (np:=2) (by decide) Qy (fun _=>r) (fun _=>r) (by decide)<|?_
 rintro ⟨s1,v2⟩
 show TrE (specs []) AfD (JH [] .ground [(.t 4)] Rc Rb) ⟨[(0,.sl (s1.map KT)),(1,.agg [.int .i64 v2.a0,.int .i64 v2.a1])],[],262144⟩ (Lt s1 v2)
 refine Jv<|?_
 unfold AfD Lt
 refine sQ<|rG<|bX r r r r r<|aS r r<|nI<|xS<|sQ<|sQ<|rG<|mV r r<|lS r r<|mV r r<|nI<|xS<|bK<|lP (E:=fun (s : Int) (g : Nat)=>[(0,.sl (s1.map KT)),(3,.optr 3 g 0 0),(7,.int .i64 (s1.length : Int)),(8,.int .i64 s)]) (O:=fun s g=>[(3,some (g,⟨false,true,2,89,[.agg [.int .i64 v2.a0,.int .i64 v2.a1]]⟩))]) (body:=fun s=>JV s1 v2 s) (s:=0) _ ((hE ⟨rfl,r,r,r,trivial⟩ ⟨rfl,trivial⟩))<|?_
 rintro x3 v3x1 nn
 try dsimp only
 unfold JV
 refine sQ<|rG<|bN (v:=.bool (decide (x3 < (s1.length : Int)))) r r r r r<|nI<|xS<|sQ<|cD (c:=(decide (x3 < (s1.length : Int)))) r ?_ ?_
 ·refine sK<|xS<|sQ<|bK<|sQ<|rG<|mV r r<|aS r r<|nI<|xS<|sQ<|rG<|lO (v:=.agg [.int .i64 v2.a0,.int .i64 v2.a1]) (z:=.agg [.int .i64 v2.a0,.int .i64 v2.a1]) r r r r r r<|mV r r<|mV r r<|bD fun x_x4 hx_x4=>iS (en:=KT) r r r hx_x4 r<|lF (v:=.agg [.int .i64 x_x4.a0,.int .i64 x_x4.a1]) r r r r<|eA_ (p:=((v2.a0 == x_x4.a0) && ((v2.a1 == x_x4.a1) && true))) r r r r ⟨rfl,⟨rfl,trivial⟩⟩ r<|Jz (by kernel_rfl)<|xS<|cD (c:=((v2.a0 == x_x4.a0) && ((v2.a1 == x_x4.a1) && true))) r ?_ ?_
  ·refine sQ<|rG<|mV r r<|aS r r<|nI<|xS<|rT<|bR<|xR<|lR<|bR<|xR<|Jo (b:=x3) r ?_ r r ?_ r
   all_goals first|(simp;done)|(simp;omega)|rfl|(simp [Jk,Ji];done)
  ·exact sK<|bM<|xS<|rG<|bN (v:=.int .i64 (IntKind.i64.wrap (x3 + 1))) r r r r r<|mV r r<|nI<|xL (s:=IntKind.i64.wrap (x3 + 1)) _ ((hE ⟨rfl,r,r,r,trivial⟩ ⟨rfl,trivial⟩))
 ·refine eT<|xE<|lE<|bH<|xS<|sQ<|rG<|aS r r<|nI<|xS<|rT<|Jo (b:=(-1)) r ?_ r r ?_ r
  all_goals first|(simp;done)|(simp;omega)|rfl|(simp [Jk,Ji];done)

def Aff : Jt:=(.seq (.reg [P 3 (.box (T 1) 2 89),P 4 (.asg (.c (.bool false)) none)] false) (.seq (.reg [M 5 0,P 6 (.ld 2 true (T 3)),P 7 (.call (.c (.clo 76 [])) [(T 5),(T 6)]),P 8 (.bin .geq (T 7) (C 0)),P 4 (.asg (T 8) none)] false) .ret))
theorem AhV : (Tryd.f48.body.bind (Ju Tryd.prog Tryd.f48.ntmps)) = some Aff:=by kernel_rfl
theorem AhW : Tryd.f48.results.toList.mapM (JE Tryd.prog) = some [(.t 4)]:=by kernel_rfl
def KZ (a : (List JB) × JB) : List D:=[.sl (a.1.map KT),KT a.2]
def Mv (ds : List D) : (List JB) × JB:=((uL Un) (ds.getD 0 .top),Un (ds.getD 1 .top))
theorem Pt (a : (List JB) × JB) : Mv (KZ a) = a:=by simp [Mv,KZ,KE (u:=Un) (en:=KT) Ach]
def PT (b : Bool) : D:=.bool b
def PS (_b : Bool) : List D:=[]
noncomputable def MU : Dw.Spec:=Js [] .ground KZ Mv (fun a=>Ku a.1 a.2) PT PS
set_option maxHeartbeats 4000000 in
theorem UY : Jr Tryd.prog 48 MU:=by
 refine JA (Jw (l:=[(76,Oa)]) (by simp [Wx])) Tryd.func48 (by decide) AhV AhW (np:=2) (by decide) Pt (fun _=>r) (fun _=>r) (by decide)<|?_
 rintro ⟨s1,v2⟩
 show TrE (specs [(76,Oa)]) Aff (JH [] .ground [(.t 4)] PT PS) ⟨[(0,.sl (s1.map KT)),(1,.agg [.int .i64 v2.a0,.int .i64 v2.a1])],[],262144⟩ (Ku s1 v2)
 refine Jv<|?_
 unfold Aff Ku
 refine sQ<|rG<|bX r r r r r<|aS r r<|nI<|xS<|sQ<|rG<|mV r r<|lO (v:=.agg [.int .i64 v2.a0,.int .i64 v2.a1]) (z:=.agg [.int .i64 v2.a0,.int .i64 v2.a1]) r r r r r r<|bD fun r3 hr3=>cG (s1,v2) r r r Qy r r (by simp) r hr3 r<|bN (v:=.bool (decide (r3 ≥ 0))) r r r r r<|aS r r<|nI<|xS<|rT<|Jo (b:=(decide (r3 ≥ 0))) r ?_ r r ?_ r
 all_goals first|(simp;done)|(simp;omega)|rfl|(simp [Jk,Ji];done)

def AeO : Jt:=(.seq (.reg [P 1 (.box (T 0) 3 33),⟨(some 2),(.asg (.c .nils) (some ⟨2,89⟩)),none,[]⟩] false) (.seq (.reg [⟨(some 3),(.asg (.c .nils) (some ⟨2,89⟩)),none,[]⟩] false) (.seq (.seq (.reg [P 7 (.fldA 2 (T 1)),P 8 (.ld 1 false (T 7)),P 9 (.len false (T 8)),P 10 (.mv (C 0))] false) (.block 0 (.loop (.seq (.reg [P 11 (.bin .lss (T 10) (T 9))] false) (.seq (.cond (T 11) .skip (.exit 0)) (.seq (.block 1 (.seq (.reg [P 12 (.ixA 5 (T 8) (T 10)),P 13 (.ld 5 true (T 12)),P 5 (.new (.agg [(.int .i64 0),(.int .i64 0),(.int .i64 0),(.int .i64 0),(.int .u64 0)]) 5 57),⟨none,(.st 5 (T 5) (T 13)),none,[]⟩] false) (.seq (.reg [P 14 (.fldA 1 (T 5)),P 15 (.ld 1 false (T 14)),P 16 (.fldA 2 (T 5)),P 17 (.ld 1 false (T 16)),⟨(some 18),(.bld [(.int .i64 0),(.int .i64 0)] [⟨0,⟨1,(T 15)⟩⟩,⟨1,⟨1,(T 17)⟩⟩]),none,[]⟩,P 6 (.new (.agg [(.int .i64 0),(.int .i64 0)]) 2 89),⟨none,(.st 2 (T 6) (T 18)),none,[]⟩] false) (.seq (.reg [P 19 (.fldA 0 (T 5)),P 20 (.ld 1 false (T 19)),P 21 (.bin .eql (T 20) (C 17)),M 22 21,⟨(some 23),(.fldA 1 (T 5)),(some ⟨22,true⟩),[]⟩,⟨(some 24),(.ld 1 false (T 23)),(some ⟨22,true⟩),[]⟩,⟨(some 25),(.fldA 2 (T 5)),(some ⟨22,true⟩),[]⟩,⟨(some 26),(.ld 1 false (T 25)),(some ⟨22,true⟩),[]⟩,⟨(some 27),(.bin .neq (T 24) (T 26)),(some ⟨22,true⟩),[]⟩,P 28 (.pick (T 22) (T 27) (.c (.bool false))),M 29 28,⟨(some 30),(.mv (T 3)),(some ⟨29,true⟩),[]⟩,⟨(some 31),(.ld 2 true (T 6)),(some ⟨29,true⟩),[]⟩,⟨(some 32),(.call (.c (.clo 48 [])) [(T 30),(T 31)]),(some ⟨29,true⟩),[]⟩,⟨(some 33),(.un .not (T 32)),(some ⟨29,true⟩),[]⟩,P 34 (.pick (T 29) (T 33) (.c (.bool false)))] false) (.cond (T 34) (.reg [M 35 3,P 36 (.ld 2 true (T 6)),⟨(some 37),(.bldS 2 89 (.agg [(.int .i64 0),(.int .i64 0)]) 1 [⟨0,(T 36)⟩]),none,[]⟩,P 38 (.app 2 89 16 (T 35) (T 37)),⟨(some 3),(.asg (T 38) (some ⟨2,89⟩)),none,[]⟩] false) .skip))))) (.reg [P 39 (.bin .add (T 10) (C 1)),M 10 39] false))))))) (.seq (.reg [M 40 3,⟨(some 2),(.asg (T 40) (some ⟨2,89⟩)),none,[]⟩] false) .ret))))
theorem Ahn : (Tryd.f26.body.bind (Ju Tryd.prog Tryd.f26.ntmps)) = some AeO:=by kernel_rfl
theorem Aho : Tryd.f26.results.toList.mapM (JE Tryd.prog) = some [(.t 2)]:=by kernel_rfl
def OO (a : Jh) : List D:=[JS a]
def RE (ds : List D) : Jh:=Mn (ds.getD 0 .top)
theorem Wl (a : Jh) : RE (OO a) = a:=by simp [RE,OO]
def Xm (b : (List JB)) : D:=.sl (b.map KT)
def Xl (_b : (List JB)) : List D:=[]
noncomputable def Tf : Dw.Spec:=Js [] (.row 2 89) OO RE (fun a=>NM a) Xm Xl
set_option maxHeartbeats 4000000 in
theorem Aam : Jr Tryd.prog 26 Tf:=by
 refine JA (Jw (l:=[(48,MU)]) (by simp [UY])) Tryd.func26 (by decide) Ahn Aho (np:=1) (by decide) Wl (fun _=>r) (fun _=>r) (by decide)<|?_
 intro f1
 show TrE (specs [(48,MU)]) AeO (JH [] (.row 2 89) [(.t 2)] Xm Xl) ⟨[(0,.agg [.int .i64 f1.Params,.sl (f1.Slots.map Jj),.sl (f1.Code.map Jg)])],[],262144⟩ (NM f1)
 refine Jv<|?_
 unfold AeO NM
 refine sQ<|rG<|bX r r r r r<|aN (α:=JB) r KT r<|nI<|xS<|sQ<|rG<|aN (α:=JB) r KT r<|nI<|xS<|sQ<|sQ<|rG<|fA r r<|lO (v:=.sl (f1.Code.map Jg)) (z:=.agg [.int .i64 f1.Params,.sl (f1.Slots.map Jj),.sl (f1.Code.map Jg)]) r r r r r r<|lS r r<|mV r r<|nI<|xS<|bK<|lP (E:=fun (s : (List JB) × Int) (g : Nat)=>[(3,.osl 3 g 0 s.1.length),(8,.sl (f1.Code.map Jg)),(9,.int .i64 (f1.Code.length : Int)),(10,.int .i64 s.2)]) (O:=fun s g=>[(3,some (g,⟨false,false,2,89,s.1.map KT⟩))]) (body:=fun s=>KB f1 s.1 s.2) (s:=(([] : List JB),0)) _ ((hE ⟨rfl,r,r,r,trivial⟩ ⟨rfl,trivial⟩))<|?_
 rintro ⟨l2,x3⟩ v3x1 nn
 try dsimp only
 unfold KB
 refine sQ<|rG<|bN (v:=.bool (decide (x3 < (f1.Code.length : Int)))) r r r r r<|nI<|xS<|sQ<|cD (c:=(decide (x3 < (f1.Code.length : Int)))) r ?_ ?_
 ·refine sK<|xS<|sQ<|bK<|sQ<|rG<|bD fun x_x4 hx_x4=>iS (en:=Jg) r r r hx_x4 r<|lF (v:=.agg [.int .i64 x_x4.Op,.int .i64 x_x4.A,.int .i64 x_x4.B,.int .i64 x_x4.C,.int .u64 x_x4.Imm]) r r r r<|nW r<|sV (z':=.agg [.int .i64 x_x4.Op,.int .i64 x_x4.A,.int .i64 x_x4.B,.int .i64 x_x4.C,.int .u64 x_x4.Imm]) r r r r r r r r r<|nI<|xS<|sQ<|rG<|fA r r<|lO (v:=.int .i64 x_x4.A) (z:=.agg [.int .i64 x_x4.Op,.int .i64 x_x4.A,.int .i64 x_x4.B,.int .i64 x_x4.C,.int .u64 x_x4.Imm]) r r r r r r<|fA r r<|lO (v:=.int .i64 x_x4.B) (z:=.agg [.int .i64 x_x4.Op,.int .i64 x_x4.A,.int .i64 x_x4.B,.int .i64 x_x4.C,.int .u64 x_x4.Imm]) r r r r r r<|bL (cs:=[.int .i64 x_x4.A,.int .i64 x_x4.B]) (ps:=[(0,1,.int .i64 x_x4.A),(1,1,.int .i64 x_x4.B)]) r r r r<|nW r<|sV (z':=.agg [.int .i64 x_x4.A,.int .i64 x_x4.B]) r r r r r r r r r<|nI<|xS<|sQ<|rG<|fA r r<|lO (v:=.int .i64 x_x4.Op) (z:=.agg [.int .i64 x_x4.Op,.int .i64 x_x4.A,.int .i64 x_x4.B,.int .i64 x_x4.C,.int .u64 x_x4.Imm]) r r r r r r<|bN (v:=.bool (x_x4.Op == 17)) r r r r r<|mV r r<|sP 22 (b:=(x_x4.Op == 17)) r ?_ ?_
  ·refine fA r r<|lO (v:=.int .i64 x_x4.A) (z:=.agg [.int .i64 x_x4.Op,.int .i64 x_x4.A,.int .i64 x_x4.B,.int .i64 x_x4.C,.int .u64 x_x4.Imm]) r r r r r r<|fA r r<|lO (v:=.int .i64 x_x4.B) (z:=.agg [.int .i64 x_x4.Op,.int .i64 x_x4.A,.int .i64 x_x4.B,.int .i64 x_x4.C,.int .u64 x_x4.Imm]) r r r r r r<|bN (v:=.bool (x_x4.A != x_x4.B)) r r r r r<|pT r r r r<|mV r r<|sP 29 (b:=(x_x4.A != x_x4.B)) r ?_ ?_
   ·refine mV r r<|lO (v:=.agg [.int .i64 x_x4.A,.int .i64 x_x4.B]) (z:=.agg [.int .i64 x_x4.A,.int .i64 x_x4.B]) r r r r r r<|bD fun r5 hr5=>cG (l2,(JB.mk x_x4.A x_x4.B)) r r r Pt r r (by simp) (by first | rfl | (simp only [JC,JJ]; rfl) | simp [KZ,KT]) hr5 r<|uN (w:=.bool (!r5)) r r r r trivial<|pT r r r r<|nI<|xS<|cD (c:=(!r5)) r ?_ ?_
    ·exact rG<|mV r r<|lO (v:=.agg [.int .i64 x_x4.A,.int .i64 x_x4.B]) (z:=.agg [.int .i64 x_x4.A,.int .i64 x_x4.B]) r r r r r r<|bS ([(JB.mk x_x4.A x_x4.B)] : List JB) KT r r r (by simp) r r r<|cK fun hq=>aP (l2) (([(JB.mk x_x4.A x_x4.B)] : List JB)) KT r r r r r r r (by simp) (JI _ _ r) r r (by simp) (Jl _ _ r) (fun _=>r) r hq<|aO (l:=l2 ++ ([(JB.mk x_x4.A x_x4.B)] : List JB)) (en:=KT) r r r r<|nI<|bM<|xS<|rG<|bN (v:=.int .i64 (IntKind.i64.wrap (x3 + 1))) r r r r r<|mV r r<|nI<|xL (s:=(l2 ++ ([(JB.mk x_x4.A x_x4.B)] : List JB),IntKind.i64.wrap (x3 + 1))) _ ((hE ⟨rfl,r,r,r,trivial⟩ ⟨rfl,trivial⟩))
    ·exact sK<|bM<|xS<|rG<|bN (v:=.int .i64 (IntKind.i64.wrap (x3 + 1))) r r r r r<|mV r r<|nI<|xL (s:=(l2,IntKind.i64.wrap (x3 + 1))) _ ((hE ⟨rfl,r,r,r,trivial⟩ ⟨rfl,trivial⟩))
   ·exact oF r<|oF r<|oF r<|oF r<|pF r r r r<|nI<|xS<|ML r<|sK<|bM<|xS<|rG<|bN (v:=.int .i64 (IntKind.i64.wrap (x3 + 1))) r r r r r<|mV r r<|nI<|xL (s:=(l2,IntKind.i64.wrap (x3 + 1))) _ ((hE ⟨rfl,r,r,r,trivial⟩ ⟨rfl,trivial⟩))
  ·exact oF r<|oF r<|oF r<|oF r<|oF r<|pF r r r r<|mV r r<|oF r<|oF r<|oF r<|oF r<|pF r r r r<|nI<|xS<|ML r<|sK<|bM<|xS<|rG<|bN (v:=.int .i64 (IntKind.i64.wrap (x3 + 1))) r r r r r<|mV r r<|nI<|xL (s:=(l2,IntKind.i64.wrap (x3 + 1))) _ ((hE ⟨rfl,r,r,r,trivial⟩ ⟨rfl,trivial⟩))
 ·refine eT<|xE<|lE<|bH<|xS<|sQ<|rG<|mV r r<|aO (l:=l2) (en:=KT) r r r r<|nI<|xS<|rT<|JN (b:=l2) r ?_ r r ?_ r ?_ (congrArg D.sl (Jl _ _ r)) r
  all_goals first|(simp;done)|(simp;omega)|rfl|(simp [Jk,Ji];done)

def AeD : Jt:=(.seq (.reg [P 0 (.asg (.c (.bool false)) none)] false) (.seq (.reg [⟨(some 2),(.bld [(.int .i64 0),(.int .i64 0)] [⟨0,⟨1,(C 8)⟩⟩,⟨1,⟨1,(C 8)⟩⟩]),none,[]⟩,⟨(some 3),(.bld [(.int .i64 0),(.int .i64 0)] [⟨0,⟨1,(C 8)⟩⟩,⟨1,⟨1,(C 8)⟩⟩]),none,[]⟩,⟨(some 4),(.bldS 2 48 (.agg [(.int .i64 0),(.int .i64 0)]) 2 [⟨0,(T 2)⟩,⟨1,(T 3)⟩]),none,[]⟩,⟨(some 5),(.bld [(.int .i64 0),(.int .i64 0),(.int .i64 0),(.int .i64 0),(.int .u64 0)] [⟨0,⟨1,(C 17)⟩⟩,⟨2,⟨1,(C 1)⟩⟩]),none,[]⟩,⟨(some 6),(.bld [(.int .i64 0),(.int .i64 0),(.int .i64 0),(.int .i64 0),(.int .u64 0)] [⟨0,⟨1,(C 23)⟩⟩]),none,[]⟩,⟨(some 7),(.bldS 5 57 (.agg [(.int .i64 0),(.int .i64 0),(.int .i64 0),(.int .i64 0),(.int .u64 0)]) 2 [⟨0,(T 5)⟩,⟨1,(T 6)⟩]),none,[]⟩,⟨(some 8),(.bld [(.int .i64 0),.nils,.nils] [⟨1,⟨1,(T 4)⟩⟩,⟨2,⟨1,(T 7)⟩⟩]),none,[]⟩,P 1 (.new (.agg [(.int .i64 0),.nils,.nils]) 3 33),⟨none,(.st 3 (T 1) (T 8)),none,[]⟩] false) (.seq (.reg [P 9 (.ld 3 true (T 1)),P 10 (.call (.c (.clo 26 [])) [(T 9)]),P 11 (.len false (T 10)),P 12 (.bin .eql (T 11) (C 1)),P 0 (.asg (T 12) none)] false) .ret)))
theorem AgR : (Tryd.f12.body.bind (Ju Tryd.prog Tryd.f12.ntmps)) = some AeD:=by kernel_rfl
theorem AgS : Tryd.f12.results.toList.mapM (JE Tryd.prog) = some [(.t 0)]:=by kernel_rfl
def UJ (a : Unit) : List D:=[]
def UI (ds : List D) : Unit:=()
theorem Zc (a : Unit) : UI (UJ a) = a:=by simp [UI,UJ]
def ZI (b : Bool) : D:=.bool b
def ZH (_b : Bool) : List D:=[]
noncomputable def WI : Dw.Spec:=Js [] .ground UJ UI (fun a=>Re) ZI ZH
set_option maxHeartbeats 4000000 in
theorem AbL : Jr Tryd.prog 12 WI:=by
 refine JA (Jw (l:=[(26,Tf)]) (by simp [Aam])) Tryd.func12 (by decide) AgR AgS (np:=0) (by decide) Zc (fun _=>r) (fun _=>r) (by decide)<|?_
 intro _
 show TrE (specs [(26,Tf)]) AeD (JH [] .ground [(.t 0)] ZI ZH) ⟨[],[],262144⟩ (Re)
 refine Jv<|?_
 unfold AeD Re
 refine sQ<|rG<|aS r r<|nI<|xS<|sQ<|rG<|bL (cs:=[.int .i64 8,.int .i64 8]) (ps:=[(0,1,.int .i64 8),(1,1,.int .i64 8)]) r r r r<|bL (cs:=[.int .i64 8,.int .i64 8]) (ps:=[(0,1,.int .i64 8),(1,1,.int .i64 8)]) r r r r<|bS ([(JK.mk 8 8),(JK.mk 8 8)] : List JK) Jj r r r (by simp) r r r<|bL (cs:=[.int .i64 17,.int .i64 0,.int .i64 1,.int .i64 0,.int .u64 0]) (ps:=[(0,1,.int .i64 17),(2,1,.int .i64 1)]) r r r r<|bL (cs:=[.int .i64 23,.int .i64 0,.int .i64 0,.int .i64 0,.int .u64 0]) (ps:=[(0,1,.int .i64 23)]) r r r r<|bS ([(Je.mk 17 0 1 0 0),(Je.mk 23 0 0 0 0)] : List Je) Jg r r r (by simp) r r r<|bL (cs:=[.int .i64 0,.osl 4 _ 0 (([(JK.mk 8 8),(JK.mk 8 8)] : List JK).length),.osl 7 _ 0 (([(Je.mk 17 0 1 0 0),(Je.mk 23 0 0 0 0)] : List Je).length)]) (ps:=[(1,1,.osl 4 _ 0 (([(JK.mk 8 8),(JK.mk 8 8)] : List JK).length)),(2,1,.osl 7 _ 0 (([(Je.mk 17 0 1 0 0),(Je.mk 23 0 0 0 0)] : List Je).length))]) r r r r<|nW r<|sV (z':=.agg [.int .i64 0,.osl 4 _ 0 (([(JK.mk 8 8),(JK.mk 8 8)] : List JK).length),.osl 7 _ 0 (([(Je.mk 17 0 1 0 0),(Je.mk 23 0 0 0 0)] : List Je).length)]) r r r r r r r r r<|nI<|xS<|sQ<|rG<|lO (v:=.agg [.int .i64 0,.osl 4 _ 0 (([(JK.mk 8 8),(JK.mk 8 8)] : List JK).length),.osl 7 _ 0 (([(Je.mk 17 0 1 0 0),(Je.mk 23 0 0 0 0)] : List Je).length)]) (z:=.agg [.int .i64 0,.osl 4 _ 0 (([(JK.mk 8 8),(JK.mk 8 8)] : List JK).length),.osl 7 _ 0 (([(Je.mk 17 0 1 0 0),(Je.mk 23 0 0 0 0)] : List Je).length)]) r r r r r r<|bD fun r1 hr1=>cR (l:=r1) (en:=KT) (Jh.mk 0 ([(JK.mk 8 8),(JK.mk 8 8)] : List JK) ([(Je.mk 17 0 1 0 0),(Je.mk 23 0 0 0 0)] : List Je)) r r r Wl r r (by simp) (by first | rfl | (simp only [JC,JJ]; rfl) | simp [OO,JS]) hr1 r<|lW r r<|bN (v:=.bool ((r1.length : Int) == 1)) r r r r r<|aS r r<|nI<|xS<|rT<|Jo (b:=((r1.length : Int) == 1)) r ?_ r r ?_ r
 all_goals first|(simp;done)|(simp;omega)|rfl|(simp [Jk,Ji];done)

def dc6 : Jt:=(.seq (.reg [P 4 (.asg (.c .top) none)] false) (.seq (.reg [M 5 0,M 6 0,P 7 (.len false (T 6)),M 8 1,P 9 (.min [(T 7),(T 8)]),P 10 (.slc 1 (T 5) none (some (T 9))),⟨(some 11),(.bld [.nils,(.int .i64 0)] [⟨0,⟨1,(T 10)⟩⟩]),none,[]⟩,P 12 (.box (T 11) 2 59),P 4 (.asg (T 12) none)] false) .ret))
theorem AjN : (Tryd.f6.body.bind (Ju Tryd.prog Tryd.f6.ntmps)) = some dc6:=by kernel_rfl
theorem AjO : Tryd.f6.results.toList.mapM (JE Tryd.prog) = some [(.t 4)]:=by kernel_rfl
def XN (a : (List Int) × Int) : List D:=[.sl (a.1.map eU8),.int .i64 a.2]
def XM (ds : List D) : (List Int) × Int:=((uL uI) (ds.getD 0 .top),uI (ds.getD 1 .top))
theorem AaT (a : (List Int) × Int) : XM (XN a) = a:=by simp [XM,XN,uI,KE (u:=uI) (en:=eU8) (fun _=>rfl)]
def Abu (b : Jd) : D:=JF b
def Abt (_b : Jd) : List D:=[]
noncomputable def Zt : Dw.Spec:=Js [] (.ptr 2 59) XN XM (fun a=>Vp a.1 a.2) Abu Abt
set_option maxHeartbeats 4000000 in
theorem Adn : Jr Tryd.prog 6 Zt:=by
 refine JA (JW) Tryd.func6 (by decide) AjN AjO (np:=2) (by decide) AaT (fun _=>r) (fun _=>r) (by decide)<|?_
 rintro ⟨list1,limit2⟩
 show TrE (specs []) dc6 (JH [] (.ptr 2 59) [(.t 4)] Abu Abt) ⟨[(0,.sl (list1.map eU8)),(1,.int .i64 limit2)],[],262144⟩ (Vp list1 limit2)
 refine Jv<|?_
 unfold dc6 Vp
 refine sQ<|rG<|aS r r<|nI<|xS<|sQ<|rG<|mV r r<|mV r r<|lS r r<|mV r r<|AgF r r r<|cK fun hq=>Acq (l:=list1) (en:=eU8) r r r (fun _=>r) r hq<|bL (cs:=[.sl ((list1.take (UM (list1.length : Int) limit2).toNat).map eU8),.int .i64 0]) (ps:=[(0,1,.sl ((list1.take (UM (list1.length : Int) limit2).toNat).map eU8))]) r r r r<|bX r r r r r<|aS r r<|nI<|xS<|rT<|AaH (b:=(Jd.mk (list1.take (UM (list1.length : Int) limit2).toNat) 0)) r ?_ r ?_ r r ?_ r
 all_goals first|(simp;done)|(simp;omega)|rfl|(simp [Jk,Ji];done)

def AeL : Jt:=(.seq (.reg [P 2 (.asg (.c (.bool false)) none)] false) (.seq (.reg [M 3 0,⟨(some 4),(.nilck (T 3)),none,[0]⟩,⟨(some 5),(.fldA 1 (T 4)),none,[1]⟩,⟨(some 6),(.ld 1 false (T 5)),none,[2]⟩,M 7 0,⟨(some 8),(.nilck (T 7)),none,[4]⟩,⟨(some 9),(.fldA 0 (T 8)),none,[5]⟩,⟨(some 10),(.ld 1 false (T 9)),none,[6]⟩,⟨(some 11),(.len false (T 10)),none,[7]⟩,⟨(some 12),(.bin .lss (T 6) (T 11)),none,[3,8]⟩,⟨(some 2),(.asg (T 12) none),none,[9,0,1,2,3,4,5,6,7,8,9]⟩] true) .ret))
theorem Ahh : (Tryd.f20.body.bind (Ju Tryd.prog Tryd.f20.ntmps)) = some AeL:=by kernel_rfl
theorem Ahi : Tryd.f20.results.toList.mapM (JE Tryd.prog) = some [(.t 2)]:=by kernel_rfl
def Rm (a : Jd) : List D:=[JF a]
def Rl (ds : List D) : Jd:=KN (ds.getD 0 .top)
theorem Wb (a : Jd) : Rl (Rm a) = a:=by simp [Rl,Rm]
def WU (b : Bool × Jd) : D:=.bool b.1
def WT (b : Bool × Jd) : List D:=[JF b.2]
noncomputable def SX : Dw.Spec:=Js [(0,(2,59))] .val Rm Rl (fun a=>Pg a) WU WT
set_option maxHeartbeats 4000000 in
theorem Aab : Jr Tryd.prog 20 SX:=by
 refine JA (JW) Tryd.func20 (by decide) Ahh Ahi (np:=1) (by decide) Wb (fun _=>r) (fun _=>r) (by decide)<|?_
 intro c1
 show TrE (specs []) AeL (JH [(0,(2,59))] .val [(.t 2)] WU WT) ⟨[(0,.optr 8192 0 0 0)],[(8192,some (0,⟨false,true,2,59,[.agg [.sl (c1.list.map eU8),.int .i64 c1.at_]]⟩))],262144⟩ (Pg c1)
 refine Jv<|?_
 unfold AeL Pg
 refine sQ<|rG<|aS r r<|nI<|xS<|sQ<|rG<|mV r r<|nC r r r<|fA r r<|lO (v:=.int .i64 c1.at_) (z:=.agg [.sl (c1.list.map eU8),.int .i64 c1.at_]) r r r r r r<|mV r r<|nC r r r<|fA r r<|lO (v:=.sl (c1.list.map eU8)) (z:=.agg [.sl (c1.list.map eU8),.int .i64 c1.at_]) r r r r r r<|lS r r<|bN (v:=.bool (decide (c1.at_ < (c1.list.length : Int)))) r r r r r<|aS r r<|Jz (by kernel_rfl)<|xS<|rT<|JY (b:=((decide (c1.at_ < (c1.list.length : Int))),c1)) r ?_ r r ?_ r
 all_goals first|(simp;done)|(simp;omega)|rfl|(simp [Jk,Ji];done)

def dc8 : Jt:=(.seq (.reg [P 4 (.asg (C 0) none)] false) (.seq (.seq (.reg [M 6 0,P 7 (.call (.c (.clo 20 [])) [(T 6)]),P 8 (.un .not (T 7)),M 9 8,⟨(some 10),(.mv (T 1)),(some ⟨9,false⟩),[]⟩,⟨(some 11),(.bin .lss (T 10) (C 1)),(some ⟨9,false⟩),[]⟩,P 12 (.pick (T 9) (.c (.bool true)) (T 11))] false) (.cond (T 12) (.seq (.reg [P 4 (.asg (C 0) none)] false) .ret) .skip)) (.seq (.reg [M 13 0,⟨(some 14),(.nilck (T 13)),none,[0]⟩,⟨(some 15),(.fldA 0 (T 14)),none,[1]⟩,⟨(some 16),(.ld 1 false (T 15)),none,[2]⟩,M 17 0,⟨(some 18),(.nilck (T 17)),none,[4]⟩,⟨(some 19),(.fldA 1 (T 18)),none,[5]⟩,⟨(some 20),(.ld 1 false (T 19)),none,[6]⟩,⟨(some 21),(.ixA 1 (T 16) (T 20)),none,[3,7]⟩,⟨(some 22),(.ld 1 false (T 21)),none,[8]⟩,⟨(some 23),(.cvt .i64 (T 22)),none,[9]⟩,⟨(some 5),(.asg (T 23) none),none,[10,0,1,2,3,4,5,6,7,8,9,10]⟩] true) (.seq (.reg [M 24 0,P 25 (.nilck (T 24)),P 26 (.fldA 1 (T 25)),P 27 (.ld 1 false (T 26)),P 28 (.bin .add (T 27) (C 1)),P 29 (.nilck (T 24)),P 30 (.fldA 1 (T 29)),⟨none,(.st 1 (T 30) (T 28)),none,[]⟩] false) (.seq (.reg [M 31 5,M 32 1,P 33 (.bin .mul (T 31) (T 32)),P 34 (.bin .quo (T 33) (C 256)),P 4 (.asg (T 34) none)] false) .ret)))))
theorem AjR : (Tryd.f8.body.bind (Ju Tryd.prog Tryd.f8.ntmps)) = some dc8:=by kernel_rfl
theorem AjS : Tryd.f8.results.toList.mapM (JE Tryd.prog) = some [(.t 4)]:=by kernel_rfl
def Rq (a : Jd × Int) : List D:=[JF a.1,.int .i64 a.2]
def Rp (ds : List D) : Jd × Int:=(KN (ds.getD 0 .top),uI (ds.getD 1 .top))
theorem Jm (a : Jd × Int) : Rp (Rq a) = a:=by simp [Rp,Rq,uI]
def WY (b : Int × Jd) : D:=.int .i64 b.1
def WX (b : Int × Jd) : List D:=[JF b.2]
noncomputable def Jy : Dw.Spec:=Js [(0,(2,59))] .val Rq Rp (fun a=>Jn a.1 a.2) WY WX
set_option maxHeartbeats 4000000 in
theorem Kd : Jr Tryd.prog 8 Jy:=by
 refine JA (Jw (l:=[(20,SX)]) (by simp [Aab])) Tryd.func8 (by decide) AjR AjS (np:=2) (by decide) Jm (fun _=>r) (fun _=>r) (by decide)<|?_
 rintro ⟨c1,n2⟩
 show TrE (specs [(20,SX)]) dc8 (JH [(0,(2,59))] .val [(.t 4)] WY WX) ⟨[(0,.optr 8192 0 0 0),(1,.int .i64 n2)],[(8192,some (0,⟨false,true,2,59,[.agg [.sl (c1.list.map eU8),.int .i64 c1.at_]]⟩))],262144⟩ (Jn c1 n2)
 refine Jv<|?_
 unfold dc8 Jn
 refine sQ<|rG<|aS r r<|nI<|xS<|sC (E:=fun (s : (List Int) × Int) (g : Unit)=>[(0,.optr 8192 0 0 0),(1,.int .i64 n2)]) (O:=fun s g=>[(8192,some (0,⟨false,true,2,59,[.agg [.sl (s.1.map eU8),.int .i64 s.2]]⟩))]) (j:=fun s=>Pm n2 s.1 s.2) ?_ ?_
 ·refine sQ<|rG<|mV r r<|bD fun r5 hr5=>cV c1 r r r Wb r r (by simp) r hr5<|uN (w:=.bool (!r5.1)) r r r r trivial<|mV r r<|sP 9 (b:=(!r5.1)) r ?_ ?_
  ·refine oF r<|oF r<|pT r r r r<|nI<|xS<|JX r<|sQ<|rG<|aS r r<|nI<|xS<|rT<|zR<|JY (b:=(0,r5.2)) r ?_ r r ?_ r
   all_goals first|(simp;done)|(simp;omega)|rfl|(simp [Jk,Ji];done)
  ·refine mV r r<|bN (v:=.bool (decide (n2 < 1))) r r r r r<|pF r r r r<|nI<|xS<|cD (c:=(decide (n2 < 1))) r ?_ ?_
   ·refine sQ<|rG<|aS r r<|nI<|xS<|rT<|zR<|JY (b:=(0,r5.2)) r ?_ r r ?_ r
    all_goals first|(simp;done)|(simp;omega)|rfl|(simp [Jk,Ji];done)
   ·exact sK<|xC (s:=(r5.2.list,r5.2.at_)) () ((hE ⟨rfl,r,trivial⟩ ⟨rfl,trivial⟩))
 ·rintro ⟨c3,c4⟩ ⟨⟩ nn
  try dsimp only
  unfold Pm
  refine sQ<|rG<|mV r r<|nC r r r<|fA r r<|lO (v:=.sl (c3.map eU8)) (z:=.agg [.sl (c3.map eU8),.int .i64 c4]) r r r r r r<|mV r r<|nC r r r<|fA r r<|lO (v:=.int .i64 c4) (z:=.agg [.sl (c3.map eU8),.int .i64 c4]) r r r r r r<|bD fun x_x6 hx_x6=>iS (en:=eU8) r r r hx_x6 r<|lF (v:=.int .u8 x_x6) r r r r<|cT r r<|aS r r<|Jz (by kernel_rfl)<|xS<|sQ<|rG<|mV r r<|nC r r r<|fA r r<|lO (v:=.int .i64 c4) (z:=.agg [.sl (c3.map eU8),.int .i64 c4]) r r r r r r<|bN (v:=.int .i64 (IntKind.i64.wrap (c4 + 1))) r r r r r<|nC r r r<|fA r r<|Tx (i:=0) (es':=[.agg [.sl (c3.map eU8),.int .i64 (IntKind.i64.wrap (c4 + 1))]]) r r r r r r r (by first | trivial | (simp; done) | (simp; omega)) r r r r r r<|nI<|xS<|sQ<|rG<|mV r r<|mV r r<|bN (v:=.int .i64 (IntKind.i64.wrap ((IntKind.i64.wrap (x_x6)) * n2))) r r r r r<|bN (v:=.int .i64 (IntKind.i64.wrap ((IntKind.i64.wrap ((IntKind.i64.wrap (x_x6)) * n2)).tdiv 256))) r r r r ⟨rfl,(by decide)⟩<|aS r r<|nI<|xS<|rT<|JY (b:=(IntKind.i64.wrap ((IntKind.i64.wrap ((IntKind.i64.wrap (x_x6)) * n2)).tdiv 256),(Jd.mk c3 (IntKind.i64.wrap (c4 + 1))))) r ?_ r r ?_ r
  all_goals first|(simp;done)|(simp;omega)|rfl|(simp [Jk,Ji];done)

def Aft : Jt:=(.seq (.reg [P 2 (.new (.agg [(.int .i64 0),(.int .i64 0)]) 2 48)] false) (.seq (.reg [⟨(some 3),(.bldS 1 3 (.int .i64 0) 7 [⟨0,(C 8)⟩,⟨1,(C 4)⟩,⟨2,(C 8)⟩,⟨3,(C 1)⟩,⟨4,(C 2)⟩,⟨5,(C 16)⟩,⟨6,(C 8)⟩]),none,[]⟩,M 4 0,⟨(some 5),(.call (.c (.clo 8 [])) [(T 4),(C 7)]),none,[1]⟩,⟨(some 6),(.ixA 1 (T 3) (T 5)),none,[0,2]⟩,⟨(some 7),(.ld 1 false (T 6)),none,[3]⟩,⟨(some 8),(.bldS 1 3 (.int .i64 0) 8 [⟨0,(C 8)⟩,⟨1,(C 4)⟩,⟨2,(C 1)⟩,⟨3,(C 8)⟩,⟨4,(C 16)⟩,⟨5,(C 2)⟩,⟨6,(C 32)⟩,⟨7,(C 64)⟩]),none,[]⟩,M 9 0,⟨(some 10),(.call (.c (.clo 8 [])) [(T 9),(C 8)]),none,[6,2]⟩,⟨(some 11),(.ixA 1 (T 8) (T 10)),none,[5,7]⟩,⟨(some 12),(.ld 1 false (T 11)),none,[8]⟩,⟨(some 13),(.bld [(.int .i64 0),(.int .i64 0)] [⟨0,⟨1,(T 7)⟩⟩,⟨1,⟨1,(T 12)⟩⟩]),none,[4,9]⟩,⟨none,(.st 2 (T 2) (T 13)),none,[10,7,0,1,2,3,4,5,6,7,8,9,10]⟩] true) .ret))
theorem Aix : (Tryd.f63.body.bind (Ju Tryd.prog Tryd.f63.ntmps)) = some Aft:=by kernel_rfl
theorem Aiy : Tryd.f63.results.toList.mapM (JE Tryd.prog) = some [(.c 2 2 true)]:=by kernel_rfl
def Rs (a : Jd) : List D:=[JF a]
def Rr (ds : List D) : Jd:=KN (ds.getD 0 .top)
theorem We (a : Jd) : Rr (Rs a) = a:=by simp [Rr,Rs]
def Xa (b : JK × Jd) : D:=Jj b.1
def WZ (b : JK × Jd) : List D:=[JF b.2]
noncomputable def SZ : Dw.Spec:=Js [(0,(2,59))] .val Rs Rr (fun a=>NJ a) Xa WZ
set_option maxHeartbeats 4000000 in
theorem Aad : Jr Tryd.prog 63 SZ:=by
 refine JA (Jw (l:=[(8,Jy)]) (by simp [Kd])) Tryd.func63 (by decide) Aix Aiy (np:=1) (by decide) We (fun _=>r) (fun _=>r) (by decide)<|?_
 intro c1
 show TrE (specs [(8,Jy)]) Aft (JH [(0,(2,59))] .val [(.c 2 2 true)] Xa WZ) ⟨[(0,.optr 8192 0 0 0)],[(8192,some (0,⟨false,true,2,59,[.agg [.sl (c1.list.map eU8),.int .i64 c1.at_]]⟩))],262144⟩ (NJ c1)
 refine Jv<|?_
 unfold Aft NJ
 refine sQ<|rG<|nW r<|nI<|xS<|sQ<|rG<|bS ([8,4,8,1,2,16,8] : List Int) Jc r r r (by simp) r r r<|mV r r<|bD fun r2 hr2=>cV (c1,7) r r r Jm r r (by simp) r hr2<|cK fun hq=>iO (l:=([8,4,8,1,2,16,8] : List Int)) (en:=Jc) r r r r r hq<|bD fun x_e3 hx_e3=>lO (v:=.int .i64 x_e3) (z:=Jc x_e3) r r r (MI hx_e3) r r<|bS ([8,4,1,8,16,2,32,64] : List Int) Jc r r r (by simp) r r r<|mV r r<|bD fun r4 hr4=>cV (r2.2,8) r r r Jm r r (by simp) r hr4<|cK fun hq=>iO (l:=([8,4,1,8,16,2,32,64] : List Int)) (en:=Jc) r r r r r hq<|bD fun x_e5 hx_e5=>lO (v:=.int .i64 x_e5) (z:=Jc x_e5) r r r (MI hx_e5) r r<|bL (cs:=[.int .i64 x_e3,.int .i64 x_e5]) (ps:=[(0,1,.int .i64 x_e3),(1,1,.int .i64 x_e5)]) r r r r<|sV (z':=.agg [.int .i64 x_e3,.int .i64 x_e5]) r r r r r r r r r<|Jz (by kernel_rfl)<|xS<|rT<|JY (b:=((JK.mk x_e3 x_e5),r4.2)) r ?_ r r ?_ r
 all_goals first|(simp;done)|(simp;omega)|rfl|(simp [Jk,Ji];done)

def AeY : Jt:=(.seq (.reg [⟨(some 4),(.asg (.c .nils) (some ⟨2,48⟩)),none,[]⟩] false) (.seq (.reg [⟨(some 5),(.asg (.c .nils) (some ⟨2,48⟩)),none,[]⟩] false) (.seq (.seq (.reg [M 7 0,M 8 1,P 9 (.bin .add (T 8) (C 1)),P 10 (.call (.c (.clo 8 [])) [(T 7),(T 9)]),P 6 (.asg (T 10) none)] false) (.block 0 (.loop (.seq (.seq (.reg [M 11 6,P 12 (.bin .gtr (T 11) (C 0))] false) (.cond (T 12) .skip (.exit 0))) (.seq (.block 1 (.reg [M 15 5,M 16 0,P 17 (.call (.c (.clo 63 [])) [(T 16)]),⟨(some 18),(.bldS 2 48 (.agg [(.int .i64 0),(.int .i64 0)]) 1 [⟨0,(T 17)⟩]),none,[]⟩,P 19 (.app 2 48 16 (T 15) (T 18)),⟨(some 5),(.asg (T 19) (some ⟨2,48⟩)),none,[]⟩] false)) (.reg [M 13 6,P 14 (.bin .sub (T 13) (C 1)),P 6 (.asg (T 14) none)] false)))))) (.seq (.reg [M 20 5,⟨(some 4),(.asg (T 20) (some ⟨2,48⟩)),none,[]⟩] false) .ret))))
theorem AhH : (Tryd.f37.body.bind (Ju Tryd.prog Tryd.f37.ntmps)) = some AeY:=by kernel_rfl
theorem AhI : Tryd.f37.results.toList.mapM (JE Tryd.prog) = some [(.t 4)]:=by kernel_rfl
def QG (a : Jd × Int) : List D:=[JF a.1,.int .i64 a.2]
def QF (ds : List D) : Jd × Int:=(KN (ds.getD 0 .top),uI (ds.getD 1 .top))
theorem Vd (a : Jd × Int) : QF (QG a) = a:=by simp [QF,QG,uI]
def Wg (b : (List JK) × Jd) : D:=.sl (b.1.map Jj)
def Wf (b : (List JK) × Jd) : List D:=[JF b.2]
noncomputable def Sb : Dw.Spec:=Js [(0,(2,59))] (.row 2 48) QG QF (fun a=>Nb a.1 a.2) Wg Wf
set_option maxHeartbeats 4000000 in
theorem ZY : Jr Tryd.prog 37 Sb:=by
 refine JA (Jw (l:=[(8,Jy),(63,SZ)]) (by simp [Kd,Aad])) Tryd.func37 (by decide) AhH AhI (np:=2) (by decide) Vd (fun _=>r) (fun _=>r) (by decide)<|?_
 rintro ⟨c1,most2⟩
 show TrE (specs [(8,Jy),(63,SZ)]) AeY (JH [(0,(2,59))] (.row 2 48) [(.t 4)] Wg Wf) ⟨[(0,.optr 8192 0 0 0),(1,.int .i64 most2)],[(8192,some (0,⟨false,true,2,59,[.agg [.sl (c1.list.map eU8),.int .i64 c1.at_]]⟩))],262144⟩ (Nb c1 most2)
 refine Jv<|?_
 unfold AeY Nb
 refine sQ<|rG<|aN (α:=JK) r Jj r<|nI<|xS<|sQ<|rG<|aN (α:=JK) r Jj r<|nI<|xS<|sQ<|sQ<|rG<|mV r r<|mV r r<|bN (v:=.int .i64 (IntKind.i64.wrap (most2 + 1))) r r r r r<|bD fun r3 hr3=>cV (c1,IntKind.i64.wrap (most2 + 1)) r r r Jm r r (by simp) r hr3<|aS r r<|nI<|xS<|bK<|lP (E:=fun (s : (List Int) × Int × (List JK) × Int) (g : Nat)=>[(0,.optr 8192 0 0 0),(5,.osl 5 g 0 s.2.2.1.length),(6,.int .i64 s.2.2.2)]) (O:=fun s g=>[(5,some (g,⟨false,false,2,48,s.2.2.1.map Jj⟩)),(8192,some (0,⟨false,true,2,59,[.agg [.sl (s.1.map eU8),.int .i64 s.2.1]]⟩))]) (body:=fun s=>OM s.1 s.2.1 s.2.2.1 s.2.2.2) (s:=(r3.2.list,r3.2.at_,([] : List JK),r3.1)) _ ((hE ⟨rfl,r,r,trivial⟩ ⟨rfl,r,trivial⟩))<|?_
 rintro ⟨c4,c5,l6,n7⟩ v5x1 nn
 try dsimp only
 unfold OM
 refine sQ<|sQ<|rG<|mV r r<|bN (v:=.bool (decide (n7 > 0))) r r r r r<|nI<|xS<|cD (c:=(decide (n7 > 0))) r ?_ ?_
 ·exact sK<|xS<|sQ<|bK<|rG<|mV r r<|mV r r<|bD fun r8 hr8=>cV (Jd.mk c4 c5) r r r We r r (by simp) r hr8<|bS ([r8.1] : List JK) Jj r r r (by simp) r r r<|cK fun hq=>aP (l6) (([r8.1] : List JK)) Jj r r r r r r r (by simp) (JI _ _ r) r r (by simp) (Jl _ _ r) (fun _=>r) r hq<|aO (l:=l6 ++ ([r8.1] : List JK)) (en:=Jj) r r r r<|nI<|bM<|xS<|rG<|mV r r<|bN (v:=.int .i64 (IntKind.i64.wrap (n7 - 1))) r r r r r<|aS r r<|nI<|xL (s:=(r8.2.list,r8.2.at_,l6 ++ ([r8.1] : List JK),IntKind.i64.wrap (n7 - 1))) _ ((hE ⟨rfl,r,r,trivial⟩ ⟨rfl,r,trivial⟩))
 ·refine eT<|xE<|lE<|bH<|xS<|sQ<|rG<|mV r r<|aO (l:=l6) (en:=Jj) r r r r<|nI<|xS<|rT<|JN (b:=(l6,(Jd.mk c4 c5))) r ?_ r r ?_ r ?_ (congrArg D.sl (Jl _ _ r)) r
  all_goals first|(simp;done)|(simp;omega)|rfl|(simp [Jk,Ji];done)

def Afu : Jt:=(.seq (.reg [P 4 (.box (T 1) 3 33),P 6 (.asg (C 0) none)] false) (.seq (.reg [⟨(some 7),(.asg (.c .nils) (some ⟨1,3⟩)),none,[]⟩] false) (.seq (.seq (.reg [P 8 (.asg (C 0) none)] false) (.block 0 (.loop (.seq (.seq (.reg [M 9 8,P 10 (.fldA 1 (T 4)),P 11 (.ld 1 false (T 10)),P 12 (.len false (T 11)),P 13 (.bin .lss (T 9) (T 12))] false) (.cond (T 13) .skip (.exit 0))) (.seq (.block 1 (.seq (.reg [P 16 (.fldA 1 (T 4)),⟨(some 17),(.ld 1 false (T 16)),none,[0]⟩,M 18 8,⟨(some 19),(.ixA 2 (T 17) (T 18)),none,[1,2]⟩,⟨(some 20),(.fldA 0 (T 19)),none,[3]⟩,⟨(some 21),(.ld 1 false (T 20)),none,[4]⟩,P 22 (.fldA 1 (T 4)),⟨(some 23),(.ld 1 false (T 22)),none,[6]⟩,M 24 2,⟨(some 25),(.ixA 2 (T 23) (T 24)),none,[7,8]⟩,⟨(some 26),(.fldA 0 (T 25)),none,[9]⟩,⟨(some 27),(.ld 1 false (T 26)),none,[10]⟩,⟨(some 28),(.bin .eql (T 21) (T 27)),none,[5,11]⟩] true) (.cond (T 28) (.reg [M 29 7,M 30 8,⟨(some 31),(.bldS 1 3 (.int .i64 0) 1 [⟨0,(T 30)⟩]),none,[]⟩,P 32 (.app 1 3 8 (T 29) (T 31)),⟨(some 7),(.asg (T 32) (some ⟨1,3⟩)),none,[]⟩] false) .skip))) (.reg [M 14 8,P 15 (.bin .add (T 14) (C 1)),P 8 (.asg (T 15) none)] false)))))) (.seq (.reg [M 33 7,M 34 0,M 35 7,P 36 (.len false (T 35)),P 37 (.call (.c (.clo 8 [])) [(T 34),(T 36)]),P 38 (.ixA 1 (T 33) (T 37)),P 39 (.ld 1 false (T 38)),P 6 (.asg (T 39) none)] false) .ret))))
theorem Aiz : (Tryd.f64.body.bind (Ju Tryd.prog Tryd.f64.ntmps)) = some Afu:=by kernel_rfl
theorem AiA : Tryd.f64.results.toList.mapM (JE Tryd.prog) = some [(.t 6)]:=by kernel_rfl
def Ry (a : Jd × Jh × Int) : List D:=[JF a.1,JS a.2.1,.int .i64 a.2.2]
def Rx (ds : List D) : Jd × Jh × Int:=(KN (ds.getD 0 .top),Mn (ds.getD 1 .top),uI (ds.getD 2 .top))
theorem Wj (a : Jd × Jh × Int) : Rx (Ry a) = a:=by simp [Rx,Ry,uI]
def Xg (b : Int × Jd) : D:=.int .i64 b.1
def Xf (b : Int × Jd) : List D:=[JF b.2]
noncomputable def Tb : Dw.Spec:=Js [(0,(2,59))] .val Ry Rx (fun a=>NL a.1 a.2.1 a.2.2) Xg Xf
set_option maxHeartbeats 4000000 in
theorem Aaf : Jr Tryd.prog 64 Tb:=by
 refine JA (Jw (l:=[(8,Jy)]) (by simp [Kd])) Tryd.func64 (by decide) Aiz AiA (np:=3) (by decide) Wj (fun _=>r) (fun _=>r) (by decide)<|?_
 rintro ⟨c1,f2,s3⟩
 show TrE (specs [(8,Jy)]) Afu (JH [(0,(2,59))] .val [(.t 6)] Xg Xf) ⟨[(0,.optr 8192 0 0 0),(1,.agg [.int .i64 f2.Params,.sl (f2.Slots.map Jj),.sl (f2.Code.map Jg)]),(2,.int .i64 s3)],[(8192,some (0,⟨false,true,2,59,[.agg [.sl (c1.list.map eU8),.int .i64 c1.at_]]⟩))],262144⟩ (NL c1 f2 s3)
 refine Jv<|?_
 unfold Afu NL
 refine sQ<|rG<|bX r r r r r<|aS r r<|nI<|xS<|sQ<|rG<|aN (α:=Int) r Jc r<|nI<|xS<|sQ<|sQ<|rG<|aS r r<|nI<|xS<|bK<|lP (E:=fun (s : (List Int) × Int) (g : Nat × Nat)=>[(0,.optr 8192 0 0 0),(2,.int .i64 s3),(4,.optr 4 g.1 0 0),(7,.osl 7 g.2 0 s.1.length),(8,.int .i64 s.2)]) (O:=fun s g=>[(4,some (g.1,⟨false,true,3,33,[.agg [.int .i64 f2.Params,.sl (f2.Slots.map Jj),.sl (f2.Code.map Jg)]]⟩)),(7,some (g.2,⟨false,false,1,3,s.1.map Jc⟩)),(8192,some (0,⟨false,true,2,59,[.agg [.sl (c1.list.map eU8),.int .i64 c1.at_]]⟩))]) (body:=fun s=>Po f2 s3 c1 s.1 s.2) (s:=(([] : List Int),0)) (_,_) ((hE ⟨rfl,r,r,r,r,trivial⟩ ⟨rfl,r,r,trivial⟩))<|?_
 rintro ⟨l4,k5⟩ ⟨v4x1,v7x1⟩ nn
 try dsimp only
 unfold Po
 refine sQ<|sQ<|rG<|mV r r<|fA r r<|lO (v:=.sl (f2.Slots.map Jj)) (z:=.agg [.int .i64 f2.Params,.sl (f2.Slots.map Jj),.sl (f2.Code.map Jg)]) r r r r r r<|lS r r<|bN (v:=.bool (decide (k5 < (f2.Slots.length : Int)))) r r r r r<|nI<|xS<|cD (c:=(decide (k5 < (f2.Slots.length : Int)))) r ?_ ?_
 ·refine sK<|xS<|sQ<|bK<|sQ<|rG<|fA r r<|lO (v:=.sl (f2.Slots.map Jj)) (z:=.agg [.int .i64 f2.Params,.sl (f2.Slots.map Jj),.sl (f2.Code.map Jg)]) r r r r r r<|mV r r<|bD fun x_x6 hx_x6=>iS (en:=Jj) r r r hx_x6 r<|fF r r<|lF (v:=.int .i64 x_x6.Size) r r r r<|fA r r<|lO (v:=.sl (f2.Slots.map Jj)) (z:=.agg [.int .i64 f2.Params,.sl (f2.Slots.map Jj),.sl (f2.Code.map Jg)]) r r r r r r<|mV r r<|bD fun x_x7 hx_x7=>iS (en:=Jj) r r r hx_x7 r<|fF r r<|lF (v:=.int .i64 x_x7.Size) r r r r<|bN (v:=.bool (x_x6.Size == x_x7.Size)) r r r r r<|Jz (by kernel_rfl)<|xS<|cD (c:=(x_x6.Size == x_x7.Size)) r ?_ ?_
  ·exact rG<|mV r r<|mV r r<|bS ([k5] : List Int) Jc r r r (by simp) r r r<|cK fun hq=>aP (l4) (([k5] : List Int)) Jc r r r r r r r (by simp) (JI _ _ r) r r (by simp) (Jl _ _ r) (fun _=>r) r hq<|aO (l:=l4 ++ ([k5] : List Int)) (en:=Jc) r r r r<|nI<|bM<|xS<|rG<|mV r r<|bN (v:=.int .i64 (IntKind.i64.wrap (k5 + 1))) r r r r r<|aS r r<|nI<|xL (s:=(l4 ++ ([k5] : List Int),IntKind.i64.wrap (k5 + 1))) (_,_) ((hE ⟨rfl,r,r,r,r,trivial⟩ ⟨rfl,r,r,trivial⟩))
  ·exact sK<|bM<|xS<|rG<|mV r r<|bN (v:=.int .i64 (IntKind.i64.wrap (k5 + 1))) r r r r r<|aS r r<|nI<|xL (s:=(l4,IntKind.i64.wrap (k5 + 1))) (_,_) ((hE ⟨rfl,r,r,r,r,trivial⟩ ⟨rfl,r,r,trivial⟩))
 ·refine eT<|xE<|lE<|bH<|xS<|sQ<|rG<|mV r r<|mV r r<|mV r r<|lW r r<|bD fun r8 hr8=>cV (c1,(l4.length : Int)) r r r Jm r r (by simp) r hr8<|cK fun hq=>iO (l:=l4) (en:=Jc) r r r r r hq<|bD fun l_e9 hl_e9=>lO (v:=.int .i64 l_e9) (z:=Jc l_e9) r r r (MI hl_e9) r r<|aS r r<|nI<|xS<|rT<|JY (b:=(l_e9,r8.2)) r ?_ r r ?_ r
  all_goals first|(simp;done)|(simp;omega)|rfl|(simp [Jk,Ji];done)

def Afa : Jt:=(.seq (.reg [P 2 (.asg (.c (.int .u64 0)) none)] false) (.seq (.seq (.reg [M 3 0,P 4 (.call (.c (.clo 8 [])) [(T 3),(C 6)])] false) (.block 0 (.seq (.reg [P 6 (.bin .eql (T 4) (C 0)),P 5 (.asg (T 6) none)] false) (.cond (T 5) (.seq (.reg [M 7 0,P 8 (.call (.c (.clo 8 [])) [(T 7),(C 3)]),P 9 (.cvt .u64 (T 8)),P 10 (.bin .sub (.c (.int .u64 18446744073709551615)) (T 9)),P 2 (.asg (T 10) none)] false) .ret) (.seq (.reg [P 12 (.bin .eql (T 4) (C 1)),P 11 (.asg (T 12) none)] false) (.cond (T 11) (.seq (.reg [M 13 0,P 14 (.call (.c (.clo 8 [])) [(T 13),(C 64)]),P 15 (.bin .shl (.c (.int .u64 1)) (T 14)),P 2 (.asg (T 15) none)] false) .ret) (.seq (.reg [P 17 (.bin .eql (T 4) (C 2)),P 16 (.asg (T 17) none)] false) (.cond (T 16) (.seq (.reg [P 2 (.asg (.c (.int .u64 0)) none)] false) .ret) .skip)))))))) (.seq (.reg [M 18 0,P 19 (.call (.c (.clo 8 [])) [(T 18),(C 256)]),P 20 (.cvt .u64 (T 19)),P 2 (.asg (T 20) none)] false) .ret)))
theorem AhL : (Tryd.f39.body.bind (Ju Tryd.prog Tryd.f39.ntmps)) = some Afa:=by kernel_rfl
theorem AhM : Tryd.f39.results.toList.mapM (JE Tryd.prog) = some [(.t 2)]:=by kernel_rfl
def Ru (a : Jd) : List D:=[JF a]
def Rt (ds : List D) : Jd:=KN (ds.getD 0 .top)
theorem Sc (a : Jd) : Rt (Ru a) = a:=by simp [Rt,Ru]
def Xc (b : Int × Jd) : D:=.int .u64 b.1
def Xb (b : Int × Jd) : List D:=[JF b.2]
noncomputable def Oe : Dw.Spec:=Js [(0,(2,59))] .val Ru Rt (fun a=>My a) Xc Xb
set_option maxHeartbeats 4000000 in
theorem Wh : Jr Tryd.prog 39 Oe:=by
 refine JA (Jw (l:=[(8,Jy)]) (by simp [Kd])) Tryd.func39 (by decide) AhL AhM (np:=1) (by decide) Sc (fun _=>r) (fun _=>r) (by decide)<|?_
 intro c1
 show TrE (specs [(8,Jy)]) Afa (JH [(0,(2,59))] .val [(.t 2)] Xc Xb) ⟨[(0,.optr 8192 0 0 0)],[(8192,some (0,⟨false,true,2,59,[.agg [.sl (c1.list.map eU8),.int .i64 c1.at_]]⟩))],262144⟩ (My c1)
 refine Jv<|?_
 unfold Afa My
 refine sQ<|rG<|aS r r<|nI<|xS<|sQ<|sQ<|rG<|mV r r<|bD fun r2 hr2=>cV (c1,6) r r r Jm r r (by simp) r hr2<|nI<|xS<|bK<|sQ<|rG<|bN (v:=.bool (r2.1 == 0)) r r r r r<|aS r r<|nI<|xS<|cD (c:=(r2.1 == 0)) r ?_ ?_
 ·refine sQ<|rG<|mV r r<|bD fun r3 hr3=>cV (r2.2,3) r r r Jm r r (by simp) r hr3<|cT r r<|bN (v:=.int .u64 (IntKind.u64.wrap (18446744073709551615 - (IntKind.u64.wrap (r3.1))))) r r r r r<|aS r r<|nI<|xS<|rT<|bR<|xR<|JY (b:=(IntKind.u64.wrap (18446744073709551615 - (IntKind.u64.wrap (r3.1))),r3.2)) r ?_ r r ?_ r
  all_goals first|(simp;done)|(simp;omega)|rfl|(simp [Jk,Ji];done)
 ·refine sQ<|rG<|bN (v:=.bool (r2.1 == 1)) r r r r r<|aS r r<|nI<|xS<|cD (c:=(r2.1 == 1)) r ?_ ?_
  ·refine sQ<|rG<|mV r r<|bD fun r4 hr4=>cV (r2.2,64) r r r Jm r r (by simp) r hr4<|cK fun hq=>bN (v:=.int .u64 (IntKind.u64.wrap (1 * 2 ^ (Nat.min r4.1.toNat IntKind.u64.bits)))) r r r r hq<|aS r r<|nI<|xS<|rT<|bR<|xR<|JY (b:=(IntKind.u64.wrap (1 * 2 ^ (Nat.min r4.1.toNat IntKind.u64.bits)),r4.2)) r ?_ r r ?_ r
   all_goals first|(simp;done)|(simp;omega)|rfl|(simp [Jk,Ji];done)
  ·refine sQ<|rG<|bN (v:=.bool (r2.1 == 2)) r r r r r<|aS r r<|nI<|xS<|cD (c:=(r2.1 == 2)) r ?_ ?_
   ·refine sQ<|rG<|aS r r<|nI<|xS<|rT<|bR<|xR<|JY (b:=(0,r2.2)) r ?_ r r ?_ r
    all_goals first|(simp;done)|(simp;omega)|rfl|(simp [Jk,Ji];done)
   ·refine sK<|bM<|xS<|sQ<|rG<|mV r r<|bD fun r5 hr5=>cV (r2.2,256) r r r Jm r r (by simp) r hr5<|cT r r<|aS r r<|nI<|xS<|rT<|JY (b:=(IntKind.u64.wrap (r5.1),r5.2)) r ?_ r r ?_ r
    all_goals first|(simp;done)|(simp;omega)|rfl|(simp [Jk,Ji];done)

def AeZ : Jt:=(.seq (.reg [P 5 (.box (T 1) 3 33),⟨(some 8),(.asg (.c .nils) (some ⟨5,57⟩)),none,[]⟩] false) (.seq (.reg [M 16 0,P 17 (.call (.c (.clo 8 [])) [(T 16),(C 4)]),P 9 (.asg (T 17) none)] false) (.seq (.reg [P 18 (.fldA 1 (T 5)),P 19 (.ld 1 false (T 18)),P 20 (.len false (T 19)),P 10 (.asg (T 20) none)] false) (.seq (.reg [M 21 0,P 22 (.call (.c (.clo 8 [])) [(T 21),(C 20)]),P 11 (.asg (T 22) none)] false) (.seq (.block 0 (.seq (.reg [M 24 11,P 25 (.bin .lss (T 24) (C 3)),M 26 25,⟨(some 27),(.mv (T 10)),(some ⟨26,true⟩),[]⟩,⟨(some 28),(.bin .gtr (T 27) (C 0)),(some ⟨26,true⟩),[]⟩,P 29 (.pick (T 26) (T 28) (.c (.bool false))),P 23 (.asg (T 29) none)] false) (.cond (T 23) (.seq (.reg [M 30 0,M 31 10,P 32 (.call (.c (.clo 8 [])) [(T 30),(T 31)]),M 33 9,⟨(some 34),(.bld [(.int .i64 0),(.int .i64 0),(.int .i64 0),(.int .i64 0),(.int .u64 0)] [⟨0,⟨1,(C 16)⟩⟩,⟨1,⟨1,(T 32)⟩⟩,⟨2,⟨1,(T 33)⟩⟩]),none,[]⟩,⟨(some 35),(.bldS 5 57 (.agg [(.int .i64 0),(.int .i64 0),(.int .i64 0),(.int .i64 0),(.int .u64 0)]) 1 [⟨0,(T 34)⟩]),none,[]⟩,⟨(some 8),(.asg (T 35) (some ⟨5,57⟩)),none,[]⟩] false) .ret) (.seq (.reg [M 37 11,P 38 (.bin .lss (T 37) (C 6)),M 39 38,⟨(some 40),(.mv (T 10)),(some ⟨39,true⟩),[]⟩,⟨(some 41),(.bin .gtr (T 40) (C 0)),(some ⟨39,true⟩),[]⟩,P 42 (.pick (T 39) (T 41) (.c (.bool false))),P 36 (.asg (T 42) none)] false) (.cond (T 36) (.seq (.reg [M 43 9,M 44 0,M 45 10,P 46 (.call (.c (.clo 8 [])) [(T 44),(T 45)]),⟨(some 47),(.bld [(.int .i64 0),(.int .i64 0),(.int .i64 0),(.int .i64 0),(.int .u64 0)] [⟨0,⟨1,(C 15)⟩⟩,⟨1,⟨1,(T 43)⟩⟩,⟨2,⟨1,(T 46)⟩⟩]),none,[]⟩,⟨(some 48),(.bldS 5 57 (.agg [(.int .i64 0),(.int .i64 0),(.int .i64 0),(.int .i64 0),(.int .u64 0)]) 1 [⟨0,(T 47)⟩]),none,[]⟩,⟨(some 8),(.asg (T 48) (some ⟨5,57⟩)),none,[]⟩] false) .ret) (.seq (.reg [M 50 11,P 51 (.bin .lss (T 50) (C 9)),M 52 51,⟨(some 53),(.mv (T 10)),(some ⟨52,true⟩),[]⟩,⟨(some 54),(.bin .gtr (T 53) (C 0)),(some ⟨52,true⟩),[]⟩,P 55 (.pick (T 52) (T 54) (.c (.bool false))),P 49 (.asg (T 55) none)] false) (.cond (T 49) (.seq (.reg [M 56 0,M 57 10,P 58 (.call (.c (.clo 8 [])) [(T 56),(T 57)]),P 12 (.asg (T 58) none)] false) (.seq (.reg [M 59 0,P 60 (.ld 3 true (T 5)),M 61 12,P 62 (.call (.c (.clo 64 [])) [(T 59),(T 60),(T 61)]),M 63 12,⟨(some 64),(.bld [(.int .i64 0),(.int .i64 0),(.int .i64 0),(.int .i64 0),(.int .u64 0)] [⟨0,⟨1,(C 17)⟩⟩,⟨1,⟨1,(T 62)⟩⟩,⟨2,⟨1,(T 63)⟩⟩]),none,[]⟩,⟨(some 65),(.bldS 5 57 (.agg [(.int .i64 0),(.int .i64 0),(.int .i64 0),(.int .i64 0),(.int .u64 0)]) 1 [⟨0,(T 64)⟩]),none,[]⟩,⟨(some 8),(.asg (T 65) (some ⟨5,57⟩)),none,[]⟩] false) .ret)) (.seq (.reg [M 67 11,P 68 (.bin .lss (T 67) (C 11)),P 66 (.asg (T 68) none)] false) (.cond (T 66) (.seq (.reg [M 69 9,M 70 0,P 71 (.call (.c (.clo 39 [])) [(T 70)]),⟨(some 72),(.bld [(.int .i64 0),(.int .i64 0),(.int .i64 0),(.int .i64 0),(.int .u64 0)] [⟨0,⟨1,(C 0)⟩⟩,⟨1,⟨1,(T 69)⟩⟩,⟨4,⟨1,(T 71)⟩⟩]),none,[]⟩,⟨(some 73),(.bldS 5 57 (.agg [(.int .i64 0),(.int .i64 0),(.int .i64 0),(.int .i64 0),(.int .u64 0)]) 1 [⟨0,(T 72)⟩]),none,[]⟩,⟨(some 8),(.asg (T 73) (some ⟨5,57⟩)),none,[]⟩] false) .ret) (.seq (.reg [M 75 11,P 76 (.bin .lss (T 75) (C 13)),P 74 (.asg (T 76) none)] false) (.cond (T 74) (.seq (.reg [M 77 0,P 78 (.call (.c (.clo 8 [])) [(T 77),(C 10)]),P 79 (.bin .add (C 2) (T 78)),M 80 9,M 81 0,P 82 (.call (.c (.clo 8 [])) [(T 81),(C 4)]),M 83 0,P 84 (.call (.c (.clo 8 [])) [(T 83),(C 8)]),⟨(some 85),(.bld [(.int .i64 0),(.int .i64 0),(.int .i64 0),(.int .i64 0),(.int .u64 0)] [⟨0,⟨1,(T 79)⟩⟩,⟨1,⟨1,(T 80)⟩⟩,⟨2,⟨1,(T 82)⟩⟩,⟨3,⟨1,(T 84)⟩⟩]),none,[]⟩,⟨(some 86),(.bldS 5 57 (.agg [(.int .i64 0),(.int .i64 0),(.int .i64 0),(.int .i64 0),(.int .u64 0)]) 1 [⟨0,(T 85)⟩]),none,[]⟩,⟨(some 8),(.asg (T 86) (some ⟨5,57⟩)),none,[]⟩] false) .ret) (.seq (.reg [M 88 11,P 89 (.bin .lss (T 88) (C 15)),P 87 (.asg (T 89) none)] false) (.cond (T 87) (.seq (.reg [M 90 9,⟨(some 91),(.bld [(.int .i64 0),(.int .i64 0),(.int .i64 0),(.int .i64 0),(.int .u64 0)] [⟨0,⟨1,(C 14)⟩⟩,⟨1,⟨1,(T 90)⟩⟩]),none,[]⟩,⟨(some 92),(.bldS 5 57 (.agg [(.int .i64 0),(.int .i64 0),(.int .i64 0),(.int .i64 0),(.int .u64 0)]) 1 [⟨0,(T 91)⟩]),none,[]⟩,⟨(some 8),(.asg (T 92) (some ⟨5,57⟩)),none,[]⟩] false) .ret) (.seq (.reg [M 94 11,P 95 (.bin .eql (T 94) (C 15)),P 93 (.asg (T 95) none)] false) (.cond (T 93) (.seq (.reg [⟨(some 96),(.bldS 1 3 (.int .i64 0) 3 [⟨0,(C 13)⟩,⟨1,(C 12)⟩,⟨2,(C 1)⟩]),none,[]⟩,M 97 0,P 98 (.call (.c (.clo 8 [])) [(T 97),(C 3)]),P 99 (.ixA 1 (T 96) (T 98)),P 100 (.ld 1 false (T 99)),M 101 9,⟨(some 102),(.bld [(.int .i64 0),(.int .i64 0),(.int .i64 0),(.int .i64 0),(.int .u64 0)] [⟨0,⟨1,(T 100)⟩⟩,⟨1,⟨1,(T 101)⟩⟩]),none,[]⟩,⟨(some 103),(.bldS 5 57 (.agg [(.int .i64 0),(.int .i64 0),(.int .i64 0),(.int .i64 0),(.int .u64 0)]) 1 [⟨0,(T 102)⟩]),none,[]⟩,⟨(some 8),(.asg (T 103) (some ⟨5,57⟩)),none,[]⟩] false) .ret) (.seq (.reg [M 105 11,P 106 (.bin .eql (T 105) (C 16)),M 107 106,⟨(some 108),(.fldA 0 (T 5)),(some ⟨107,true⟩),[]⟩,⟨(some 109),(.ld 1 false (T 108)),(some ⟨107,true⟩),[]⟩,⟨(some 110),(.bin .gtr (T 109) (C 0)),(some ⟨107,true⟩),[]⟩,P 111 (.pick (T 107) (T 110) (.c (.bool false))),P 104 (.asg (T 111) none)] false) (.cond (T 104) (.seq (.reg [M 112 9,M 113 0,P 114 (.fldA 0 (T 5)),P 115 (.ld 1 false (T 114)),P 116 (.call (.c (.clo 8 [])) [(T 113),(T 115)]),⟨(some 117),(.bld [(.int .i64 0),(.int .i64 0),(.int .i64 0),(.int .i64 0),(.int .u64 0)] [⟨0,⟨1,(C 19)⟩⟩,⟨1,⟨1,(T 112)⟩⟩,⟨2,⟨1,(T 116)⟩⟩]),none,[]⟩,⟨(some 118),(.bldS 5 57 (.agg [(.int .i64 0),(.int .i64 0),(.int .i64 0),(.int .i64 0),(.int .u64 0)]) 1 [⟨0,(T 117)⟩]),none,[]⟩,⟨(some 8),(.asg (T 118) (some ⟨5,57⟩)),none,[]⟩] false) .ret) (.seq (.reg [M 120 11,P 121 (.bin .geq (T 120) (C 17)),M 122 121,⟨(some 123),(.mv (T 2)),(some ⟨122,true⟩),[]⟩,⟨(some 124),(.bin .add (T 123) (C 1)),(some ⟨122,true⟩),[]⟩,⟨(some 125),(.mv (T 3)),(some ⟨122,true⟩),[]⟩,⟨(some 126),(.len false (T 125)),(some ⟨122,true⟩),[]⟩,⟨(some 127),(.bin .lss (T 124) (T 126)),(some ⟨122,true⟩),[]⟩,P 128 (.pick (T 122) (T 127) (.c (.bool false))),P 119 (.asg (T 128) none)] false) (.cond (T 119) (.seq (.reg [M 129 2,P 130 (.bin .add (T 129) (C 1)),M 131 0,M 132 3,P 133 (.len false (T 132)),M 134 2,P 135 (.bin .sub (T 133) (T 134)),P 136 (.bin .sub (T 135) (C 1)),P 137 (.call (.c (.clo 8 [])) [(T 131),(T 136)]),P 138 (.bin .add (T 130) (T 137)),P 13 (.asg (T 138) none)] false) (.seq (.reg [⟨(some 14),(.asg (.c .nils) (some ⟨5,57⟩)),none,[]⟩] false) (.seq (.seq (.reg [P 15 (.asg (C 0) none)] false) (.block 1 (.loop (.seq (.seq (.reg [M 139 15,M 140 3,M 141 13,P 142 (.ixA 1 (T 140) (T 141)),P 143 (.ld 1 false (T 142)),P 144 (.bin .lss (T 139) (T 143))] false) (.cond (T 144) .skip (.exit 1))) (.seq (.block 2 (.seq (.reg [M 147 0,P 148 (.call (.c (.clo 8 [])) [(T 147),(C 8)]),P 149 (.bin .lss (T 148) (C 7))] false) (.cond (T 149) (.reg [M 150 14,M 151 15,M 152 0,P 153 (.call (.c (.clo 8 [])) [(T 152),(C 4)]),⟨(some 154),(.bld [(.int .i64 0),(.int .i64 0),(.int .i64 0),(.int .i64 0),(.int .u64 0)] [⟨0,⟨1,(C 18)⟩⟩,⟨1,⟨1,(T 151)⟩⟩,⟨2,⟨1,(T 153)⟩⟩]),none,[]⟩,⟨(some 155),(.bldS 5 57 (.agg [(.int .i64 0),(.int .i64 0),(.int .i64 0),(.int .i64 0),(.int .u64 0)]) 1 [⟨0,(T 154)⟩]),none,[]⟩,P 156 (.app 5 57 40 (T 150) (T 155)),⟨(some 14),(.asg (T 156) (some ⟨5,57⟩)),none,[]⟩] false) .skip))) (.reg [M 145 15,P 146 (.bin .add (T 145) (C 1)),P 15 (.asg (T 146) none)] false)))))) (.seq (.reg [M 157 14,M 158 13,⟨(some 159),(.bld [(.int .i64 0),(.int .i64 0),(.int .i64 0),(.int .i64 0),(.int .u64 0)] [⟨0,⟨1,(C 22)⟩⟩,⟨1,⟨1,(T 158)⟩⟩]),none,[]⟩,⟨(some 160),(.bldS 5 57 (.agg [(.int .i64 0),(.int .i64 0),(.int .i64 0),(.int .i64 0),(.int .u64 0)]) 1 [⟨0,(T 159)⟩]),none,[]⟩,P 161 (.app 5 57 40 (T 157) (T 160)),⟨(some 8),(.asg (T 161) (some ⟨5,57⟩)),none,[]⟩] false) .ret)))) .skip))))))))))))))))))) (.seq (.reg [M 162 9,⟨(some 163),(.bld [(.int .i64 0),(.int .i64 0),(.int .i64 0),(.int .i64 0),(.int .u64 0)] [⟨0,⟨1,(C 14)⟩⟩,⟨1,⟨1,(T 162)⟩⟩]),none,[]⟩,⟨(some 164),(.bldS 5 57 (.agg [(.int .i64 0),(.int .i64 0),(.int .i64 0),(.int .i64 0),(.int .u64 0)]) 1 [⟨0,(T 163)⟩]),none,[]⟩,⟨(some 8),(.asg (T 164) (some ⟨5,57⟩)),none,[]⟩] false) .ret))))))
theorem AhJ : (Tryd.f38.body.bind (Ju Tryd.prog Tryd.f38.ntmps)) = some AeZ:=by kernel_rfl
theorem AhK : Tryd.f38.results.toList.mapM (JE Tryd.prog) = some [(.t 8)]:=by kernel_rfl
def ON (a : Jd × Jh × Int × (List Int)) : List D:=[JF a.1,JS a.2.1,.int .i64 a.2.2.1,.sl (a.2.2.2.map Jc)]
def Rv (ds : List D) : Jd × Jh × Int × (List Int):=(KN (ds.getD 0 .top),Mn (ds.getD 1 .top),uI (ds.getD 2 .top),(uL uI) (ds.getD 3 .top))
theorem Wi (a : Jd × Jh × Int × (List Int)) : Rv (ON a) = a:=by simp [Rv,ON,uI,KE (u:=uI) (en:=Jc) (fun _=>rfl)]
def Xe (b : (List Je) × Jd) : D:=.sl (b.1.map Jg)
def Xd (b : (List Je) × Jd) : List D:=[JF b.2]
noncomputable def Ta : Dw.Spec:=Js [(0,(2,59))] (.row 5 57) ON Rv (fun a=>NK a.1 a.2.1 a.2.2.1 a.2.2.2) Xe Xd
set_option maxHeartbeats 4000000 in
theorem Aae : Jr Tryd.prog 38 Ta:=by
 refine JA (Jw (l:=[(8,Jy),(64,Tb),(39,Oe)]) (by simp [Kd,Aaf,Wh])) Tryd.func38 (by decide) AhJ AhK (np:=4) (by decide) Wi (fun _=>r) (fun _=>r) (by decide)<|?_
 rintro ⟨c1,f2,i3,params4⟩
 show TrE (specs [(8,Jy),(64,Tb),(39,Oe)]) AeZ (JH [(0,(2,59))] (.row 5 57) [(.t 8)] Xe Xd) ⟨[(0,.optr 8192 0 0 0),(1,.agg [.int .i64 f2.Params,.sl (f2.Slots.map Jj),.sl (f2.Code.map Jg)]),(2,.int .i64 i3),(3,.sl (params4.map Jc))],[(8192,some (0,⟨false,true,2,59,[.agg [.sl (c1.list.map eU8),.int .i64 c1.at_]]⟩))],262144⟩ (NK c1 f2 i3 params4)
 refine Jv<|?_
 unfold AeZ NK
 refine sQ<|rG<|bX r r r r r<|aN (α:=Je) r Jg r<|nI<|xS<|sQ<|rG<|mV r r<|bD fun r5 hr5=>cV (c1,4) r r r Jm r r (by simp) r hr5<|aS r r<|nI<|xS<|sQ<|rG<|fA r r<|lO (v:=.sl (f2.Slots.map Jj)) (z:=.agg [.int .i64 f2.Params,.sl (f2.Slots.map Jj),.sl (f2.Code.map Jg)]) r r r r r r<|lS r r<|aS r r<|nI<|xS<|sQ<|rG<|mV r r<|bD fun r6 hr6=>cV (r5.2,20) r r r Jm r r (by simp) r hr6<|aS r r<|nI<|xS<|bC (E:=fun (s : Unit) (g : Unit)=>[(9,.int .i64 r5.1)]) (O:=fun s g=>[(8192,some (0,⟨false,true,2,59,[.agg [.sl (r6.2.list.map eU8),.int .i64 r6.2.at_]]⟩))]) (j:=fun s=>Sd r5 r6) ?_ ?_
 ·refine sC (E:=fun (s : Bool) (g : Nat)=>[(0,.optr 8192 0 0 0),(2,.int .i64 i3),(3,.sl (params4.map Jc)),(5,.optr 5 g 0 0),(9,.int .i64 r5.1),(10,.int .i64 (f2.Slots.length : Int)),(11,.int .i64 r6.1),(23,.bool s)]) (O:=fun s g=>[(5,some (g,⟨false,true,3,33,[.agg [.int .i64 f2.Params,.sl (f2.Slots.map Jj),.sl (f2.Code.map Jg)]]⟩)),(8192,some (0,⟨false,true,2,59,[.agg [.sl (r6.2.list.map eU8),.int .i64 r6.2.at_]]⟩))]) (j:=fun s=>Mg r6 f2 r5 params4 i3 s) ?_ ?_
  ·refine rG<|mV r r<|bN (v:=.bool (decide (r6.1 < 3))) r r r r r<|mV r r<|sP 26 (b:=(decide (r6.1 < 3))) r ?_ ?_
   ·exact mV r r<|bN (v:=.bool (decide ((f2.Slots.length : Int) > 0))) r r r r r<|pT r r r r<|aS r r<|nI<|xC (s:=(decide ((f2.Slots.length : Int) > 0))) _ ((hE ⟨rfl,r,r,r,r,r,r,r,trivial⟩ ⟨rfl,r,trivial⟩))
   ·exact oF r<|oF r<|pF r r r r<|aS r r<|nI<|xC (s:=false) _ ((hE ⟨rfl,r,r,r,r,r,r,r,trivial⟩ ⟨rfl,r,trivial⟩))
  ·rintro x7 v5x1 nn
   try dsimp only
   unfold Mg
   refine cD (c:=x7) r ?_ ?_
   ·refine sQ<|rG<|mV r r<|mV r r<|bD fun r8 hr8=>cV (r6.2,(f2.Slots.length : Int)) r r r Jm r r (by simp) r hr8<|mV r r<|bL (cs:=[.int .i64 16,.int .i64 r8.1,.int .i64 r5.1,.int .i64 0,.int .u64 0]) (ps:=[(0,1,.int .i64 16),(1,1,.int .i64 r8.1),(2,1,.int .i64 r5.1)]) r r r r<|bS ([(Je.mk 16 r8.1 r5.1 0 0)] : List Je) Jg r r r (by simp) r r r<|aO (l:=([(Je.mk 16 r8.1 r5.1 0 0)] : List Je)) (en:=Jg) r r r r<|nI<|xS<|rT<|yR<|JN (b:=(([(Je.mk 16 r8.1 r5.1 0 0)] : List Je),r8.2)) r ?_ r r ?_ r ?_ (congrArg D.sl (Jl _ _ r)) r
    all_goals first|(simp;done)|(simp;omega)|rfl|(simp [Jk,Ji];done)
   ·refine sC (E:=fun (s : Bool) (g : Nat)=>[(0,.optr 8192 0 0 0),(2,.int .i64 i3),(3,.sl (params4.map Jc)),(5,.optr 5 g 0 0),(9,.int .i64 r5.1),(10,.int .i64 (f2.Slots.length : Int)),(11,.int .i64 r6.1),(36,.bool s)]) (O:=fun s g=>[(5,some (g,⟨false,true,3,33,[.agg [.int .i64 f2.Params,.sl (f2.Slots.map Jj),.sl (f2.Code.map Jg)]]⟩)),(8192,some (0,⟨false,true,2,59,[.agg [.sl (r6.2.list.map eU8),.int .i64 r6.2.at_]]⟩))]) (j:=fun s=>Mh r6 f2 r5 params4 i3 s) ?_ ?_
    ·refine rG<|mV r r<|bN (v:=.bool (decide (r6.1 < 6))) r r r r r<|mV r r<|sP 39 (b:=(decide (r6.1 < 6))) r ?_ ?_
     ·exact mV r r<|bN (v:=.bool (decide ((f2.Slots.length : Int) > 0))) r r r r r<|pT r r r r<|aS r r<|nI<|xC (s:=(decide ((f2.Slots.length : Int) > 0))) _ ((hE ⟨rfl,r,r,r,r,r,r,r,trivial⟩ ⟨rfl,r,trivial⟩))
     ·exact oF r<|oF r<|pF r r r r<|aS r r<|nI<|xC (s:=false) _ ((hE ⟨rfl,r,r,r,r,r,r,r,trivial⟩ ⟨rfl,r,trivial⟩))
    ·rintro x9 v5x2 nn
     try dsimp only
     unfold Mh
     refine cD (c:=x9) r ?_ ?_
     ·refine sQ<|rG<|mV r r<|mV r r<|mV r r<|bD fun r10 hr10=>cV (r6.2,(f2.Slots.length : Int)) r r r Jm r r (by simp) r hr10<|bL (cs:=[.int .i64 15,.int .i64 r5.1,.int .i64 r10.1,.int .i64 0,.int .u64 0]) (ps:=[(0,1,.int .i64 15),(1,1,.int .i64 r5.1),(2,1,.int .i64 r10.1)]) r r r r<|bS ([(Je.mk 15 r5.1 r10.1 0 0)] : List Je) Jg r r r (by simp) r r r<|aO (l:=([(Je.mk 15 r5.1 r10.1 0 0)] : List Je)) (en:=Jg) r r r r<|nI<|xS<|rT<|yR<|JN (b:=(([(Je.mk 15 r5.1 r10.1 0 0)] : List Je),r10.2)) r ?_ r r ?_ r ?_ (congrArg D.sl (Jl _ _ r)) r
      all_goals first|(simp;done)|(simp;omega)|rfl|(simp [Jk,Ji];done)
     ·refine sC (E:=fun (s : Bool) (g : Nat)=>[(0,.optr 8192 0 0 0),(2,.int .i64 i3),(3,.sl (params4.map Jc)),(5,.optr 5 g 0 0),(9,.int .i64 r5.1),(10,.int .i64 (f2.Slots.length : Int)),(11,.int .i64 r6.1),(49,.bool s)]) (O:=fun s g=>[(5,some (g,⟨false,true,3,33,[.agg [.int .i64 f2.Params,.sl (f2.Slots.map Jj),.sl (f2.Code.map Jg)]]⟩)),(8192,some (0,⟨false,true,2,59,[.agg [.sl (r6.2.list.map eU8),.int .i64 r6.2.at_]]⟩))]) (j:=fun s=>Mi r6 f2 r5 params4 i3 s) ?_ ?_
      ·refine rG<|mV r r<|bN (v:=.bool (decide (r6.1 < 9))) r r r r r<|mV r r<|sP 52 (b:=(decide (r6.1 < 9))) r ?_ ?_
       ·exact mV r r<|bN (v:=.bool (decide ((f2.Slots.length : Int) > 0))) r r r r r<|pT r r r r<|aS r r<|nI<|xC (s:=(decide ((f2.Slots.length : Int) > 0))) _ ((hE ⟨rfl,r,r,r,r,r,r,r,trivial⟩ ⟨rfl,r,trivial⟩))
       ·exact oF r<|oF r<|pF r r r r<|aS r r<|nI<|xC (s:=false) _ ((hE ⟨rfl,r,r,r,r,r,r,r,trivial⟩ ⟨rfl,r,trivial⟩))
      ·rintro x11 v5x3 nn
       try dsimp only
       unfold Mi
       refine cD (c:=x11) r ?_ ?_
       ·refine sQ<|rG<|mV r r<|mV r r<|bD fun r12 hr12=>cV (r6.2,(f2.Slots.length : Int)) r r r Jm r r (by simp) r hr12<|aS r r<|nI<|xS<|sQ<|rG<|mV r r<|lO (v:=.agg [.int .i64 f2.Params,.sl (f2.Slots.map Jj),.sl (f2.Code.map Jg)]) (z:=.agg [.int .i64 f2.Params,.sl (f2.Slots.map Jj),.sl (f2.Code.map Jg)]) r r r r r r<|mV r r<|bD fun r13 hr13=>cV (r12.2,f2,r12.1) r r r Wj r r (by simp) r hr13<|mV r r<|bL (cs:=[.int .i64 17,.int .i64 r13.1,.int .i64 r12.1,.int .i64 0,.int .u64 0]) (ps:=[(0,1,.int .i64 17),(1,1,.int .i64 r13.1),(2,1,.int .i64 r12.1)]) r r r r<|bS ([(Je.mk 17 r13.1 r12.1 0 0)] : List Je) Jg r r r (by simp) r r r<|aO (l:=([(Je.mk 17 r13.1 r12.1 0 0)] : List Je)) (en:=Jg) r r r r<|nI<|xS<|rT<|yR<|JN (b:=(([(Je.mk 17 r13.1 r12.1 0 0)] : List Je),r13.2)) r ?_ r r ?_ r ?_ (congrArg D.sl (Jl _ _ r)) r
        all_goals first|(simp;done)|(simp;omega)|rfl|(simp [Jk,Ji];done)
       ·refine sQ<|rG<|mV r r<|bN (v:=.bool (decide (r6.1 < 11))) r r r r r<|aS r r<|nI<|xS<|cD (c:=(decide (r6.1 < 11))) r ?_ ?_
        ·refine sQ<|rG<|mV r r<|mV r r<|bD fun r14 hr14=>cV r6.2 r r r Sc r r (by simp) r hr14<|bL (cs:=[.int .i64 0,.int .i64 r5.1,.int .i64 0,.int .i64 0,.int .u64 r14.1]) (ps:=[(0,1,.int .i64 0),(1,1,.int .i64 r5.1),(4,1,.int .u64 r14.1)]) r r r r<|bS ([(Je.mk 0 r5.1 0 0 r14.1)] : List Je) Jg r r r (by simp) r r r<|aO (l:=([(Je.mk 0 r5.1 0 0 r14.1)] : List Je)) (en:=Jg) r r r r<|nI<|xS<|rT<|yR<|JN (b:=(([(Je.mk 0 r5.1 0 0 r14.1)] : List Je),r14.2)) r ?_ r r ?_ r ?_ (congrArg D.sl (Jl _ _ r)) r
         all_goals first|(simp;done)|(simp;omega)|rfl|(simp [Jk,Ji];done)
        ·refine sQ<|rG<|mV r r<|bN (v:=.bool (decide (r6.1 < 13))) r r r r r<|aS r r<|nI<|xS<|cD (c:=(decide (r6.1 < 13))) r ?_ ?_
         ·refine sQ<|rG<|mV r r<|bD fun r15 hr15=>cV (r6.2,10) r r r Jm r r (by simp) r hr15<|bN (v:=.int .i64 (IntKind.i64.wrap (2 + r15.1))) r r r r r<|mV r r<|mV r r<|bD fun r16 hr16=>cV (r15.2,4) r r r Jm r r (by simp) r hr16<|mV r r<|bD fun r17 hr17=>cV (r16.2,8) r r r Jm r r (by simp) r hr17<|bL (cs:=[.int .i64 (IntKind.i64.wrap (2 + r15.1)),.int .i64 r5.1,.int .i64 r16.1,.int .i64 r17.1,.int .u64 0]) (ps:=[(0,1,.int .i64 (IntKind.i64.wrap (2 + r15.1))),(1,1,.int .i64 r5.1),(2,1,.int .i64 r16.1),(3,1,.int .i64 r17.1)]) r r r r<|bS ([(Je.mk (IntKind.i64.wrap (2 + r15.1)) r5.1 r16.1 r17.1 0)] : List Je) Jg r r r (by simp) r r r<|aO (l:=([(Je.mk (IntKind.i64.wrap (2 + r15.1)) r5.1 r16.1 r17.1 0)] : List Je)) (en:=Jg) r r r r<|nI<|xS<|rT<|yR<|JN (b:=(([(Je.mk (IntKind.i64.wrap (2 + r15.1)) r5.1 r16.1 r17.1 0)] : List Je),r17.2)) r ?_ r r ?_ r ?_ (congrArg D.sl (Jl _ _ r)) r
          all_goals first|(simp;done)|(simp;omega)|rfl|(simp [Jk,Ji];done)
         ·refine sQ<|rG<|mV r r<|bN (v:=.bool (decide (r6.1 < 15))) r r r r r<|aS r r<|nI<|xS<|cD (c:=(decide (r6.1 < 15))) r ?_ ?_
          ·refine sQ<|rG<|mV r r<|bL (cs:=[.int .i64 14,.int .i64 r5.1,.int .i64 0,.int .i64 0,.int .u64 0]) (ps:=[(0,1,.int .i64 14),(1,1,.int .i64 r5.1)]) r r r r<|bS ([(Je.mk 14 r5.1 0 0 0)] : List Je) Jg r r r (by simp) r r r<|aO (l:=([(Je.mk 14 r5.1 0 0 0)] : List Je)) (en:=Jg) r r r r<|nI<|xS<|rT<|yR<|JN (b:=(([(Je.mk 14 r5.1 0 0 0)] : List Je),r6.2)) r ?_ r r ?_ r ?_ (congrArg D.sl (Jl _ _ r)) r
           all_goals first|(simp;done)|(simp;omega)|rfl|(simp [Jk,Ji];done)
          ·refine sQ<|rG<|mV r r<|bN (v:=.bool (r6.1 == 15)) r r r r r<|aS r r<|nI<|xS<|cD (c:=(r6.1 == 15)) r ?_ ?_
           ·refine sQ<|rG<|bS ([13,12,1] : List Int) Jc r r r (by simp) r r r<|mV r r<|bD fun r18 hr18=>cV (r6.2,3) r r r Jm r r (by simp) r hr18<|cK fun hq=>iO (l:=([13,12,1] : List Int)) (en:=Jc) r r r r r hq<|bD fun x_e19 hx_e19=>lO (v:=.int .i64 x_e19) (z:=Jc x_e19) r r r (MI hx_e19) r r<|mV r r<|bL (cs:=[.int .i64 x_e19,.int .i64 r5.1,.int .i64 0,.int .i64 0,.int .u64 0]) (ps:=[(0,1,.int .i64 x_e19),(1,1,.int .i64 r5.1)]) r r r r<|bS ([(Je.mk x_e19 r5.1 0 0 0)] : List Je) Jg r r r (by simp) r r r<|aO (l:=([(Je.mk x_e19 r5.1 0 0 0)] : List Je)) (en:=Jg) r r r r<|nI<|xS<|rT<|yR<|JN (b:=(([(Je.mk x_e19 r5.1 0 0 0)] : List Je),r18.2)) r ?_ r r ?_ r ?_ (congrArg D.sl (Jl _ _ r)) r
            all_goals first|(simp;done)|(simp;omega)|rfl|(simp [Jk,Ji];done)
           ·refine sC (E:=fun (s : Bool) (g : Nat)=>[(0,.optr 8192 0 0 0),(2,.int .i64 i3),(3,.sl (params4.map Jc)),(5,.optr 5 g 0 0),(9,.int .i64 r5.1),(11,.int .i64 r6.1),(104,.bool s)]) (O:=fun s g=>[(5,some (g,⟨false,true,3,33,[.agg [.int .i64 f2.Params,.sl (f2.Slots.map Jj),.sl (f2.Code.map Jg)]]⟩)),(8192,some (0,⟨false,true,2,59,[.agg [.sl (r6.2.list.map eU8),.int .i64 r6.2.at_]]⟩))]) (j:=fun s=>Mj r6 f2 r5 params4 i3 s) ?_ ?_
            ·refine rG<|mV r r<|bN (v:=.bool (r6.1 == 16)) r r r r r<|mV r r<|sP 107 (b:=(r6.1 == 16)) r ?_ ?_
             ·exact fA r r<|lO (v:=.int .i64 f2.Params) (z:=.agg [.int .i64 f2.Params,.sl (f2.Slots.map Jj),.sl (f2.Code.map Jg)]) r r r r r r<|bN (v:=.bool (decide (f2.Params > 0))) r r r r r<|pT r r r r<|aS r r<|nI<|xC (s:=(decide (f2.Params > 0))) _ ((hE ⟨rfl,r,r,r,r,r,r,trivial⟩ ⟨rfl,r,trivial⟩))
             ·exact oF r<|oF r<|oF r<|pF r r r r<|aS r r<|nI<|xC (s:=false) _ ((hE ⟨rfl,r,r,r,r,r,r,trivial⟩ ⟨rfl,r,trivial⟩))
            ·rintro x20 v5x4 nn
             try dsimp only
             unfold Mj
             refine cD (c:=x20) r ?_ ?_
             ·refine sQ<|rG<|mV r r<|mV r r<|fA r r<|lO (v:=.int .i64 f2.Params) (z:=.agg [.int .i64 f2.Params,.sl (f2.Slots.map Jj),.sl (f2.Code.map Jg)]) r r r r r r<|bD fun r21 hr21=>cV (r6.2,f2.Params) r r r Jm r r (by simp) r hr21<|bL (cs:=[.int .i64 19,.int .i64 r5.1,.int .i64 r21.1,.int .i64 0,.int .u64 0]) (ps:=[(0,1,.int .i64 19),(1,1,.int .i64 r5.1),(2,1,.int .i64 r21.1)]) r r r r<|bS ([(Je.mk 19 r5.1 r21.1 0 0)] : List Je) Jg r r r (by simp) r r r<|aO (l:=([(Je.mk 19 r5.1 r21.1 0 0)] : List Je)) (en:=Jg) r r r r<|nI<|xS<|rT<|yR<|JN (b:=(([(Je.mk 19 r5.1 r21.1 0 0)] : List Je),r21.2)) r ?_ r r ?_ r ?_ (congrArg D.sl (Jl _ _ r)) r
              all_goals first|(simp;done)|(simp;omega)|rfl|(simp [Jk,Ji];done)
             ·refine sC (E:=fun (s : Bool) (g : Unit)=>[(0,.optr 8192 0 0 0),(2,.int .i64 i3),(3,.sl (params4.map Jc)),(9,.int .i64 r5.1),(119,.bool s)]) (O:=fun s g=>[(8192,some (0,⟨false,true,2,59,[.agg [.sl (r6.2.list.map eU8),.int .i64 r6.2.at_]]⟩))]) (j:=fun s=>Mk r6 params4 i3 r5 s) ?_ ?_
              ·refine rG<|mV r r<|bN (v:=.bool (decide (r6.1 ≥ 17))) r r r r r<|mV r r<|sP 122 (b:=(decide (r6.1 ≥ 17))) r ?_ ?_
               ·exact mV r r<|bN (v:=.int .i64 (IntKind.i64.wrap (i3 + 1))) r r r r r<|mV r r<|lS r r<|bN (v:=.bool (decide ((IntKind.i64.wrap (i3 + 1)) < (params4.length : Int)))) r r r r r<|pT r r r r<|aS r r<|nI<|xC (s:=(decide ((IntKind.i64.wrap (i3 + 1)) < (params4.length : Int)))) () ((hE ⟨rfl,r,r,r,r,trivial⟩ ⟨rfl,trivial⟩))
               ·exact oF r<|oF r<|oF r<|oF r<|oF r<|pF r r r r<|aS r r<|nI<|xC (s:=false) () ((hE ⟨rfl,r,r,r,r,trivial⟩ ⟨rfl,trivial⟩))
              ·rintro x22 ⟨⟩ nn
               try dsimp only
               unfold Mk
               refine cD (c:=x22) r ?_ ?_
               ·refine sQ<|rG<|mV r r<|bN (v:=.int .i64 (IntKind.i64.wrap (i3 + 1))) r r r r r<|mV r r<|mV r r<|lS r r<|mV r r<|bN (v:=.int .i64 (IntKind.i64.wrap ((params4.length : Int) - i3))) r r r r r<|bN (v:=.int .i64 (IntKind.i64.wrap ((IntKind.i64.wrap ((params4.length : Int) - i3)) - 1))) r r r r r<|bD fun r23 hr23=>cV (r6.2,IntKind.i64.wrap ((IntKind.i64.wrap ((params4.length : Int) - i3)) - 1)) r r r Jm r r (by simp) r hr23<|bN (v:=.int .i64 (IntKind.i64.wrap ((IntKind.i64.wrap (i3 + 1)) + r23.1))) r r r r r<|aS r r<|nI<|xS<|sQ<|rG<|aN (α:=Je) r Jg r<|nI<|xS<|sQ<|sQ<|rG<|aS r r<|nI<|xS<|bK<|lP (E:=fun (s : (List Int) × Int × (List Je) × Int) (g : Nat)=>[(0,.optr 8192 0 0 0),(3,.sl (params4.map Jc)),(13,.int .i64 (IntKind.i64.wrap ((IntKind.i64.wrap (i3 + 1)) + r23.1))),(14,.osl 14 g 0 s.2.2.1.length),(15,.int .i64 s.2.2.2)]) (O:=fun s g=>[(14,some (g,⟨false,false,5,57,s.2.2.1.map Jg⟩)),(8192,some (0,⟨false,true,2,59,[.agg [.sl (s.1.map eU8),.int .i64 s.2.1]]⟩))]) (body:=fun s=>Pn params4 i3 r23 s.1 s.2.1 s.2.2.1 s.2.2.2) (s:=(r23.2.list,r23.2.at_,([] : List Je),0)) _ ((hE ⟨rfl,r,r,r,r,trivial⟩ ⟨rfl,r,trivial⟩))<|?_
                rintro ⟨c24,c25,out26,a27⟩ v14x6 nn
                try dsimp only
                unfold Pn
                refine sQ<|sQ<|rG<|mV r r<|mV r r<|mV r r<|bD fun x_x28 hx_x28=>iS (en:=Jc) r r r hx_x28 r<|lF (v:=.int .i64 x_x28) r r r r<|bN (v:=.bool (decide (a27 < x_x28))) r r r r r<|nI<|xS<|cD (c:=(decide (a27 < x_x28))) r ?_ ?_
                ·refine sK<|xS<|sQ<|bK<|sQ<|rG<|mV r r<|bD fun r29 hr29=>cV ((Jd.mk c24 c25),8) r r r Jm r r (by simp) r hr29<|bN (v:=.bool (decide (r29.1 < 7))) r r r r r<|nI<|xS<|cD (c:=(decide (r29.1 < 7))) r ?_ ?_
                 ·exact rG<|mV r r<|mV r r<|mV r r<|bD fun r30 hr30=>cV (r29.2,4) r r r Jm r r (by simp) r hr30<|bL (cs:=[.int .i64 18,.int .i64 a27,.int .i64 r30.1,.int .i64 0,.int .u64 0]) (ps:=[(0,1,.int .i64 18),(1,1,.int .i64 a27),(2,1,.int .i64 r30.1)]) r r r r<|bS ([(Je.mk 18 a27 r30.1 0 0)] : List Je) Jg r r r (by simp) r r r<|cK fun hq=>aP (out26) (([(Je.mk 18 a27 r30.1 0 0)] : List Je)) Jg r r r r r r r (by simp) (JI _ _ r) r r (by simp) (Jl _ _ r) (fun _=>r) r hq<|aO (l:=out26 ++ ([(Je.mk 18 a27 r30.1 0 0)] : List Je)) (en:=Jg) r r r r<|nI<|bM<|xS<|rG<|mV r r<|bN (v:=.int .i64 (IntKind.i64.wrap (a27 + 1))) r r r r r<|aS r r<|nI<|xL (s:=(r30.2.list,r30.2.at_,out26 ++ ([(Je.mk 18 a27 r30.1 0 0)] : List Je),IntKind.i64.wrap (a27 + 1))) _ ((hE ⟨rfl,r,r,r,r,trivial⟩ ⟨rfl,r,trivial⟩))
                 ·exact sK<|bM<|xS<|rG<|mV r r<|bN (v:=.int .i64 (IntKind.i64.wrap (a27 + 1))) r r r r r<|aS r r<|nI<|xL (s:=(r29.2.list,r29.2.at_,out26,IntKind.i64.wrap (a27 + 1))) _ ((hE ⟨rfl,r,r,r,r,trivial⟩ ⟨rfl,r,trivial⟩))
                ·refine eT<|xE<|lE<|bH<|xS<|sQ<|rG<|mV r r<|mV r r<|bL (cs:=[.int .i64 22,.int .i64 (IntKind.i64.wrap ((IntKind.i64.wrap (i3 + 1)) + r23.1)),.int .i64 0,.int .i64 0,.int .u64 0]) (ps:=[(0,1,.int .i64 22),(1,1,.int .i64 (IntKind.i64.wrap ((IntKind.i64.wrap (i3 + 1)) + r23.1)))]) r r r r<|bS ([(Je.mk 22 (IntKind.i64.wrap ((IntKind.i64.wrap (i3 + 1)) + r23.1)) 0 0 0)] : List Je) Jg r r r (by simp) r r r<|cK fun hq=>aP (out26) (([(Je.mk 22 (IntKind.i64.wrap ((IntKind.i64.wrap (i3 + 1)) + r23.1)) 0 0 0)] : List Je)) Jg r r r r r r r (by simp) (JI _ _ r) r r (by simp) (Jl _ _ r) (fun _=>r) r hq<|aO (l:=out26 ++ ([(Je.mk 22 (IntKind.i64.wrap ((IntKind.i64.wrap (i3 + 1)) + r23.1)) 0 0 0)] : List Je)) (en:=Jg) r r r r<|nI<|xS<|rT<|yR<|JN (b:=(out26 ++ ([(Je.mk 22 (IntKind.i64.wrap ((IntKind.i64.wrap (i3 + 1)) + r23.1)) 0 0 0)] : List Je),(Jd.mk c24 c25))) r ?_ r r ?_ r ?_ (congrArg D.sl (Jl _ _ r)) r
                 all_goals first|(simp;done)|(simp;omega)|rfl|(simp [Jk,Ji];done)
               ·exact sK<|Pw (s:=()) () ((hE ⟨rfl,trivial⟩ ⟨rfl,trivial⟩))
 ·rintro ⟨⟩ ⟨⟩ nn
  try dsimp only
  unfold Sd
  refine sQ<|rG<|mV r r<|bL (cs:=[.int .i64 14,.int .i64 r5.1,.int .i64 0,.int .i64 0,.int .u64 0]) (ps:=[(0,1,.int .i64 14),(1,1,.int .i64 r5.1)]) r r r r<|bS ([(Je.mk 14 r5.1 0 0 0)] : List Je) Jg r r r (by simp) r r r<|aO (l:=([(Je.mk 14 r5.1 0 0 0)] : List Je)) (en:=Jg) r r r r<|nI<|xS<|rT<|JN (b:=(([(Je.mk 14 r5.1 0 0 0)] : List Je),r6.2)) r ?_ r r ?_ r ?_ (congrArg D.sl (Jl _ _ r)) r
  all_goals first|(simp;done)|(simp;omega)|rfl|(simp [Jk,Ji];done)

end Go.Proofs.YtfpgidpffhmadaaDoor
