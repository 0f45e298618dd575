/-
  Programs on typed data, and the proofs that the code does what they say; written by a program (dx.py).
-/
import Derived.Test.YtcelninhkmhjkaaDoorProg
import Derived.Test.YtcelninhkmhjkaaDoorDc
import Derived.KernelRfl
import Derived.Test.YtcelninhkmhjkaaDoorDxP
namespace Go.Proofs.YtcelninhkmhjkaaDoor
open Go Go.Dw Go.Proofs
set_option maxRecDepth 100000
open Go.Dw renaming Yl → mV,WB → bN,QO → lO,Vg → bD,WE → cK,WH → nI,WK → xS,Yn → rG,Yp → sQ,Rg → aO,WA → aS,WI → oF,WC → bL,Xv → bS,Qo → cV,Om → cG,Qn → cR,ZB → aP,QP → sV,SB → iS,Tf → iO,SC → lS,Tg → lW,Vh → fA,YC → fF,Zv → nC,TB → lF,TQ → sP,Po → pT,OL → pF,Ym → uN,Aca → cT,WG → nW,WD → bX,Rf → aN,JE → eA_,WL → cD,Vj → bK,Yo → rT,WO → sK,WM → eT,WJ → xC,Vi → xL,Ri → xR,Zw → yR,Vl → zR,Sq → lR,TK → hE,Pp → lE,Qq → bH,OM → bM,Rh → bR,Qr → xE,WN → lP,SD → sC,Vk → bC,rf → r
def Acn : Kb:=(.seq (.reg [P 3 (.box (T 1) 2 61),P 4 (.asg (C 0) none)] false) (.seq (.seq (.reg [M 6 0,P 7 (.len false (T 6)),P 8 (.mv (C 0))] false) (.block 0 (.loop (.seq (.reg [P 9 (.bin .lss (T 8) (T 7))] false) (.seq (.cond (T 9) .skip (.exit 0)) (.seq (.block 1 (.seq (.reg [M 10 8,P 5 (.asg (T 10) none)] false) (.seq (.reg [P 11 (.ld 2 true (T 3)),M 12 0,M 13 5,⟨(some 14),(.ixA 2 (T 12) (T 13)),none,[1,2]⟩,⟨(some 15),(.ld 2 true (T 14)),none,[3]⟩,⟨(some 16),(.eqA 2 false (T 11) (T 15)),none,[0,4]⟩] true) (.cond (T 16) (.seq (.reg [M 17 5,P 4 (.asg (T 17) none)] false) .ret) .skip)))) (.reg [P 18 (.bin .add (T 8) (C 1)),M 8 18] false))))))) (.seq (.reg [⟨(some 4),(.asg (.c (.int .i64 (-1))) none),none,[]⟩] false) .ret)))
theorem AeT : (Tryd.f108.body.bind (Kc Tryd.prog Tryd.f108.ntmps)) = some Acn:=by kernel_rfl
theorem AeU : Tryd.f108.results.toList.mapM (Kp Tryd.prog) = some [(.t 4)]:=by kernel_rfl
def NG (a : (List JY) × JY) : List D:=[.sl (a.1.map KB),KB a.2]
def NF (ds : List D) : (List JY) × JY:=((uL TR) (ds.getD 0 .top),TR (ds.getD 1 .top))
theorem Qx (a : (List JY) × JY) : NF (NG a) = a:=by simp [NF,NG,LH (u:=TR) (en:=KB) AaO]
def Ra (b : Int) : D:=.int .i64 b
def QZ (_b : Int) : List D:=[]
noncomputable def Ov : Dw.Spec:=Ka [] .ground NG NF (fun a=>LX a.1 a.2) Ra QZ
set_option maxHeartbeats 4000000 in
theorem VF : JX Tryd.prog 108 Ov:=by
 refine Kl (KM) Tryd.func108 (by decide) AeT AeU (np:=2) (by decide) Qx (fun _=>r) (fun _=>r) (by decide)<|?_
 rintro ⟨s1,v2⟩
 show TrE (specs []) Acn (Kr [] .ground [(.t 4)] Ra QZ) ⟨[(0,.sl (s1.map KB)),(1,.agg [.int .i64 v2.a0,.int .i64 v2.a1])],[],262144⟩ (LX s1 v2)
 refine Kd<|?_
 unfold Acn LX
 refine sQ<|rG<|bX r r r r r<|aS r r<|nI<|xS<|sQ<|sQ<|rG<|mV r r<|lS r r<|mV r r<|nI<|xS<|bK<|lP (E:=fun (s : Int) (g : Nat)=>[(0,.sl (s1.map KB)),(3,.optr 3 g 0 0),(7,.int .i64 (s1.length : Int)),(8,.int .i64 s)]) (O:=fun s g=>[(3,some (g,⟨false,true,2,61,[.agg [.int .i64 v2.a0,.int .i64 v2.a1]]⟩))]) (body:=fun s=>KA s1 v2 s) (s:=0) _ ((hE ⟨rfl,r,r,r,trivial⟩ ⟨rfl,trivial⟩))<|?_
 rintro x3 v3x1 nn
 try dsimp only
 unfold KA
 refine sQ<|rG<|bN (v:=.bool (decide (x3 < (s1.length : Int)))) r r r r r<|nI<|xS<|sQ<|cD (c:=(decide (x3 < (s1.length : Int)))) r ?_ ?_
 ·refine sK<|xS<|sQ<|bK<|sQ<|rG<|mV r r<|aS r r<|nI<|xS<|sQ<|rG<|lO (v:=.agg [.int .i64 v2.a0,.int .i64 v2.a1]) (z:=.agg [.int .i64 v2.a0,.int .i64 v2.a1]) r r r r r r<|mV r r<|mV r r<|bD fun x_x4 hx_x4=>iS (en:=KB) r r r hx_x4 r<|lF (v:=.agg [.int .i64 x_x4.a0,.int .i64 x_x4.a1]) r r r r<|eA_ (p:=((v2.a0 == x_x4.a0) && ((v2.a1 == x_x4.a1) && true))) r r r r ⟨rfl,⟨rfl,trivial⟩⟩ r<|Ki (by kernel_rfl)<|xS<|cD (c:=((v2.a0 == x_x4.a0) && ((v2.a1 == x_x4.a1) && true))) r ?_ ?_
  ·refine sQ<|rG<|mV r r<|aS r r<|nI<|xS<|rT<|bR<|xR<|lR<|bR<|xR<|JZ (b:=x3) r ?_ r r ?_ r
   all_goals first|(simp;done)|(simp;omega)|rfl|(simp [JU,JQ];done)
  ·exact sK<|bM<|xS<|rG<|bN (v:=.int .i64 (IntKind.i64.wrap (x3 + 1))) r r r r r<|mV r r<|nI<|xL (s:=IntKind.i64.wrap (x3 + 1)) _ ((hE ⟨rfl,r,r,r,trivial⟩ ⟨rfl,trivial⟩))
 ·refine eT<|xE<|lE<|bH<|xS<|sQ<|rG<|aS r r<|nI<|xS<|rT<|JZ (b:=(-1)) r ?_ r r ?_ r
  all_goals first|(simp;done)|(simp;omega)|rfl|(simp [JU,JQ];done)

def AdY : Kb:=(.seq (.reg [P 3 (.box (T 1) 2 61),P 4 (.asg (.c (.bool false)) none)] false) (.seq (.reg [M 5 0,P 6 (.ld 2 true (T 3)),P 7 (.call (.c (.clo 108 [])) [(T 5),(T 6)]),P 8 (.bin .geq (T 7) (C 0)),P 4 (.asg (T 8) none)] false) .ret))
theorem Ahg : (Tryd.f85.body.bind (Kc Tryd.prog Tryd.f85.ntmps)) = some AdY:=by kernel_rfl
theorem Ahh : Tryd.f85.results.toList.mapM (Kp Tryd.prog) = some [(.t 4)]:=by kernel_rfl
def LD (a : (List JY) × JY) : List D:=[.sl (a.1.map KB),KB a.2]
def MU (ds : List D) : (List JY) × JY:=((uL TR) (ds.getD 0 .top),TR (ds.getD 1 .top))
theorem PD (a : (List JY) × JY) : MU (LD a) = a:=by simp [MU,LD,LH (u:=TR) (en:=KB) AaO]
def PV (b : Bool) : D:=.bool b
def PU (_b : Bool) : List D:=[]
noncomputable def Nq : Dw.Spec:=Ka [] .ground LD MU (fun a=>Lh a.1 a.2) PV PU
set_option maxHeartbeats 4000000 in
theorem Uv : JX Tryd.prog 85 Nq:=by
 refine Kl (Kg (l:=[(108,Ov)]) (by simp [VF])) Tryd.func85 (by decide) Ahg Ahh (np:=2) (by decide) PD (fun _=>r) (fun _=>r) (by decide)<|?_
 rintro ⟨s1,v2⟩
 show TrE (specs [(108,Ov)]) AdY (Kr [] .ground [(.t 4)] PV PU) ⟨[(0,.sl (s1.map KB)),(1,.agg [.int .i64 v2.a0,.int .i64 v2.a1])],[],262144⟩ (Lh s1 v2)
 refine Kd<|?_
 unfold AdY Lh
 refine sQ<|rG<|bX r r r r r<|aS r r<|nI<|xS<|sQ<|rG<|mV r r<|lO (v:=.agg [.int .i64 v2.a0,.int .i64 v2.a1]) (z:=.agg [.int .i64 v2.a0,.int .i64 v2.a1]) r r r r r r<|bD fun r3 hr3=>cG (s1,v2) r r r Qx r r (by simp) r hr3 r<|bN (v:=.bool (decide (r3 ≥ 0))) r r r r r<|aS r r<|nI<|xS<|rT<|JZ (b:=(decide (r3 ≥ 0))) r ?_ r r ?_ r
 all_goals first|(simp;done)|(simp;omega)|rfl|(simp [JU,JQ];done)

def AdD : Kb:=(.seq (.reg [P 1 (.box (T 0) 3 27),⟨(some 2),(.asg (.c .nils) (some ⟨2,61⟩)),none,[]⟩] false) (.seq (.reg [⟨(some 3),(.asg (.c .nils) (some ⟨2,61⟩)),none,[]⟩] false) (.seq (.seq (.reg [P 7 (.fldA 2 (T 1)),P 8 (.ld 1 false (T 7)),P 9 (.len false (T 8)),P 10 (.mv (C 0))] false) (.block 0 (.loop (.seq (.reg [P 11 (.bin .lss (T 10) (T 9))] false) (.seq (.cond (T 11) .skip (.exit 0)) (.seq (.block 1 (.seq (.reg [P 12 (.ixA 5 (T 8) (T 10)),P 13 (.ld 5 true (T 12)),P 5 (.new (.agg [(.int .i64 0),(.int .i64 0),(.int .i64 0),(.int .i64 0),(.int .u64 0)]) 5 66),⟨none,(.st 5 (T 5) (T 13)),none,[]⟩] false) (.seq (.reg [P 14 (.fldA 1 (T 5)),P 15 (.ld 1 false (T 14)),P 16 (.fldA 2 (T 5)),P 17 (.ld 1 false (T 16)),⟨(some 18),(.bld [(.int .i64 0),(.int .i64 0)] [⟨0,⟨1,(T 15)⟩⟩,⟨1,⟨1,(T 17)⟩⟩]),none,[]⟩,P 6 (.new (.agg [(.int .i64 0),(.int .i64 0)]) 2 61),⟨none,(.st 2 (T 6) (T 18)),none,[]⟩] false) (.seq (.reg [P 19 (.fldA 0 (T 5)),P 20 (.ld 1 false (T 19)),P 21 (.bin .eql (T 20) (C 17)),M 22 21,⟨(some 23),(.fldA 1 (T 5)),(some ⟨22,true⟩),[]⟩,⟨(some 24),(.ld 1 false (T 23)),(some ⟨22,true⟩),[]⟩,⟨(some 25),(.fldA 2 (T 5)),(some ⟨22,true⟩),[]⟩,⟨(some 26),(.ld 1 false (T 25)),(some ⟨22,true⟩),[]⟩,⟨(some 27),(.bin .neq (T 24) (T 26)),(some ⟨22,true⟩),[]⟩,P 28 (.pick (T 22) (T 27) (.c (.bool false))),M 29 28,⟨(some 30),(.mv (T 3)),(some ⟨29,true⟩),[]⟩,⟨(some 31),(.ld 2 true (T 6)),(some ⟨29,true⟩),[]⟩,⟨(some 32),(.call (.c (.clo 85 [])) [(T 30),(T 31)]),(some ⟨29,true⟩),[]⟩,⟨(some 33),(.un .not (T 32)),(some ⟨29,true⟩),[]⟩,P 34 (.pick (T 29) (T 33) (.c (.bool false)))] false) (.cond (T 34) (.reg [M 35 3,P 36 (.ld 2 true (T 6)),⟨(some 37),(.bldS 2 61 (.agg [(.int .i64 0),(.int .i64 0)]) 1 [⟨0,(T 36)⟩]),none,[]⟩,P 38 (.app 2 61 16 (T 35) (T 37)),⟨(some 3),(.asg (T 38) (some ⟨2,61⟩)),none,[]⟩] false) .skip))))) (.reg [P 39 (.bin .add (T 10) (C 1)),M 10 39] false))))))) (.seq (.reg [M 40 3,⟨(some 2),(.asg (T 40) (some ⟨2,61⟩)),none,[]⟩] false) .ret))))
theorem Agq : (Tryd.f51.body.bind (Kc Tryd.prog Tryd.f51.ntmps)) = some AdD:=by kernel_rfl
theorem Agr : Tryd.f51.results.toList.mapM (Kp Tryd.prog) = some [(.t 2)]:=by kernel_rfl
def OZ (a : JO) : List D:=[Kv a]
def RA (ds : List D) : JO:=MP (ds.getD 0 .top)
theorem Sd (a : JO) : RA (OZ a) = a:=by simp [RA,OZ]
def Wm (b : (List JY)) : D:=.sl (b.map KB)
def Wl (_b : (List JY)) : List D:=[]
noncomputable def Oy : Dw.Spec:=Ka [] (.row 2 61) OZ RA (fun a=>MY a) Wm Wl
set_option maxHeartbeats 4000000 in
theorem Vw : JX Tryd.prog 51 Oy:=by
 refine Kl (Kg (l:=[(85,Nq)]) (by simp [Uv])) Tryd.func51 (by decide) Agq Agr (np:=1) (by decide) Sd (fun _=>r) (fun _=>r) (by decide)<|?_
 intro f1
 show TrE (specs [(85,Nq)]) AdD (Kr [] (.row 2 61) [(.t 2)] Wm Wl) ⟨[(0,.agg [.int .i64 f1.Params,.sl (f1.Slots.map JP),.sl (f1.Code.map JN)])],[],262144⟩ (MY f1)
 refine Kd<|?_
 unfold AdD MY
 refine sQ<|rG<|bX r r r r r<|aN (α:=JY) r KB r<|nI<|xS<|sQ<|rG<|aN (α:=JY) r KB r<|nI<|xS<|sQ<|sQ<|rG<|fA r r<|lO (v:=.sl (f1.Code.map JN)) (z:=.agg [.int .i64 f1.Params,.sl (f1.Slots.map JP),.sl (f1.Code.map JN)]) r r r r r r<|lS r r<|mV r r<|nI<|xS<|bK<|lP (E:=fun (s : (List JY) × Int) (g : Nat)=>[(3,.osl 3 g 0 s.1.length),(8,.sl (f1.Code.map JN)),(9,.int .i64 (f1.Code.length : Int)),(10,.int .i64 s.2)]) (O:=fun s g=>[(3,some (g,⟨false,false,2,61,s.1.map KB⟩))]) (body:=fun s=>Ln f1 s.1 s.2) (s:=(([] : List JY),0)) _ ((hE ⟨rfl,r,r,r,trivial⟩ ⟨rfl,trivial⟩))<|?_
 rintro ⟨l2,x3⟩ v3x1 nn
 try dsimp only
 unfold Ln
 refine sQ<|rG<|bN (v:=.bool (decide (x3 < (f1.Code.length : Int)))) r r r r r<|nI<|xS<|sQ<|cD (c:=(decide (x3 < (f1.Code.length : Int)))) r ?_ ?_
 ·refine sK<|xS<|sQ<|bK<|sQ<|rG<|bD fun x_x4 hx_x4=>iS (en:=JN) r r r hx_x4 r<|lF (v:=.agg [.int .i64 x_x4.Op,.int .i64 x_x4.A,.int .i64 x_x4.B,.int .i64 x_x4.C,.int .u64 x_x4.Imm]) r r r r<|nW r<|sV (z':=.agg [.int .i64 x_x4.Op,.int .i64 x_x4.A,.int .i64 x_x4.B,.int .i64 x_x4.C,.int .u64 x_x4.Imm]) r r r r r r r r r<|nI<|xS<|sQ<|rG<|fA r r<|lO (v:=.int .i64 x_x4.A) (z:=.agg [.int .i64 x_x4.Op,.int .i64 x_x4.A,.int .i64 x_x4.B,.int .i64 x_x4.C,.int .u64 x_x4.Imm]) r r r r r r<|fA r r<|lO (v:=.int .i64 x_x4.B) (z:=.agg [.int .i64 x_x4.Op,.int .i64 x_x4.A,.int .i64 x_x4.B,.int .i64 x_x4.C,.int .u64 x_x4.Imm]) r r r r r r<|bL (cs:=[.int .i64 x_x4.A,.int .i64 x_x4.B]) (ps:=[(0,1,.int .i64 x_x4.A),(1,1,.int .i64 x_x4.B)]) r r r r<|nW r<|sV (z':=.agg [.int .i64 x_x4.A,.int .i64 x_x4.B]) r r r r r r r r r<|nI<|xS<|sQ<|rG<|fA r r<|lO (v:=.int .i64 x_x4.Op) (z:=.agg [.int .i64 x_x4.Op,.int .i64 x_x4.A,.int .i64 x_x4.B,.int .i64 x_x4.C,.int .u64 x_x4.Imm]) r r r r r r<|bN (v:=.bool (x_x4.Op == 17)) r r r r r<|mV r r<|sP 22 (b:=(x_x4.Op == 17)) r ?_ ?_
  ·refine fA r r<|lO (v:=.int .i64 x_x4.A) (z:=.agg [.int .i64 x_x4.Op,.int .i64 x_x4.A,.int .i64 x_x4.B,.int .i64 x_x4.C,.int .u64 x_x4.Imm]) r r r r r r<|fA r r<|lO (v:=.int .i64 x_x4.B) (z:=.agg [.int .i64 x_x4.Op,.int .i64 x_x4.A,.int .i64 x_x4.B,.int .i64 x_x4.C,.int .u64 x_x4.Imm]) r r r r r r<|bN (v:=.bool (x_x4.A != x_x4.B)) r r r r r<|pT r r r r<|mV r r<|sP 29 (b:=(x_x4.A != x_x4.B)) r ?_ ?_
   ·refine mV r r<|lO (v:=.agg [.int .i64 x_x4.A,.int .i64 x_x4.B]) (z:=.agg [.int .i64 x_x4.A,.int .i64 x_x4.B]) r r r r r r<|bD fun r5 hr5=>cG (l2,(JY.mk x_x4.A x_x4.B)) r r r PD r r (by simp) (by first | rfl | (simp only [Kh,Km]; rfl) | simp [LD,KB]) hr5 r<|uN (w:=.bool (!r5)) r r r r trivial<|pT r r r r<|nI<|xS<|cD (c:=(!r5)) r ?_ ?_
    ·exact rG<|mV r r<|lO (v:=.agg [.int .i64 x_x4.A,.int .i64 x_x4.B]) (z:=.agg [.int .i64 x_x4.A,.int .i64 x_x4.B]) r r r r r r<|bS ([(JY.mk x_x4.A x_x4.B)] : List JY) KB r r r (by simp) r r r<|cK fun hq=>aP (l2) (([(JY.mk x_x4.A x_x4.B)] : List JY)) KB r r r r r r r (by simp) (Kn _ _ r) r r (by simp) (JS _ _ r) (fun _=>r) r hq<|aO (l:=l2 ++ ([(JY.mk x_x4.A x_x4.B)] : List JY)) (en:=KB) r r r r<|nI<|bM<|xS<|rG<|bN (v:=.int .i64 (IntKind.i64.wrap (x3 + 1))) r r r r r<|mV r r<|nI<|xL (s:=(l2 ++ ([(JY.mk x_x4.A x_x4.B)] : List JY),IntKind.i64.wrap (x3 + 1))) _ ((hE ⟨rfl,r,r,r,trivial⟩ ⟨rfl,trivial⟩))
    ·exact sK<|bM<|xS<|rG<|bN (v:=.int .i64 (IntKind.i64.wrap (x3 + 1))) r r r r r<|mV r r<|nI<|xL (s:=(l2,IntKind.i64.wrap (x3 + 1))) _ ((hE ⟨rfl,r,r,r,trivial⟩ ⟨rfl,trivial⟩))
   ·exact oF r<|oF r<|oF r<|oF r<|pF r r r r<|nI<|xS<|Nj r<|sK<|bM<|xS<|rG<|bN (v:=.int .i64 (IntKind.i64.wrap (x3 + 1))) r r r r r<|mV r r<|nI<|xL (s:=(l2,IntKind.i64.wrap (x3 + 1))) _ ((hE ⟨rfl,r,r,r,trivial⟩ ⟨rfl,trivial⟩))
  ·exact oF r<|oF r<|oF r<|oF r<|oF r<|pF r r r r<|mV r r<|oF r<|oF r<|oF r<|oF r<|pF r r r r<|nI<|xS<|Nj r<|sK<|bM<|xS<|rG<|bN (v:=.int .i64 (IntKind.i64.wrap (x3 + 1))) r r r r r<|mV r r<|nI<|xL (s:=(l2,IntKind.i64.wrap (x3 + 1))) _ ((hE ⟨rfl,r,r,r,trivial⟩ ⟨rfl,trivial⟩))
 ·refine eT<|xE<|lE<|bH<|xS<|sQ<|rG<|mV r r<|aO (l:=l2) (en:=KB) r r r r<|nI<|xS<|rT<|Ku (b:=l2) r ?_ r r ?_ r ?_ (congrArg D.sl (JS _ _ r)) r
  all_goals first|(simp;done)|(simp;omega)|rfl|(simp [JU,JQ];done)

def Adz : Kb:=(.seq (.reg [P 0 (.asg (.c (.bool false)) none)] false) (.seq (.reg [⟨(some 2),(.bld [(.int .i64 0),(.int .i64 0)] [⟨0,⟨1,(C 8)⟩⟩,⟨1,⟨1,(C 8)⟩⟩]),none,[]⟩,⟨(some 3),(.bld [(.int .i64 0),(.int .i64 0)] [⟨0,⟨1,(C 8)⟩⟩,⟨1,⟨1,(C 8)⟩⟩]),none,[]⟩,⟨(some 4),(.bldS 2 63 (.agg [(.int .i64 0),(.int .i64 0)]) 2 [⟨0,(T 2)⟩,⟨1,(T 3)⟩]),none,[]⟩,⟨(some 5),(.bld [(.int .i64 0),(.int .i64 0),(.int .i64 0),(.int .i64 0),(.int .u64 0)] [⟨0,⟨1,(C 17)⟩⟩,⟨2,⟨1,(C 1)⟩⟩]),none,[]⟩,⟨(some 6),(.bld [(.int .i64 0),(.int .i64 0),(.int .i64 0),(.int .i64 0),(.int .u64 0)] [⟨0,⟨1,(C 23)⟩⟩]),none,[]⟩,⟨(some 7),(.bldS 5 66 (.agg [(.int .i64 0),(.int .i64 0),(.int .i64 0),(.int .i64 0),(.int .u64 0)]) 2 [⟨0,(T 5)⟩,⟨1,(T 6)⟩]),none,[]⟩,⟨(some 8),(.bld [(.int .i64 0),.nils,.nils] [⟨1,⟨1,(T 4)⟩⟩,⟨2,⟨1,(T 7)⟩⟩]),none,[]⟩,P 1 (.new (.agg [(.int .i64 0),.nils,.nils]) 3 27),⟨none,(.st 3 (T 1) (T 8)),none,[]⟩] false) (.seq (.reg [P 9 (.ld 3 true (T 1)),P 10 (.call (.c (.clo 51 [])) [(T 9)]),P 11 (.len false (T 10)),P 12 (.bin .eql (T 11) (C 1)),P 0 (.asg (T 12) none)] false) .ret)))
theorem Agi : (Tryd.f45.body.bind (Kc Tryd.prog Tryd.f45.ntmps)) = some Adz:=by kernel_rfl
theorem Agj : Tryd.f45.results.toList.mapM (Kp Tryd.prog) = some [(.t 0)]:=by kernel_rfl
def Ul (a : Unit) : List D:=[]
def Uk (ds : List D) : Unit:=()
theorem Yf (a : Unit) : Uk (Ul a) = a:=by simp [Uk,Ul]
def YI (b : Bool) : D:=.bool b
def YH (_b : Bool) : List D:=[]
noncomputable def VN : Dw.Spec:=Ka [] .ground Ul Uk (fun a=>Rb) YI YH
set_option maxHeartbeats 4000000 in
theorem Aaz : JX Tryd.prog 45 VN:=by
 refine Kl (Kg (l:=[(51,Oy)]) (by simp [Vw])) Tryd.func45 (by decide) Agi Agj (np:=0) (by decide) Yf (fun _=>r) (fun _=>r) (by decide)<|?_
 intro _
 show TrE (specs [(51,Oy)]) Adz (Kr [] .ground [(.t 0)] YI YH) ⟨[],[],262144⟩ (Rb)
 refine Kd<|?_
 unfold Adz Rb
 refine sQ<|rG<|aS r r<|nI<|xS<|sQ<|rG<|bL (cs:=[.int .i64 8,.int .i64 8]) (ps:=[(0,1,.int .i64 8),(1,1,.int .i64 8)]) r r r r<|bL (cs:=[.int .i64 8,.int .i64 8]) (ps:=[(0,1,.int .i64 8),(1,1,.int .i64 8)]) r r r r<|bS ([(Ko.mk 8 8),(Ko.mk 8 8)] : List Ko) JP r r r (by simp) r r r<|bL (cs:=[.int .i64 17,.int .i64 0,.int .i64 1,.int .i64 0,.int .u64 0]) (ps:=[(0,1,.int .i64 17),(2,1,.int .i64 1)]) r r r r<|bL (cs:=[.int .i64 23,.int .i64 0,.int .i64 0,.int .i64 0,.int .u64 0]) (ps:=[(0,1,.int .i64 23)]) r r r r<|bS ([(JL.mk 17 0 1 0 0),(JL.mk 23 0 0 0 0)] : List JL) JN r r r (by simp) r r r<|bL (cs:=[.int .i64 0,.osl 4 _ 0 (([(Ko.mk 8 8),(Ko.mk 8 8)] : List Ko).length),.osl 7 _ 0 (([(JL.mk 17 0 1 0 0),(JL.mk 23 0 0 0 0)] : List JL).length)]) (ps:=[(1,1,.osl 4 _ 0 (([(Ko.mk 8 8),(Ko.mk 8 8)] : List Ko).length)),(2,1,.osl 7 _ 0 (([(JL.mk 17 0 1 0 0),(JL.mk 23 0 0 0 0)] : List JL).length))]) r r r r<|nW r<|sV (z':=.agg [.int .i64 0,.osl 4 _ 0 (([(Ko.mk 8 8),(Ko.mk 8 8)] : List Ko).length),.osl 7 _ 0 (([(JL.mk 17 0 1 0 0),(JL.mk 23 0 0 0 0)] : List JL).length)]) r r r r r r r r r<|nI<|xS<|sQ<|rG<|lO (v:=.agg [.int .i64 0,.osl 4 _ 0 (([(Ko.mk 8 8),(Ko.mk 8 8)] : List Ko).length),.osl 7 _ 0 (([(JL.mk 17 0 1 0 0),(JL.mk 23 0 0 0 0)] : List JL).length)]) (z:=.agg [.int .i64 0,.osl 4 _ 0 (([(Ko.mk 8 8),(Ko.mk 8 8)] : List Ko).length),.osl 7 _ 0 (([(JL.mk 17 0 1 0 0),(JL.mk 23 0 0 0 0)] : List JL).length)]) r r r r r r<|bD fun r1 hr1=>cR (l:=r1) (en:=KB) (JO.mk 0 ([(Ko.mk 8 8),(Ko.mk 8 8)] : List Ko) ([(JL.mk 17 0 1 0 0),(JL.mk 23 0 0 0 0)] : List JL)) r r r Sd r r (by simp) (by first | rfl | (simp only [Kh,Km]; rfl) | simp [OZ,Kv]) hr1 r<|lW r r<|bN (v:=.bool ((r1.length : Int) == 1)) r r r r r<|aS r r<|nI<|xS<|rT<|JZ (b:=((r1.length : Int) == 1)) r ?_ r r ?_ r
 all_goals first|(simp;done)|(simp;omega)|rfl|(simp [JU,JQ];done)

def AdE : Kb:=(.seq (.reg [P 4 (.asg (.c .top) none)] false) (.seq (.reg [M 5 0,M 6 0,P 7 (.len false (T 6)),M 8 1,P 9 (.min [(T 7),(T 8)]),P 10 (.slc 1 (T 5) none (some (T 9))),⟨(some 11),(.bld [.nils,(.int .i64 0)] [⟨0,⟨1,(T 10)⟩⟩]),none,[]⟩,P 12 (.box (T 11) 2 100),P 4 (.asg (T 12) none)] false) .ret))
theorem Ags : (Tryd.f52.body.bind (Kc Tryd.prog Tryd.f52.ntmps)) = some AdE:=by kernel_rfl
theorem Agt : Tryd.f52.results.toList.mapM (Kp Tryd.prog) = some [(.t 4)]:=by kernel_rfl
def Xb (a : (List Int) × Int) : List D:=[.sl (a.1.map eU8),.int .i64 a.2]
def Xa (ds : List D) : (List Int) × Int:=((uL uI) (ds.getD 0 .top),uI (ds.getD 1 .top))
theorem ZN (a : (List Int) × Int) : Xa (Xb a) = a:=by simp [Xa,Xb,uI,LH (u:=uI) (en:=eU8) (fun _=>rfl)]
def Aal (b : JJ) : D:=Kk b
def Aak (_b : JJ) : List D:=[]
noncomputable def Yv : Dw.Spec:=Ka [] (.ptr 2 100) Xb Xa (fun a=>UM a.1 a.2) Aal Aak
set_option maxHeartbeats 4000000 in
theorem AbQ : JX Tryd.prog 52 Yv:=by
 refine Kl (KM) Tryd.func52 (by decide) Ags Agt (np:=2) (by decide) ZN (fun _=>r) (fun _=>r) (by decide)<|?_
 rintro ⟨list1,limit2⟩
 show TrE (specs []) AdE (Kr [] (.ptr 2 100) [(.t 4)] Aal Aak) ⟨[(0,.sl (list1.map eU8)),(1,.int .i64 limit2)],[],262144⟩ (UM list1 limit2)
 refine Kd<|?_
 unfold AdE UM
 refine sQ<|rG<|aS r r<|nI<|xS<|sQ<|rG<|mV r r<|mV r r<|lS r r<|mV r r<|Afw r r r<|cK fun hq=>AaX (l:=list1) (en:=eU8) r r r (fun _=>r) r hq<|bL (cs:=[.sl ((list1.take (Uo (list1.length : Int) limit2).toNat).map eU8),.int .i64 0]) (ps:=[(0,1,.sl ((list1.take (Uo (list1.length : Int) limit2).toNat).map eU8))]) r r r r<|bX r r r r r<|aS r r<|nI<|xS<|rT<|ZA (b:=(JJ.mk (list1.take (Uo (list1.length : Int) limit2).toNat) 0)) r ?_ r ?_ r r ?_ r
 all_goals first|(simp;done)|(simp;omega)|rfl|(simp [JU,JQ];done)

def Aea : Kb:=(.seq (.reg [P 2 (.asg (.c (.bool false)) none)] false) (.seq (.reg [M 3 0,⟨(some 4),(.nilck (T 3)),none,[0]⟩,⟨(some 5),(.fldA 1 (T 4)),none,[1]⟩,⟨(some 6),(.ld 1 false (T 5)),none,[2]⟩,M 7 0,⟨(some 8),(.nilck (T 7)),none,[4]⟩,⟨(some 9),(.fldA 0 (T 8)),none,[5]⟩,⟨(some 10),(.ld 1 false (T 9)),none,[6]⟩,⟨(some 11),(.len false (T 10)),none,[7]⟩,⟨(some 12),(.bin .lss (T 6) (T 11)),none,[3,8]⟩,⟨(some 2),(.asg (T 12) none),none,[9,0,1,2,3,4,5,6,7,8,9]⟩] true) .ret))
theorem Ahk : (Tryd.f87.body.bind (Kc Tryd.prog Tryd.f87.ntmps)) = some Aea:=by kernel_rfl
theorem Ahl : Tryd.f87.results.toList.mapM (Kp Tryd.prog) = some [(.t 2)]:=by kernel_rfl
def Rk (a : JJ) : List D:=[Kk a]
def Rj (ds : List D) : JJ:=Lv (ds.getD 0 .top)
theorem Vm (a : JJ) : Rj (Rk a) = a:=by simp [Rj,Rk]
def VW (b : Bool × JJ) : D:=.bool b.1
def VV (b : Bool × JJ) : List D:=[Kk b.2]
noncomputable def SN : Dw.Spec:=Ka [(0,(2,100))] .val Rk Rj (fun a=>Ps a) VW VV
set_option maxHeartbeats 4000000 in
theorem YY : JX Tryd.prog 87 SN:=by
 refine Kl (KM) Tryd.func87 (by decide) Ahk Ahl (np:=1) (by decide) Vm (fun _=>r) (fun _=>r) (by decide)<|?_
 intro c1
 show TrE (specs []) Aea (Kr [(0,(2,100))] .val [(.t 2)] VW VV) ⟨[(0,.optr 8192 0 0 0)],[(8192,some (0,⟨false,true,2,100,[.agg [.sl (c1.list.map eU8),.int .i64 c1.at_]]⟩))],262144⟩ (Ps c1)
 refine Kd<|?_
 unfold Aea Ps
 refine sQ<|rG<|aS r r<|nI<|xS<|sQ<|rG<|mV r r<|nC r r r<|fA r r<|lO (v:=.int .i64 c1.at_) (z:=.agg [.sl (c1.list.map eU8),.int .i64 c1.at_]) r r r r r r<|mV r r<|nC r r r<|fA r r<|lO (v:=.sl (c1.list.map eU8)) (z:=.agg [.sl (c1.list.map eU8),.int .i64 c1.at_]) r r r r r r<|lS r r<|bN (v:=.bool (decide (c1.at_ < (c1.list.length : Int)))) r r r r r<|aS r r<|Ki (by kernel_rfl)<|xS<|rT<|KC (b:=((decide (c1.at_ < (c1.list.length : Int))),c1)) r ?_ r r ?_ r
 all_goals first|(simp;done)|(simp;omega)|rfl|(simp [JU,JQ];done)

def AdG : Kb:=(.seq (.reg [P 4 (.asg (C 0) none)] false) (.seq (.seq (.reg [M 6 0,P 7 (.call (.c (.clo 87 [])) [(T 6)]),P 8 (.un .not (T 7)),M 9 8,⟨(some 10),(.mv (T 1)),(some ⟨9,false⟩),[]⟩,⟨(some 11),(.bin .lss (T 10) (C 1)),(some ⟨9,false⟩),[]⟩,P 12 (.pick (T 9) (.c (.bool true)) (T 11))] false) (.cond (T 12) (.seq (.reg [P 4 (.asg (C 0) none)] false) .ret) .skip)) (.seq (.reg [M 13 0,⟨(some 14),(.nilck (T 13)),none,[0]⟩,⟨(some 15),(.fldA 0 (T 14)),none,[1]⟩,⟨(some 16),(.ld 1 false (T 15)),none,[2]⟩,M 17 0,⟨(some 18),(.nilck (T 17)),none,[4]⟩,⟨(some 19),(.fldA 1 (T 18)),none,[5]⟩,⟨(some 20),(.ld 1 false (T 19)),none,[6]⟩,⟨(some 21),(.ixA 1 (T 16) (T 20)),none,[3,7]⟩,⟨(some 22),(.ld 1 false (T 21)),none,[8]⟩,⟨(some 23),(.cvt .i64 (T 22)),none,[9]⟩,⟨(some 5),(.asg (T 23) none),none,[10,0,1,2,3,4,5,6,7,8,9,10]⟩] true) (.seq (.reg [M 24 0,P 25 (.nilck (T 24)),P 26 (.fldA 1 (T 25)),P 27 (.ld 1 false (T 26)),P 28 (.bin .add (T 27) (C 1)),P 29 (.nilck (T 24)),P 30 (.fldA 1 (T 29)),⟨none,(.st 1 (T 30) (T 28)),none,[]⟩] false) (.seq (.reg [M 31 5,M 32 1,P 33 (.bin .mul (T 31) (T 32)),P 34 (.bin .quo (T 33) (C 256)),P 4 (.asg (T 34) none)] false) .ret)))))
theorem Agw : (Tryd.f54.body.bind (Kc Tryd.prog Tryd.f54.ntmps)) = some AdG:=by kernel_rfl
theorem Agx : Tryd.f54.results.toList.mapM (Kp Tryd.prog) = some [(.t 4)]:=by kernel_rfl
def Ro (a : JJ × Int) : List D:=[Kk a.1,.int .i64 a.2]
def Rn (ds : List D) : JJ × Int:=(Lv (ds.getD 0 .top),uI (ds.getD 1 .top))
theorem JR (a : JJ × Int) : Rn (Ro a) = a:=by simp [Rn,Ro,uI]
def VZ (b : Int × JJ) : D:=.int .i64 b.1
def VY (b : Int × JJ) : List D:=[Kk b.2]
noncomputable def Kf : Dw.Spec:=Ka [(0,(2,100))] .val Ro Rn (fun a=>JT a.1 a.2) VZ VY
set_option maxHeartbeats 4000000 in
theorem KJ : JX Tryd.prog 54 Kf:=by
 refine Kl (Kg (l:=[(87,SN)]) (by simp [YY])) Tryd.func54 (by decide) Agw Agx (np:=2) (by decide) JR (fun _=>r) (fun _=>r) (by decide)<|?_
 rintro ⟨c1,n2⟩
 show TrE (specs [(87,SN)]) AdG (Kr [(0,(2,100))] .val [(.t 4)] VZ VY) ⟨[(0,.optr 8192 0 0 0),(1,.int .i64 n2)],[(8192,some (0,⟨false,true,2,100,[.agg [.sl (c1.list.map eU8),.int .i64 c1.at_]]⟩))],262144⟩ (JT c1 n2)
 refine Kd<|?_
 unfold AdG JT
 refine sQ<|rG<|aS r r<|nI<|xS<|sC (E:=fun (s : (List Int) × Int) (g : Unit)=>[(0,.optr 8192 0 0 0),(1,.int .i64 n2)]) (O:=fun s g=>[(8192,some (0,⟨false,true,2,100,[.agg [.sl (s.1.map eU8),.int .i64 s.2]]⟩))]) (j:=fun s=>Px n2 s.1 s.2) ?_ ?_
 ·refine sQ<|rG<|mV r r<|bD fun r5 hr5=>cV c1 r r r Vm r r (by simp) r hr5<|uN (w:=.bool (!r5.1)) r r r r trivial<|mV r r<|sP 9 (b:=(!r5.1)) r ?_ ?_
  ·refine oF r<|oF r<|pT r r r r<|nI<|xS<|LY r<|sQ<|rG<|aS r r<|nI<|xS<|rT<|zR<|KC (b:=(0,r5.2)) r ?_ r r ?_ r
   all_goals first|(simp;done)|(simp;omega)|rfl|(simp [JU,JQ];done)
  ·refine mV r r<|bN (v:=.bool (decide (n2 < 1))) r r r r r<|pF r r r r<|nI<|xS<|cD (c:=(decide (n2 < 1))) r ?_ ?_
   ·refine sQ<|rG<|aS r r<|nI<|xS<|rT<|zR<|KC (b:=(0,r5.2)) r ?_ r r ?_ r
    all_goals first|(simp;done)|(simp;omega)|rfl|(simp [JU,JQ];done)
   ·exact sK<|xC (s:=(r5.2.list,r5.2.at_)) () ((hE ⟨rfl,r,trivial⟩ ⟨rfl,trivial⟩))
 ·rintro ⟨c3,c4⟩ ⟨⟩ nn
  try dsimp only
  unfold Px
  refine sQ<|rG<|mV r r<|nC r r r<|fA r r<|lO (v:=.sl (c3.map eU8)) (z:=.agg [.sl (c3.map eU8),.int .i64 c4]) r r r r r r<|mV r r<|nC r r r<|fA r r<|lO (v:=.int .i64 c4) (z:=.agg [.sl (c3.map eU8),.int .i64 c4]) r r r r r r<|bD fun x_x6 hx_x6=>iS (en:=eU8) r r r hx_x6 r<|lF (v:=.int .u8 x_x6) r r r r<|cT r r<|aS r r<|Ki (by kernel_rfl)<|xS<|sQ<|rG<|mV r r<|nC r r r<|fA r r<|lO (v:=.int .i64 c4) (z:=.agg [.sl (c3.map eU8),.int .i64 c4]) r r r r r r<|bN (v:=.int .i64 (IntKind.i64.wrap (c4 + 1))) r r r r r<|nC r r r<|fA r r<|Ti (i:=0) (es':=[.agg [.sl (c3.map eU8),.int .i64 (IntKind.i64.wrap (c4 + 1))]]) r r r r r r r (by first | trivial | (simp; done) | (simp; omega)) r r r r r r<|nI<|xS<|sQ<|rG<|mV r r<|mV r r<|bN (v:=.int .i64 (IntKind.i64.wrap ((IntKind.i64.wrap (x_x6)) * n2))) r r r r r<|bN (v:=.int .i64 (IntKind.i64.wrap ((IntKind.i64.wrap ((IntKind.i64.wrap (x_x6)) * n2)).tdiv 256))) r r r r ⟨rfl,(by decide)⟩<|aS r r<|nI<|xS<|rT<|KC (b:=(IntKind.i64.wrap ((IntKind.i64.wrap ((IntKind.i64.wrap (x_x6)) * n2)).tdiv 256),(JJ.mk c3 (IntKind.i64.wrap (c4 + 1))))) r ?_ r r ?_ r
  all_goals first|(simp;done)|(simp;omega)|rfl|(simp [JU,JQ];done)

def Acv : Kb:=(.seq (.reg [P 2 (.new (.agg [(.int .i64 0),(.int .i64 0)]) 2 63)] false) (.seq (.reg [⟨(some 3),(.bldS 1 3 (.int .i64 0) 7 [⟨0,(C 8)⟩,⟨1,(C 4)⟩,⟨2,(C 8)⟩,⟨3,(C 1)⟩,⟨4,(C 2)⟩,⟨5,(C 16)⟩,⟨6,(C 8)⟩]),none,[]⟩,M 4 0,⟨(some 5),(.call (.c (.clo 54 [])) [(T 4),(C 7)]),none,[1]⟩,⟨(some 6),(.ixA 1 (T 3) (T 5)),none,[0,2]⟩,⟨(some 7),(.ld 1 false (T 6)),none,[3]⟩,⟨(some 8),(.bldS 1 3 (.int .i64 0) 8 [⟨0,(C 8)⟩,⟨1,(C 4)⟩,⟨2,(C 1)⟩,⟨3,(C 8)⟩,⟨4,(C 16)⟩,⟨5,(C 2)⟩,⟨6,(C 32)⟩,⟨7,(C 64)⟩]),none,[]⟩,M 9 0,⟨(some 10),(.call (.c (.clo 54 [])) [(T 9),(C 8)]),none,[6,2]⟩,⟨(some 11),(.ixA 1 (T 8) (T 10)),none,[5,7]⟩,⟨(some 12),(.ld 1 false (T 11)),none,[8]⟩,⟨(some 13),(.bld [(.int .i64 0),(.int .i64 0)] [⟨0,⟨1,(T 7)⟩⟩,⟨1,⟨1,(T 12)⟩⟩]),none,[4,9]⟩,⟨none,(.st 2 (T 2) (T 13)),none,[10,7,0,1,2,3,4,5,6,7,8,9,10]⟩] true) .ret))
theorem Afh : (Tryd.f121.body.bind (Kc Tryd.prog Tryd.f121.ntmps)) = some Acv:=by kernel_rfl
theorem Afi : Tryd.f121.results.toList.mapM (Kp Tryd.prog) = some [(.c 2 2 true)]:=by kernel_rfl
def Rq (a : JJ) : List D:=[Kk a]
def Rp (ds : List D) : JJ:=Lv (ds.getD 0 .top)
theorem Vp (a : JJ) : Rp (Rq a) = a:=by simp [Rp,Rq]
def Wb (b : Ko × JJ) : D:=JP b.1
def Wa (b : Ko × JJ) : List D:=[Kk b.2]
noncomputable def SP : Dw.Spec:=Ka [(0,(2,100))] .val Rq Rp (fun a=>Oc a) Wb Wa
set_option maxHeartbeats 4000000 in
theorem Za : JX Tryd.prog 121 SP:=by
 refine Kl (Kg (l:=[(54,Kf)]) (by simp [KJ])) Tryd.func121 (by decide) Afh Afi (np:=1) (by decide) Vp (fun _=>r) (fun _=>r) (by decide)<|?_
 intro c1
 show TrE (specs [(54,Kf)]) Acv (Kr [(0,(2,100))] .val [(.c 2 2 true)] Wb Wa) ⟨[(0,.optr 8192 0 0 0)],[(8192,some (0,⟨false,true,2,100,[.agg [.sl (c1.list.map eU8),.int .i64 c1.at_]]⟩))],262144⟩ (Oc c1)
 refine Kd<|?_
 unfold Acv Oc
 refine sQ<|rG<|nW r<|nI<|xS<|sQ<|rG<|bS ([8,4,8,1,2,16,8] : List Int) JK r r r (by simp) r r r<|mV r r<|bD fun r2 hr2=>cV (c1,7) r r r JR r r (by simp) r hr2<|cK fun hq=>iO (l:=([8,4,8,1,2,16,8] : List Int)) (en:=JK) r r r r r hq<|bD fun x_e3 hx_e3=>lO (v:=.int .i64 x_e3) (z:=JK x_e3) r r r (Mt hx_e3) r r<|bS ([8,4,1,8,16,2,32,64] : List Int) JK r r r (by simp) r r r<|mV r r<|bD fun r4 hr4=>cV (r2.2,8) r r r JR r r (by simp) r hr4<|cK fun hq=>iO (l:=([8,4,1,8,16,2,32,64] : List Int)) (en:=JK) r r r r r hq<|bD fun x_e5 hx_e5=>lO (v:=.int .i64 x_e5) (z:=JK x_e5) r r r (Mt hx_e5) r r<|bL (cs:=[.int .i64 x_e3,.int .i64 x_e5]) (ps:=[(0,1,.int .i64 x_e3),(1,1,.int .i64 x_e5)]) r r r r<|sV (z':=.agg [.int .i64 x_e3,.int .i64 x_e5]) r r r r r r r r r<|Ki (by kernel_rfl)<|xS<|rT<|KC (b:=((Ko.mk x_e3 x_e5),r4.2)) r ?_ r r ?_ r
 all_goals first|(simp;done)|(simp;omega)|rfl|(simp [JU,JQ];done)

def Aco : Kb:=(.seq (.reg [⟨(some 4),(.asg (.c .nils) (some ⟨2,63⟩)),none,[]⟩] false) (.seq (.reg [⟨(some 5),(.asg (.c .nils) (some ⟨2,63⟩)),none,[]⟩] false) (.seq (.seq (.reg [M 7 0,M 8 1,P 9 (.bin .add (T 8) (C 1)),P 10 (.call (.c (.clo 54 [])) [(T 7),(T 9)]),P 6 (.asg (T 10) none)] false) (.block 0 (.loop (.seq (.seq (.reg [M 11 6,P 12 (.bin .gtr (T 11) (C 0))] false) (.cond (T 12) .skip (.exit 0))) (.seq (.block 1 (.reg [M 15 5,M 16 0,P 17 (.call (.c (.clo 121 [])) [(T 16)]),⟨(some 18),(.bldS 2 63 (.agg [(.int .i64 0),(.int .i64 0)]) 1 [⟨0,(T 17)⟩]),none,[]⟩,P 19 (.app 2 63 16 (T 15) (T 18)),⟨(some 5),(.asg (T 19) (some ⟨2,63⟩)),none,[]⟩] false)) (.reg [M 13 6,P 14 (.bin .sub (T 13) (C 1)),P 6 (.asg (T 14) none)] false)))))) (.seq (.reg [M 20 5,⟨(some 4),(.asg (T 20) (some ⟨2,63⟩)),none,[]⟩] false) .ret))))
theorem AeV : (Tryd.f109.body.bind (Kc Tryd.prog Tryd.f109.ntmps)) = some Aco:=by kernel_rfl
theorem AeW : Tryd.f109.results.toList.mapM (Kp Tryd.prog) = some [(.t 4)]:=by kernel_rfl
def QF (a : JJ × Int) : List D:=[Kk a.1,.int .i64 a.2]
def QE (ds : List D) : JJ × Int:=(Lv (ds.getD 0 .top),uI (ds.getD 1 .top))
theorem UA (a : JJ × Int) : QE (QF a) = a:=by simp [QE,QF,uI]
def Vr (b : (List Ko) × JJ) : D:=.sl (b.1.map JP)
def Vq (b : (List Ko) × JJ) : List D:=[Kk b.2]
noncomputable def RX : Dw.Spec:=Ka [(0,(2,100))] (.row 2 63) QF QE (fun a=>Nz a.1 a.2) Vr Vq
set_option maxHeartbeats 4000000 in
theorem YW : JX Tryd.prog 109 RX:=by
 refine Kl (Kg (l:=[(54,Kf),(121,SP)]) (by simp [KJ,Za])) Tryd.func109 (by decide) AeV AeW (np:=2) (by decide) UA (fun _=>r) (fun _=>r) (by decide)<|?_
 rintro ⟨c1,most2⟩
 show TrE (specs [(54,Kf),(121,SP)]) Aco (Kr [(0,(2,100))] (.row 2 63) [(.t 4)] Vr Vq) ⟨[(0,.optr 8192 0 0 0),(1,.int .i64 most2)],[(8192,some (0,⟨false,true,2,100,[.agg [.sl (c1.list.map eU8),.int .i64 c1.at_]]⟩))],262144⟩ (Nz c1 most2)
 refine Kd<|?_
 unfold Aco Nz
 refine sQ<|rG<|aN (α:=Ko) r JP r<|nI<|xS<|sQ<|rG<|aN (α:=Ko) r JP r<|nI<|xS<|sQ<|sQ<|rG<|mV r r<|mV r r<|bN (v:=.int .i64 (IntKind.i64.wrap (most2 + 1))) r r r r r<|bD fun r3 hr3=>cV (c1,IntKind.i64.wrap (most2 + 1)) r r r JR r r (by simp) r hr3<|aS r r<|nI<|xS<|bK<|lP (E:=fun (s : (List Int) × Int × (List Ko) × Int) (g : Nat)=>[(0,.optr 8192 0 0 0),(5,.osl 5 g 0 s.2.2.1.length),(6,.int .i64 s.2.2.2)]) (O:=fun s g=>[(5,some (g,⟨false,false,2,63,s.2.2.1.map JP⟩)),(8192,some (0,⟨false,true,2,100,[.agg [.sl (s.1.map eU8),.int .i64 s.2.1]]⟩))]) (body:=fun s=>OX s.1 s.2.1 s.2.2.1 s.2.2.2) (s:=(r3.2.list,r3.2.at_,([] : List Ko),r3.1)) _ ((hE ⟨rfl,r,r,trivial⟩ ⟨rfl,r,trivial⟩))<|?_
 rintro ⟨c4,c5,l6,n7⟩ v5x1 nn
 try dsimp only
 unfold OX
 refine sQ<|sQ<|rG<|mV r r<|bN (v:=.bool (decide (n7 > 0))) r r r r r<|nI<|xS<|cD (c:=(decide (n7 > 0))) r ?_ ?_
 ·exact sK<|xS<|sQ<|bK<|rG<|mV r r<|mV r r<|bD fun r8 hr8=>cV (JJ.mk c4 c5) r r r Vp r r (by simp) r hr8<|bS ([r8.1] : List Ko) JP r r r (by simp) r r r<|cK fun hq=>aP (l6) (([r8.1] : List Ko)) JP r r r r r r r (by simp) (Kn _ _ r) r r (by simp) (JS _ _ r) (fun _=>r) r hq<|aO (l:=l6 ++ ([r8.1] : List Ko)) (en:=JP) r r r r<|nI<|bM<|xS<|rG<|mV r r<|bN (v:=.int .i64 (IntKind.i64.wrap (n7 - 1))) r r r r r<|aS r r<|nI<|xL (s:=(r8.2.list,r8.2.at_,l6 ++ ([r8.1] : List Ko),IntKind.i64.wrap (n7 - 1))) _ ((hE ⟨rfl,r,r,trivial⟩ ⟨rfl,r,trivial⟩))
 ·refine eT<|xE<|lE<|bH<|xS<|sQ<|rG<|mV r r<|aO (l:=l6) (en:=JP) r r r r<|nI<|xS<|rT<|Ku (b:=(l6,(JJ.mk c4 c5))) r ?_ r r ?_ r ?_ (congrArg D.sl (JS _ _ r)) r
  all_goals first|(simp;done)|(simp;omega)|rfl|(simp [JU,JQ];done)

def Acw : Kb:=(.seq (.reg [P 4 (.box (T 1) 3 27),P 6 (.asg (C 0) none)] false) (.seq (.reg [⟨(some 7),(.asg (.c .nils) (some ⟨1,3⟩)),none,[]⟩] false) (.seq (.seq (.reg [P 8 (.asg (C 0) none)] false) (.block 0 (.loop (.seq (.seq (.reg [M 9 8,P 10 (.fldA 1 (T 4)),P 11 (.ld 1 false (T 10)),P 12 (.len false (T 11)),P 13 (.bin .lss (T 9) (T 12))] false) (.cond (T 13) .skip (.exit 0))) (.seq (.block 1 (.seq (.reg [P 16 (.fldA 1 (T 4)),⟨(some 17),(.ld 1 false (T 16)),none,[0]⟩,M 18 8,⟨(some 19),(.ixA 2 (T 17) (T 18)),none,[1,2]⟩,⟨(some 20),(.fldA 0 (T 19)),none,[3]⟩,⟨(some 21),(.ld 1 false (T 20)),none,[4]⟩,P 22 (.fldA 1 (T 4)),⟨(some 23),(.ld 1 false (T 22)),none,[6]⟩,M 24 2,⟨(some 25),(.ixA 2 (T 23) (T 24)),none,[7,8]⟩,⟨(some 26),(.fldA 0 (T 25)),none,[9]⟩,⟨(some 27),(.ld 1 false (T 26)),none,[10]⟩,⟨(some 28),(.bin .eql (T 21) (T 27)),none,[5,11]⟩] true) (.cond (T 28) (.reg [M 29 7,M 30 8,⟨(some 31),(.bldS 1 3 (.int .i64 0) 1 [⟨0,(T 30)⟩]),none,[]⟩,P 32 (.app 1 3 8 (T 29) (T 31)),⟨(some 7),(.asg (T 32) (some ⟨1,3⟩)),none,[]⟩] false) .skip))) (.reg [M 14 8,P 15 (.bin .add (T 14) (C 1)),P 8 (.asg (T 15) none)] false)))))) (.seq (.reg [M 33 7,M 34 0,M 35 7,P 36 (.len false (T 35)),P 37 (.call (.c (.clo 54 [])) [(T 34),(T 36)]),P 38 (.ixA 1 (T 33) (T 37)),P 39 (.ld 1 false (T 38)),P 6 (.asg (T 39) none)] false) .ret))))
theorem Afj : (Tryd.f122.body.bind (Kc Tryd.prog Tryd.f122.ntmps)) = some Acw:=by kernel_rfl
theorem Afk : Tryd.f122.results.toList.mapM (Kp Tryd.prog) = some [(.t 6)]:=by kernel_rfl
def Rv (a : JJ × JO × Int) : List D:=[Kk a.1,Kv a.2.1,.int .i64 a.2.2]
def Ru (ds : List D) : JJ × JO × Int:=(Lv (ds.getD 0 .top),MP (ds.getD 1 .top),uI (ds.getD 2 .top))
theorem Vu (a : JJ × JO × Int) : Ru (Rv a) = a:=by simp [Ru,Rv,uI]
def Wh (b : Int × JJ) : D:=.int .i64 b.1
def Wg (b : Int × JJ) : List D:=[Kk b.2]
noncomputable def SR : Dw.Spec:=Ka [(0,(2,100))] .val Rv Ru (fun a=>Oe a.1 a.2.1 a.2.2) Wh Wg
set_option maxHeartbeats 4000000 in
theorem Zc : JX Tryd.prog 122 SR:=by
 refine Kl (Kg (l:=[(54,Kf)]) (by simp [KJ])) Tryd.func122 (by decide) Afj Afk (np:=3) (by decide) Vu (fun _=>r) (fun _=>r) (by decide)<|?_
 rintro ⟨c1,f2,s3⟩
 show TrE (specs [(54,Kf)]) Acw (Kr [(0,(2,100))] .val [(.t 6)] Wh Wg) ⟨[(0,.optr 8192 0 0 0),(1,.agg [.int .i64 f2.Params,.sl (f2.Slots.map JP),.sl (f2.Code.map JN)]),(2,.int .i64 s3)],[(8192,some (0,⟨false,true,2,100,[.agg [.sl (c1.list.map eU8),.int .i64 c1.at_]]⟩))],262144⟩ (Oe c1 f2 s3)
 refine Kd<|?_
 unfold Acw Oe
 refine sQ<|rG<|bX r r r r r<|aS r r<|nI<|xS<|sQ<|rG<|aN (α:=Int) r JK r<|nI<|xS<|sQ<|sQ<|rG<|aS r r<|nI<|xS<|bK<|lP (E:=fun (s : (List Int) × Int) (g : Nat × Nat)=>[(0,.optr 8192 0 0 0),(2,.int .i64 s3),(4,.optr 4 g.1 0 0),(7,.osl 7 g.2 0 s.1.length),(8,.int .i64 s.2)]) (O:=fun s g=>[(4,some (g.1,⟨false,true,3,27,[.agg [.int .i64 f2.Params,.sl (f2.Slots.map JP),.sl (f2.Code.map JN)]]⟩)),(7,some (g.2,⟨false,false,1,3,s.1.map JK⟩)),(8192,some (0,⟨false,true,2,100,[.agg [.sl (c1.list.map eU8),.int .i64 c1.at_]]⟩))]) (body:=fun s=>Pz f2 s3 c1 s.1 s.2) (s:=(([] : List Int),0)) (_,_) ((hE ⟨rfl,r,r,r,r,trivial⟩ ⟨rfl,r,r,trivial⟩))<|?_
 rintro ⟨l4,k5⟩ ⟨v4x1,v7x1⟩ nn
 try dsimp only
 unfold Pz
 refine sQ<|sQ<|rG<|mV r r<|fA r r<|lO (v:=.sl (f2.Slots.map JP)) (z:=.agg [.int .i64 f2.Params,.sl (f2.Slots.map JP),.sl (f2.Code.map JN)]) r r r r r r<|lS r r<|bN (v:=.bool (decide (k5 < (f2.Slots.length : Int)))) r r r r r<|nI<|xS<|cD (c:=(decide (k5 < (f2.Slots.length : Int)))) r ?_ ?_
 ·refine sK<|xS<|sQ<|bK<|sQ<|rG<|fA r r<|lO (v:=.sl (f2.Slots.map JP)) (z:=.agg [.int .i64 f2.Params,.sl (f2.Slots.map JP),.sl (f2.Code.map JN)]) r r r r r r<|mV r r<|bD fun x_x6 hx_x6=>iS (en:=JP) r r r hx_x6 r<|fF r r<|lF (v:=.int .i64 x_x6.Size) r r r r<|fA r r<|lO (v:=.sl (f2.Slots.map JP)) (z:=.agg [.int .i64 f2.Params,.sl (f2.Slots.map JP),.sl (f2.Code.map JN)]) r r r r r r<|mV r r<|bD fun x_x7 hx_x7=>iS (en:=JP) r r r hx_x7 r<|fF r r<|lF (v:=.int .i64 x_x7.Size) r r r r<|bN (v:=.bool (x_x6.Size == x_x7.Size)) r r r r r<|Ki (by kernel_rfl)<|xS<|cD (c:=(x_x6.Size == x_x7.Size)) r ?_ ?_
  ·exact rG<|mV r r<|mV r r<|bS ([k5] : List Int) JK r r r (by simp) r r r<|cK fun hq=>aP (l4) (([k5] : List Int)) JK r r r r r r r (by simp) (Kn _ _ r) r r (by simp) (JS _ _ r) (fun _=>r) r hq<|aO (l:=l4 ++ ([k5] : List Int)) (en:=JK) r r r r<|nI<|bM<|xS<|rG<|mV r r<|bN (v:=.int .i64 (IntKind.i64.wrap (k5 + 1))) r r r r r<|aS r r<|nI<|xL (s:=(l4 ++ ([k5] : List Int),IntKind.i64.wrap (k5 + 1))) (_,_) ((hE ⟨rfl,r,r,r,r,trivial⟩ ⟨rfl,r,r,trivial⟩))
  ·exact sK<|bM<|xS<|rG<|mV r r<|bN (v:=.int .i64 (IntKind.i64.wrap (k5 + 1))) r r r r r<|aS r r<|nI<|xL (s:=(l4,IntKind.i64.wrap (k5 + 1))) (_,_) ((hE ⟨rfl,r,r,r,r,trivial⟩ ⟨rfl,r,r,trivial⟩))
 ·refine eT<|xE<|lE<|bH<|xS<|sQ<|rG<|mV r r<|mV r r<|mV r r<|lW r r<|bD fun r8 hr8=>cV (c1,(l4.length : Int)) r r r JR r r (by simp) r hr8<|cK fun hq=>iO (l:=l4) (en:=JK) r r r r r hq<|bD fun l_e9 hl_e9=>lO (v:=.int .i64 l_e9) (z:=JK l_e9) r r r (Mt hl_e9) r r<|aS r r<|nI<|xS<|rT<|KC (b:=(l_e9,r8.2)) r ?_ r r ?_ r
  all_goals first|(simp;done)|(simp;omega)|rfl|(simp [JU,JQ];done)

def Acq : Kb:=(.seq (.reg [P 2 (.asg (.c (.int .u64 0)) none)] false) (.seq (.seq (.reg [M 3 0,P 4 (.call (.c (.clo 54 [])) [(T 3),(C 6)])] false) (.block 0 (.seq (.reg [P 6 (.bin .eql (T 4) (C 0)),P 5 (.asg (T 6) none)] false) (.cond (T 5) (.seq (.reg [M 7 0,P 8 (.call (.c (.clo 54 [])) [(T 7),(C 3)]),P 9 (.cvt .u64 (T 8)),P 10 (.bin .sub (.c (.int .u64 18446744073709551615)) (T 9)),P 2 (.asg (T 10) none)] false) .ret) (.seq (.reg [P 12 (.bin .eql (T 4) (C 1)),P 11 (.asg (T 12) none)] false) (.cond (T 11) (.seq (.reg [M 13 0,P 14 (.call (.c (.clo 54 [])) [(T 13),(C 64)]),P 15 (.bin .shl (.c (.int .u64 1)) (T 14)),P 2 (.asg (T 15) none)] false) .ret) (.seq (.reg [P 17 (.bin .eql (T 4) (C 2)),P 16 (.asg (T 17) none)] false) (.cond (T 16) (.seq (.reg [P 2 (.asg (.c (.int .u64 0)) none)] false) .ret) .skip)))))))) (.seq (.reg [M 18 0,P 19 (.call (.c (.clo 54 [])) [(T 18),(C 256)]),P 20 (.cvt .u64 (T 19)),P 2 (.asg (T 20) none)] false) .ret)))
theorem AeZ : (Tryd.f111.body.bind (Kc Tryd.prog Tryd.f111.ntmps)) = some Acq:=by kernel_rfl
theorem Afa : Tryd.f111.results.toList.mapM (Kp Tryd.prog) = some [(.t 2)]:=by kernel_rfl
def Rs (a : JJ) : List D:=[Kk a]
def Rr (ds : List D) : JJ:=Lv (ds.getD 0 .top)
theorem RY (a : JJ) : Rr (Rs a) = a:=by simp [Rr,Rs]
def Wd (b : Int × JJ) : D:=.int .u64 b.1
def Wc (b : Int × JJ) : List D:=[Kk b.2]
noncomputable def Ox : Dw.Spec:=Ka [(0,(2,100))] .val Rs Rr (fun a=>MX a) Wd Wc
set_option maxHeartbeats 4000000 in
theorem Vs : JX Tryd.prog 111 Ox:=by
 refine Kl (Kg (l:=[(54,Kf)]) (by simp [KJ])) Tryd.func111 (by decide) AeZ Afa (np:=1) (by decide) RY (fun _=>r) (fun _=>r) (by decide)<|?_
 intro c1
 show TrE (specs [(54,Kf)]) Acq (Kr [(0,(2,100))] .val [(.t 2)] Wd Wc) ⟨[(0,.optr 8192 0 0 0)],[(8192,some (0,⟨false,true,2,100,[.agg [.sl (c1.list.map eU8),.int .i64 c1.at_]]⟩))],262144⟩ (MX c1)
 refine Kd<|?_
 unfold Acq MX
 refine sQ<|rG<|aS r r<|nI<|xS<|sQ<|sQ<|rG<|mV r r<|bD fun r2 hr2=>cV (c1,6) r r r JR r r (by simp) r hr2<|nI<|xS<|bK<|sQ<|rG<|bN (v:=.bool (r2.1 == 0)) r r r r r<|aS r r<|nI<|xS<|cD (c:=(r2.1 == 0)) r ?_ ?_
 ·refine sQ<|rG<|mV r r<|bD fun r3 hr3=>cV (r2.2,3) r r r JR r r (by simp) r hr3<|cT r r<|bN (v:=.int .u64 (IntKind.u64.wrap (18446744073709551615 - (IntKind.u64.wrap (r3.1))))) r r r r r<|aS r r<|nI<|xS<|rT<|bR<|xR<|KC (b:=(IntKind.u64.wrap (18446744073709551615 - (IntKind.u64.wrap (r3.1))),r3.2)) r ?_ r r ?_ r
  all_goals first|(simp;done)|(simp;omega)|rfl|(simp [JU,JQ];done)
 ·refine sQ<|rG<|bN (v:=.bool (r2.1 == 1)) r r r r r<|aS r r<|nI<|xS<|cD (c:=(r2.1 == 1)) r ?_ ?_
  ·refine sQ<|rG<|mV r r<|bD fun r4 hr4=>cV (r2.2,64) r r r JR r r (by simp) r hr4<|cK fun hq=>bN (v:=.int .u64 (IntKind.u64.wrap (1 * 2 ^ (Nat.min r4.1.toNat IntKind.u64.bits)))) r r r r hq<|aS r r<|nI<|xS<|rT<|bR<|xR<|KC (b:=(IntKind.u64.wrap (1 * 2 ^ (Nat.min r4.1.toNat IntKind.u64.bits)),r4.2)) r ?_ r r ?_ r
   all_goals first|(simp;done)|(simp;omega)|rfl|(simp [JU,JQ];done)
  ·refine sQ<|rG<|bN (v:=.bool (r2.1 == 2)) r r r r r<|aS r r<|nI<|xS<|cD (c:=(r2.1 == 2)) r ?_ ?_
   ·refine sQ<|rG<|aS r r<|nI<|xS<|rT<|bR<|xR<|KC (b:=(0,r2.2)) r ?_ r r ?_ r
    all_goals first|(simp;done)|(simp;omega)|rfl|(simp [JU,JQ];done)
   ·refine sK<|bM<|xS<|sQ<|rG<|mV r r<|bD fun r5 hr5=>cV (r2.2,256) r r r JR r r (by simp) r hr5<|cT r r<|aS r r<|nI<|xS<|rT<|KC (b:=(IntKind.u64.wrap (r5.1),r5.2)) r ?_ r r ?_ r
    all_goals first|(simp;done)|(simp;omega)|rfl|(simp [JU,JQ];done)

def Acp : Kb:=(.seq (.reg [P 5 (.box (T 1) 3 27),⟨(some 8),(.asg (.c .nils) (some ⟨5,66⟩)),none,[]⟩] false) (.seq (.reg [M 16 0,P 17 (.call (.c (.clo 54 [])) [(T 16),(C 4)]),P 9 (.asg (T 17) none)] false) (.seq (.reg [P 18 (.fldA 1 (T 5)),P 19 (.ld 1 false (T 18)),P 20 (.len false (T 19)),P 10 (.asg (T 20) none)] false) (.seq (.reg [M 21 0,P 22 (.call (.c (.clo 54 [])) [(T 21),(C 20)]),P 11 (.asg (T 22) none)] false) (.seq (.block 0 (.seq (.reg [M 24 11,P 25 (.bin .lss (T 24) (C 3)),M 26 25,⟨(some 27),(.mv (T 10)),(some ⟨26,true⟩),[]⟩,⟨(some 28),(.bin .gtr (T 27) (C 0)),(some ⟨26,true⟩),[]⟩,P 29 (.pick (T 26) (T 28) (.c (.bool false))),P 23 (.asg (T 29) none)] false) (.cond (T 23) (.seq (.reg [M 30 0,M 31 10,P 32 (.call (.c (.clo 54 [])) [(T 30),(T 31)]),M 33 9,⟨(some 34),(.bld [(.int .i64 0),(.int .i64 0),(.int .i64 0),(.int .i64 0),(.int .u64 0)] [⟨0,⟨1,(C 16)⟩⟩,⟨1,⟨1,(T 32)⟩⟩,⟨2,⟨1,(T 33)⟩⟩]),none,[]⟩,⟨(some 35),(.bldS 5 66 (.agg [(.int .i64 0),(.int .i64 0),(.int .i64 0),(.int .i64 0),(.int .u64 0)]) 1 [⟨0,(T 34)⟩]),none,[]⟩,⟨(some 8),(.asg (T 35) (some ⟨5,66⟩)),none,[]⟩] false) .ret) (.seq (.reg [M 37 11,P 38 (.bin .lss (T 37) (C 6)),M 39 38,⟨(some 40),(.mv (T 10)),(some ⟨39,true⟩),[]⟩,⟨(some 41),(.bin .gtr (T 40) (C 0)),(some ⟨39,true⟩),[]⟩,P 42 (.pick (T 39) (T 41) (.c (.bool false))),P 36 (.asg (T 42) none)] false) (.cond (T 36) (.seq (.reg [M 43 9,M 44 0,M 45 10,P 46 (.call (.c (.clo 54 [])) [(T 44),(T 45)]),⟨(some 47),(.bld [(.int .i64 0),(.int .i64 0),(.int .i64 0),(.int .i64 0),(.int .u64 0)] [⟨0,⟨1,(C 15)⟩⟩,⟨1,⟨1,(T 43)⟩⟩,⟨2,⟨1,(T 46)⟩⟩]),none,[]⟩,⟨(some 48),(.bldS 5 66 (.agg [(.int .i64 0),(.int .i64 0),(.int .i64 0),(.int .i64 0),(.int .u64 0)]) 1 [⟨0,(T 47)⟩]),none,[]⟩,⟨(some 8),(.asg (T 48) (some ⟨5,66⟩)),none,[]⟩] false) .ret) (.seq (.reg [M 50 11,P 51 (.bin .lss (T 50) (C 9)),M 52 51,⟨(some 53),(.mv (T 10)),(some ⟨52,true⟩),[]⟩,⟨(some 54),(.bin .gtr (T 53) (C 0)),(some ⟨52,true⟩),[]⟩,P 55 (.pick (T 52) (T 54) (.c (.bool false))),P 49 (.asg (T 55) none)] false) (.cond (T 49) (.seq (.reg [M 56 0,M 57 10,P 58 (.call (.c (.clo 54 [])) [(T 56),(T 57)]),P 12 (.asg (T 58) none)] false) (.seq (.reg [M 59 0,P 60 (.ld 3 true (T 5)),M 61 12,P 62 (.call (.c (.clo 122 [])) [(T 59),(T 60),(T 61)]),M 63 12,⟨(some 64),(.bld [(.int .i64 0),(.int .i64 0),(.int .i64 0),(.int .i64 0),(.int .u64 0)] [⟨0,⟨1,(C 17)⟩⟩,⟨1,⟨1,(T 62)⟩⟩,⟨2,⟨1,(T 63)⟩⟩]),none,[]⟩,⟨(some 65),(.bldS 5 66 (.agg [(.int .i64 0),(.int .i64 0),(.int .i64 0),(.int .i64 0),(.int .u64 0)]) 1 [⟨0,(T 64)⟩]),none,[]⟩,⟨(some 8),(.asg (T 65) (some ⟨5,66⟩)),none,[]⟩] false) .ret)) (.seq (.reg [M 67 11,P 68 (.bin .lss (T 67) (C 11)),P 66 (.asg (T 68) none)] false) (.cond (T 66) (.seq (.reg [M 69 9,M 70 0,P 71 (.call (.c (.clo 111 [])) [(T 70)]),⟨(some 72),(.bld [(.int .i64 0),(.int .i64 0),(.int .i64 0),(.int .i64 0),(.int .u64 0)] [⟨0,⟨1,(C 0)⟩⟩,⟨1,⟨1,(T 69)⟩⟩,⟨4,⟨1,(T 71)⟩⟩]),none,[]⟩,⟨(some 73),(.bldS 5 66 (.agg [(.int .i64 0),(.int .i64 0),(.int .i64 0),(.int .i64 0),(.int .u64 0)]) 1 [⟨0,(T 72)⟩]),none,[]⟩,⟨(some 8),(.asg (T 73) (some ⟨5,66⟩)),none,[]⟩] false) .ret) (.seq (.reg [M 75 11,P 76 (.bin .lss (T 75) (C 13)),P 74 (.asg (T 76) none)] false) (.cond (T 74) (.seq (.reg [M 77 0,P 78 (.call (.c (.clo 54 [])) [(T 77),(C 10)]),P 79 (.bin .add (C 2) (T 78)),M 80 9,M 81 0,P 82 (.call (.c (.clo 54 [])) [(T 81),(C 4)]),M 83 0,P 84 (.call (.c (.clo 54 [])) [(T 83),(C 8)]),⟨(some 85),(.bld [(.int .i64 0),(.int .i64 0),(.int .i64 0),(.int .i64 0),(.int .u64 0)] [⟨0,⟨1,(T 79)⟩⟩,⟨1,⟨1,(T 80)⟩⟩,⟨2,⟨1,(T 82)⟩⟩,⟨3,⟨1,(T 84)⟩⟩]),none,[]⟩,⟨(some 86),(.bldS 5 66 (.agg [(.int .i64 0),(.int .i64 0),(.int .i64 0),(.int .i64 0),(.int .u64 0)]) 1 [⟨0,(T 85)⟩]),none,[]⟩,⟨(some 8),(.asg (T 86) (some ⟨5,66⟩)),none,[]⟩] false) .ret) (.seq (.reg [M 88 11,P 89 (.bin .lss (T 88) (C 15)),P 87 (.asg (T 89) none)] false) (.cond (T 87) (.seq (.reg [M 90 9,⟨(some 91),(.bld [(.int .i64 0),(.int .i64 0),(.int .i64 0),(.int .i64 0),(.int .u64 0)] [⟨0,⟨1,(C 14)⟩⟩,⟨1,⟨1,(T 90)⟩⟩]),none,[]⟩,⟨(some 92),(.bldS 5 66 (.agg [(.int .i64 0),(.int .i64 0),(.int .i64 0),(.int .i64 0),(.int .u64 0)]) 1 [⟨0,(T 91)⟩]),none,[]⟩,⟨(some 8),(.asg (T 92) (some ⟨5,66⟩)),none,[]⟩] false) .ret) (.seq (.reg [M 94 11,P 95 (.bin .eql (T 94) (C 15)),P 93 (.asg (T 95) none)] false) (.cond (T 93) (.seq (.reg [⟨(some 96),(.bldS 1 3 (.int .i64 0) 3 [⟨0,(C 13)⟩,⟨1,(C 12)⟩,⟨2,(C 1)⟩]),none,[]⟩,M 97 0,P 98 (.call (.c (.clo 54 [])) [(T 97),(C 3)]),P 99 (.ixA 1 (T 96) (T 98)),P 100 (.ld 1 false (T 99)),M 101 9,⟨(some 102),(.bld [(.int .i64 0),(.int .i64 0),(.int .i64 0),(.int .i64 0),(.int .u64 0)] [⟨0,⟨1,(T 100)⟩⟩,⟨1,⟨1,(T 101)⟩⟩]),none,[]⟩,⟨(some 103),(.bldS 5 66 (.agg [(.int .i64 0),(.int .i64 0),(.int .i64 0),(.int .i64 0),(.int .u64 0)]) 1 [⟨0,(T 102)⟩]),none,[]⟩,⟨(some 8),(.asg (T 103) (some ⟨5,66⟩)),none,[]⟩] false) .ret) (.seq (.reg [M 105 11,P 106 (.bin .eql (T 105) (C 16)),M 107 106,⟨(some 108),(.fldA 0 (T 5)),(some ⟨107,true⟩),[]⟩,⟨(some 109),(.ld 1 false (T 108)),(some ⟨107,true⟩),[]⟩,⟨(some 110),(.bin .gtr (T 109) (C 0)),(some ⟨107,true⟩),[]⟩,P 111 (.pick (T 107) (T 110) (.c (.bool false))),P 104 (.asg (T 111) none)] false) (.cond (T 104) (.seq (.reg [M 112 9,M 113 0,P 114 (.fldA 0 (T 5)),P 115 (.ld 1 false (T 114)),P 116 (.call (.c (.clo 54 [])) [(T 113),(T 115)]),⟨(some 117),(.bld [(.int .i64 0),(.int .i64 0),(.int .i64 0),(.int .i64 0),(.int .u64 0)] [⟨0,⟨1,(C 19)⟩⟩,⟨1,⟨1,(T 112)⟩⟩,⟨2,⟨1,(T 116)⟩⟩]),none,[]⟩,⟨(some 118),(.bldS 5 66 (.agg [(.int .i64 0),(.int .i64 0),(.int .i64 0),(.int .i64 0),(.int .u64 0)]) 1 [⟨0,(T 117)⟩]),none,[]⟩,⟨(some 8),(.asg (T 118) (some ⟨5,66⟩)),none,[]⟩] false) .ret) (.seq (.reg [M 120 11,P 121 (.bin .geq (T 120) (C 17)),M 122 121,⟨(some 123),(.mv (T 2)),(some ⟨122,true⟩),[]⟩,⟨(some 124),(.bin .add (T 123) (C 1)),(some ⟨122,true⟩),[]⟩,⟨(some 125),(.mv (T 3)),(some ⟨122,true⟩),[]⟩,⟨(some 126),(.len false (T 125)),(some ⟨122,true⟩),[]⟩,⟨(some 127),(.bin .lss (T 124) (T 126)),(some ⟨122,true⟩),[]⟩,P 128 (.pick (T 122) (T 127) (.c (.bool false))),P 119 (.asg (T 128) none)] false) (.cond (T 119) (.seq (.reg [M 129 2,P 130 (.bin .add (T 129) (C 1)),M 131 0,M 132 3,P 133 (.len false (T 132)),M 134 2,P 135 (.bin .sub (T 133) (T 134)),P 136 (.bin .sub (T 135) (C 1)),P 137 (.call (.c (.clo 54 [])) [(T 131),(T 136)]),P 138 (.bin .add (T 130) (T 137)),P 13 (.asg (T 138) none)] false) (.seq (.reg [⟨(some 14),(.asg (.c .nils) (some ⟨5,66⟩)),none,[]⟩] false) (.seq (.seq (.reg [P 15 (.asg (C 0) none)] false) (.block 1 (.loop (.seq (.seq (.reg [M 139 15,M 140 3,M 141 13,P 142 (.ixA 1 (T 140) (T 141)),P 143 (.ld 1 false (T 142)),P 144 (.bin .lss (T 139) (T 143))] false) (.cond (T 144) .skip (.exit 1))) (.seq (.block 2 (.seq (.reg [M 147 0,P 148 (.call (.c (.clo 54 [])) [(T 147),(C 8)]),P 149 (.bin .lss (T 148) (C 7))] false) (.cond (T 149) (.reg [M 150 14,M 151 15,M 152 0,P 153 (.call (.c (.clo 54 [])) [(T 152),(C 4)]),⟨(some 154),(.bld [(.int .i64 0),(.int .i64 0),(.int .i64 0),(.int .i64 0),(.int .u64 0)] [⟨0,⟨1,(C 18)⟩⟩,⟨1,⟨1,(T 151)⟩⟩,⟨2,⟨1,(T 153)⟩⟩]),none,[]⟩,⟨(some 155),(.bldS 5 66 (.agg [(.int .i64 0),(.int .i64 0),(.int .i64 0),(.int .i64 0),(.int .u64 0)]) 1 [⟨0,(T 154)⟩]),none,[]⟩,P 156 (.app 5 66 40 (T 150) (T 155)),⟨(some 14),(.asg (T 156) (some ⟨5,66⟩)),none,[]⟩] false) .skip))) (.reg [M 145 15,P 146 (.bin .add (T 145) (C 1)),P 15 (.asg (T 146) none)] false)))))) (.seq (.reg [M 157 14,M 158 13,⟨(some 159),(.bld [(.int .i64 0),(.int .i64 0),(.int .i64 0),(.int .i64 0),(.int .u64 0)] [⟨0,⟨1,(C 22)⟩⟩,⟨1,⟨1,(T 158)⟩⟩]),none,[]⟩,⟨(some 160),(.bldS 5 66 (.agg [(.int .i64 0),(.int .i64 0),(.int .i64 0),(.int .i64 0),(.int .u64 0)]) 1 [⟨0,(T 159)⟩]),none,[]⟩,P 161 (.app 5 66 40 (T 157) (T 160)),⟨(some 8),(.asg (T 161) (some ⟨5,66⟩)),none,[]⟩] false) .ret)))) .skip))))))))))))))))))) (.seq (.reg [M 162 9,⟨(some 163),(.bld [(.int .i64 0),(.int .i64 0),(.int .i64 0),(.int .i64 0),(.int .u64 0)] [⟨0,⟨1,(C 14)⟩⟩,⟨1,⟨1,(T 162)⟩⟩]),none,[]⟩,⟨(some 164),(.bldS 5 66 (.agg [(.int .i64 0),(.int .i64 0),(.int .i64 0),(.int .i64 0),(.int .u64 0)]) 1 [⟨0,(T 163)⟩]),none,[]⟩,⟨(some 8),(.asg (T 164) (some ⟨5,66⟩)),none,[]⟩] false) .ret))))))
theorem AeX : (Tryd.f110.body.bind (Kc Tryd.prog Tryd.f110.ntmps)) = some Acp:=by kernel_rfl
theorem AeY : Tryd.f110.results.toList.mapM (Kp Tryd.prog) = some [(.t 8)]:=by kernel_rfl
def OY (a : JJ × JO × Int × (List Int)) : List D:=[Kk a.1,Kv a.2.1,.int .i64 a.2.2.1,.sl (a.2.2.2.map JK)]
def Rt (ds : List D) : JJ × JO × Int × (List Int):=(Lv (ds.getD 0 .top),MP (ds.getD 1 .top),uI (ds.getD 2 .top),(uL uI) (ds.getD 3 .top))
theorem Vt (a : JJ × JO × Int × (List Int)) : Rt (OY a) = a:=by simp [Rt,OY,uI,LH (u:=uI) (en:=JK) (fun _=>rfl)]
def Wf (b : (List JL) × JJ) : D:=.sl (b.1.map JN)
def We (b : (List JL) × JJ) : List D:=[Kk b.2]
noncomputable def SQ : Dw.Spec:=Ka [(0,(2,100))] (.row 5 66) OY Rt (fun a=>Od a.1 a.2.1 a.2.2.1 a.2.2.2) Wf We
set_option maxHeartbeats 4000000 in
theorem Zb : JX Tryd.prog 110 SQ:=by
 refine Kl (Kg (l:=[(54,Kf),(122,SR),(111,Ox)]) (by simp [KJ,Zc,Vs])) Tryd.func110 (by decide) AeX AeY (np:=4) (by decide) Vt (fun _=>r) (fun _=>r) (by decide)<|?_
 rintro ⟨c1,f2,i3,params4⟩
 show TrE (specs [(54,Kf),(122,SR),(111,Ox)]) Acp (Kr [(0,(2,100))] (.row 5 66) [(.t 8)] Wf We) ⟨[(0,.optr 8192 0 0 0),(1,.agg [.int .i64 f2.Params,.sl (f2.Slots.map JP),.sl (f2.Code.map JN)]),(2,.int .i64 i3),(3,.sl (params4.map JK))],[(8192,some (0,⟨false,true,2,100,[.agg [.sl (c1.list.map eU8),.int .i64 c1.at_]]⟩))],262144⟩ (Od c1 f2 i3 params4)
 refine Kd<|?_
 unfold Acp Od
 refine sQ<|rG<|bX r r r r r<|aN (α:=JL) r JN r<|nI<|xS<|sQ<|rG<|mV r r<|bD fun r5 hr5=>cV (c1,4) r r r JR r r (by simp) r hr5<|aS r r<|nI<|xS<|sQ<|rG<|fA r r<|lO (v:=.sl (f2.Slots.map JP)) (z:=.agg [.int .i64 f2.Params,.sl (f2.Slots.map JP),.sl (f2.Code.map JN)]) r r r r r r<|lS r r<|aS r r<|nI<|xS<|sQ<|rG<|mV r r<|bD fun r6 hr6=>cV (r5.2,20) r r r JR r r (by simp) r hr6<|aS r r<|nI<|xS<|bC (E:=fun (s : Unit) (g : Unit)=>[(9,.int .i64 r5.1)]) (O:=fun s g=>[(8192,some (0,⟨false,true,2,100,[.agg [.sl (r6.2.list.map eU8),.int .i64 r6.2.at_]]⟩))]) (j:=fun s=>RZ r5 r6) ?_ ?_
 ·refine sC (E:=fun (s : Bool) (g : Nat)=>[(0,.optr 8192 0 0 0),(2,.int .i64 i3),(3,.sl (params4.map JK)),(5,.optr 5 g 0 0),(9,.int .i64 r5.1),(10,.int .i64 (f2.Slots.length : Int)),(11,.int .i64 r6.1),(23,.bool s)]) (O:=fun s g=>[(5,some (g,⟨false,true,3,27,[.agg [.int .i64 f2.Params,.sl (f2.Slots.map JP),.sl (f2.Code.map JN)]]⟩)),(8192,some (0,⟨false,true,2,100,[.agg [.sl (r6.2.list.map eU8),.int .i64 r6.2.at_]]⟩))]) (j:=fun s=>MI r6 f2 r5 params4 i3 s) ?_ ?_
  ·refine rG<|mV r r<|bN (v:=.bool (decide (r6.1 < 3))) r r r r r<|mV r r<|sP 26 (b:=(decide (r6.1 < 3))) r ?_ ?_
   ·exact mV r r<|bN (v:=.bool (decide ((f2.Slots.length : Int) > 0))) r r r r r<|pT r r r r<|aS r r<|nI<|xC (s:=(decide ((f2.Slots.length : Int) > 0))) _ ((hE ⟨rfl,r,r,r,r,r,r,r,trivial⟩ ⟨rfl,r,trivial⟩))
   ·exact oF r<|oF r<|pF r r r r<|aS r r<|nI<|xC (s:=false) _ ((hE ⟨rfl,r,r,r,r,r,r,r,trivial⟩ ⟨rfl,r,trivial⟩))
  ·rintro x7 v5x1 nn
   try dsimp only
   unfold MI
   refine cD (c:=x7) r ?_ ?_
   ·refine sQ<|rG<|mV r r<|mV r r<|bD fun r8 hr8=>cV (r6.2,(f2.Slots.length : Int)) r r r JR r r (by simp) r hr8<|mV r r<|bL (cs:=[.int .i64 16,.int .i64 r8.1,.int .i64 r5.1,.int .i64 0,.int .u64 0]) (ps:=[(0,1,.int .i64 16),(1,1,.int .i64 r8.1),(2,1,.int .i64 r5.1)]) r r r r<|bS ([(JL.mk 16 r8.1 r5.1 0 0)] : List JL) JN r r r (by simp) r r r<|aO (l:=([(JL.mk 16 r8.1 r5.1 0 0)] : List JL)) (en:=JN) r r r r<|nI<|xS<|rT<|yR<|Ku (b:=(([(JL.mk 16 r8.1 r5.1 0 0)] : List JL),r8.2)) r ?_ r r ?_ r ?_ (congrArg D.sl (JS _ _ r)) r
    all_goals first|(simp;done)|(simp;omega)|rfl|(simp [JU,JQ];done)
   ·refine sC (E:=fun (s : Bool) (g : Nat)=>[(0,.optr 8192 0 0 0),(2,.int .i64 i3),(3,.sl (params4.map JK)),(5,.optr 5 g 0 0),(9,.int .i64 r5.1),(10,.int .i64 (f2.Slots.length : Int)),(11,.int .i64 r6.1),(36,.bool s)]) (O:=fun s g=>[(5,some (g,⟨false,true,3,27,[.agg [.int .i64 f2.Params,.sl (f2.Slots.map JP),.sl (f2.Code.map JN)]]⟩)),(8192,some (0,⟨false,true,2,100,[.agg [.sl (r6.2.list.map eU8),.int .i64 r6.2.at_]]⟩))]) (j:=fun s=>MJ r6 f2 r5 params4 i3 s) ?_ ?_
    ·refine rG<|mV r r<|bN (v:=.bool (decide (r6.1 < 6))) r r r r r<|mV r r<|sP 39 (b:=(decide (r6.1 < 6))) r ?_ ?_
     ·exact mV r r<|bN (v:=.bool (decide ((f2.Slots.length : Int) > 0))) r r r r r<|pT r r r r<|aS r r<|nI<|xC (s:=(decide ((f2.Slots.length : Int) > 0))) _ ((hE ⟨rfl,r,r,r,r,r,r,r,trivial⟩ ⟨rfl,r,trivial⟩))
     ·exact oF r<|oF r<|pF r r r r<|aS r r<|nI<|xC (s:=false) _ ((hE ⟨rfl,r,r,r,r,r,r,r,trivial⟩ ⟨rfl,r,trivial⟩))
    ·rintro x9 v5x2 nn
     try dsimp only
     unfold MJ
     refine cD (c:=x9) r ?_ ?_
     ·refine sQ<|rG<|mV r r<|mV r r<|mV r r<|bD fun r10 hr10=>cV (r6.2,(f2.Slots.length : Int)) r r r JR r r (by simp) r hr10<|bL (cs:=[.int .i64 15,.int .i64 r5.1,.int .i64 r10.1,.int .i64 0,.int .u64 0]) (ps:=[(0,1,.int .i64 15),(1,1,.int .i64 r5.1),(2,1,.int .i64 r10.1)]) r r r r<|bS ([(JL.mk 15 r5.1 r10.1 0 0)] : List JL) JN r r r (by simp) r r r<|aO (l:=([(JL.mk 15 r5.1 r10.1 0 0)] : List JL)) (en:=JN) r r r r<|nI<|xS<|rT<|yR<|Ku (b:=(([(JL.mk 15 r5.1 r10.1 0 0)] : List JL),r10.2)) r ?_ r r ?_ r ?_ (congrArg D.sl (JS _ _ r)) r
      all_goals first|(simp;done)|(simp;omega)|rfl|(simp [JU,JQ];done)
     ·refine sC (E:=fun (s : Bool) (g : Nat)=>[(0,.optr 8192 0 0 0),(2,.int .i64 i3),(3,.sl (params4.map JK)),(5,.optr 5 g 0 0),(9,.int .i64 r5.1),(10,.int .i64 (f2.Slots.length : Int)),(11,.int .i64 r6.1),(49,.bool s)]) (O:=fun s g=>[(5,some (g,⟨false,true,3,27,[.agg [.int .i64 f2.Params,.sl (f2.Slots.map JP),.sl (f2.Code.map JN)]]⟩)),(8192,some (0,⟨false,true,2,100,[.agg [.sl (r6.2.list.map eU8),.int .i64 r6.2.at_]]⟩))]) (j:=fun s=>MK r6 f2 r5 params4 i3 s) ?_ ?_
      ·refine rG<|mV r r<|bN (v:=.bool (decide (r6.1 < 9))) r r r r r<|mV r r<|sP 52 (b:=(decide (r6.1 < 9))) r ?_ ?_
       ·exact mV r r<|bN (v:=.bool (decide ((f2.Slots.length : Int) > 0))) r r r r r<|pT r r r r<|aS r r<|nI<|xC (s:=(decide ((f2.Slots.length : Int) > 0))) _ ((hE ⟨rfl,r,r,r,r,r,r,r,trivial⟩ ⟨rfl,r,trivial⟩))
       ·exact oF r<|oF r<|pF r r r r<|aS r r<|nI<|xC (s:=false) _ ((hE ⟨rfl,r,r,r,r,r,r,r,trivial⟩ ⟨rfl,r,trivial⟩))
      ·rintro x11 v5x3 nn
       try dsimp only
       unfold MK
       refine cD (c:=x11) r ?_ ?_
       ·refine sQ<|rG<|mV r r<|mV r r<|bD fun r12 hr12=>cV (r6.2,(f2.Slots.length : Int)) r r r JR r r (by simp) r hr12<|aS r r<|nI<|xS<|sQ<|rG<|mV r r<|lO (v:=.agg [.int .i64 f2.Params,.sl (f2.Slots.map JP),.sl (f2.Code.map JN)]) (z:=.agg [.int .i64 f2.Params,.sl (f2.Slots.map JP),.sl (f2.Code.map JN)]) r r r r r r<|mV r r<|bD fun r13 hr13=>cV (r12.2,f2,r12.1) r r r Vu r r (by simp) r hr13<|mV r r<|bL (cs:=[.int .i64 17,.int .i64 r13.1,.int .i64 r12.1,.int .i64 0,.int .u64 0]) (ps:=[(0,1,.int .i64 17),(1,1,.int .i64 r13.1),(2,1,.int .i64 r12.1)]) r r r r<|bS ([(JL.mk 17 r13.1 r12.1 0 0)] : List JL) JN r r r (by simp) r r r<|aO (l:=([(JL.mk 17 r13.1 r12.1 0 0)] : List JL)) (en:=JN) r r r r<|nI<|xS<|rT<|yR<|Ku (b:=(([(JL.mk 17 r13.1 r12.1 0 0)] : List JL),r13.2)) r ?_ r r ?_ r ?_ (congrArg D.sl (JS _ _ r)) r
        all_goals first|(simp;done)|(simp;omega)|rfl|(simp [JU,JQ];done)
       ·refine sQ<|rG<|mV r r<|bN (v:=.bool (decide (r6.1 < 11))) r r r r r<|aS r r<|nI<|xS<|cD (c:=(decide (r6.1 < 11))) r ?_ ?_
        ·refine sQ<|rG<|mV r r<|mV r r<|bD fun r14 hr14=>cV r6.2 r r r RY r r (by simp) r hr14<|bL (cs:=[.int .i64 0,.int .i64 r5.1,.int .i64 0,.int .i64 0,.int .u64 r14.1]) (ps:=[(0,1,.int .i64 0),(1,1,.int .i64 r5.1),(4,1,.int .u64 r14.1)]) r r r r<|bS ([(JL.mk 0 r5.1 0 0 r14.1)] : List JL) JN r r r (by simp) r r r<|aO (l:=([(JL.mk 0 r5.1 0 0 r14.1)] : List JL)) (en:=JN) r r r r<|nI<|xS<|rT<|yR<|Ku (b:=(([(JL.mk 0 r5.1 0 0 r14.1)] : List JL),r14.2)) r ?_ r r ?_ r ?_ (congrArg D.sl (JS _ _ r)) r
         all_goals first|(simp;done)|(simp;omega)|rfl|(simp [JU,JQ];done)
        ·refine sQ<|rG<|mV r r<|bN (v:=.bool (decide (r6.1 < 13))) r r r r r<|aS r r<|nI<|xS<|cD (c:=(decide (r6.1 < 13))) r ?_ ?_
         ·refine sQ<|rG<|mV r r<|bD fun r15 hr15=>cV (r6.2,10) r r r JR r r (by simp) r hr15<|bN (v:=.int .i64 (IntKind.i64.wrap (2 + r15.1))) r r r r r<|mV r r<|mV r r<|bD fun r16 hr16=>cV (r15.2,4) r r r JR r r (by simp) r hr16<|mV r r<|bD fun r17 hr17=>cV (r16.2,8) r r r JR r r (by simp) r hr17<|bL (cs:=[.int .i64 (IntKind.i64.wrap (2 + r15.1)),.int .i64 r5.1,.int .i64 r16.1,.int .i64 r17.1,.int .u64 0]) (ps:=[(0,1,.int .i64 (IntKind.i64.wrap (2 + r15.1))),(1,1,.int .i64 r5.1),(2,1,.int .i64 r16.1),(3,1,.int .i64 r17.1)]) r r r r<|bS ([(JL.mk (IntKind.i64.wrap (2 + r15.1)) r5.1 r16.1 r17.1 0)] : List JL) JN r r r (by simp) r r r<|aO (l:=([(JL.mk (IntKind.i64.wrap (2 + r15.1)) r5.1 r16.1 r17.1 0)] : List JL)) (en:=JN) r r r r<|nI<|xS<|rT<|yR<|Ku (b:=(([(JL.mk (IntKind.i64.wrap (2 + r15.1)) r5.1 r16.1 r17.1 0)] : List JL),r17.2)) r ?_ r r ?_ r ?_ (congrArg D.sl (JS _ _ r)) r
          all_goals first|(simp;done)|(simp;omega)|rfl|(simp [JU,JQ];done)
         ·refine sQ<|rG<|mV r r<|bN (v:=.bool (decide (r6.1 < 15))) r r r r r<|aS r r<|nI<|xS<|cD (c:=(decide (r6.1 < 15))) r ?_ ?_
          ·refine sQ<|rG<|mV r r<|bL (cs:=[.int .i64 14,.int .i64 r5.1,.int .i64 0,.int .i64 0,.int .u64 0]) (ps:=[(0,1,.int .i64 14),(1,1,.int .i64 r5.1)]) r r r r<|bS ([(JL.mk 14 r5.1 0 0 0)] : List JL) JN r r r (by simp) r r r<|aO (l:=([(JL.mk 14 r5.1 0 0 0)] : List JL)) (en:=JN) r r r r<|nI<|xS<|rT<|yR<|Ku (b:=(([(JL.mk 14 r5.1 0 0 0)] : List JL),r6.2)) r ?_ r r ?_ r ?_ (congrArg D.sl (JS _ _ r)) r
           all_goals first|(simp;done)|(simp;omega)|rfl|(simp [JU,JQ];done)
          ·refine sQ<|rG<|mV r r<|bN (v:=.bool (r6.1 == 15)) r r r r r<|aS r r<|nI<|xS<|cD (c:=(r6.1 == 15)) r ?_ ?_
           ·refine sQ<|rG<|bS ([13,12,1] : List Int) JK r r r (by simp) r r r<|mV r r<|bD fun r18 hr18=>cV (r6.2,3) r r r JR r r (by simp) r hr18<|cK fun hq=>iO (l:=([13,12,1] : List Int)) (en:=JK) r r r r r hq<|bD fun x_e19 hx_e19=>lO (v:=.int .i64 x_e19) (z:=JK x_e19) r r r (Mt hx_e19) r r<|mV r r<|bL (cs:=[.int .i64 x_e19,.int .i64 r5.1,.int .i64 0,.int .i64 0,.int .u64 0]) (ps:=[(0,1,.int .i64 x_e19),(1,1,.int .i64 r5.1)]) r r r r<|bS ([(JL.mk x_e19 r5.1 0 0 0)] : List JL) JN r r r (by simp) r r r<|aO (l:=([(JL.mk x_e19 r5.1 0 0 0)] : List JL)) (en:=JN) r r r r<|nI<|xS<|rT<|yR<|Ku (b:=(([(JL.mk x_e19 r5.1 0 0 0)] : List JL),r18.2)) r ?_ r r ?_ r ?_ (congrArg D.sl (JS _ _ r)) r
            all_goals first|(simp;done)|(simp;omega)|rfl|(simp [JU,JQ];done)
           ·refine sC (E:=fun (s : Bool) (g : Nat)=>[(0,.optr 8192 0 0 0),(2,.int .i64 i3),(3,.sl (params4.map JK)),(5,.optr 5 g 0 0),(9,.int .i64 r5.1),(11,.int .i64 r6.1),(104,.bool s)]) (O:=fun s g=>[(5,some (g,⟨false,true,3,27,[.agg [.int .i64 f2.Params,.sl (f2.Slots.map JP),.sl (f2.Code.map JN)]]⟩)),(8192,some (0,⟨false,true,2,100,[.agg [.sl (r6.2.list.map eU8),.int .i64 r6.2.at_]]⟩))]) (j:=fun s=>ML r6 f2 r5 params4 i3 s) ?_ ?_
            ·refine rG<|mV r r<|bN (v:=.bool (r6.1 == 16)) r r r r r<|mV r r<|sP 107 (b:=(r6.1 == 16)) r ?_ ?_
             ·exact fA r r<|lO (v:=.int .i64 f2.Params) (z:=.agg [.int .i64 f2.Params,.sl (f2.Slots.map JP),.sl (f2.Code.map JN)]) r r r r r r<|bN (v:=.bool (decide (f2.Params > 0))) r r r r r<|pT r r r r<|aS r r<|nI<|xC (s:=(decide (f2.Params > 0))) _ ((hE ⟨rfl,r,r,r,r,r,r,trivial⟩ ⟨rfl,r,trivial⟩))
             ·exact oF r<|oF r<|oF r<|pF r r r r<|aS r r<|nI<|xC (s:=false) _ ((hE ⟨rfl,r,r,r,r,r,r,trivial⟩ ⟨rfl,r,trivial⟩))
            ·rintro x20 v5x4 nn
             try dsimp only
             unfold ML
             refine cD (c:=x20) r ?_ ?_
             ·refine sQ<|rG<|mV r r<|mV r r<|fA r r<|lO (v:=.int .i64 f2.Params) (z:=.agg [.int .i64 f2.Params,.sl (f2.Slots.map JP),.sl (f2.Code.map JN)]) r r r r r r<|bD fun r21 hr21=>cV (r6.2,f2.Params) r r r JR r r (by simp) r hr21<|bL (cs:=[.int .i64 19,.int .i64 r5.1,.int .i64 r21.1,.int .i64 0,.int .u64 0]) (ps:=[(0,1,.int .i64 19),(1,1,.int .i64 r5.1),(2,1,.int .i64 r21.1)]) r r r r<|bS ([(JL.mk 19 r5.1 r21.1 0 0)] : List JL) JN r r r (by simp) r r r<|aO (l:=([(JL.mk 19 r5.1 r21.1 0 0)] : List JL)) (en:=JN) r r r r<|nI<|xS<|rT<|yR<|Ku (b:=(([(JL.mk 19 r5.1 r21.1 0 0)] : List JL),r21.2)) r ?_ r r ?_ r ?_ (congrArg D.sl (JS _ _ r)) r
              all_goals first|(simp;done)|(simp;omega)|rfl|(simp [JU,JQ];done)
             ·refine sC (E:=fun (s : Bool) (g : Unit)=>[(0,.optr 8192 0 0 0),(2,.int .i64 i3),(3,.sl (params4.map JK)),(9,.int .i64 r5.1),(119,.bool s)]) (O:=fun s g=>[(8192,some (0,⟨false,true,2,100,[.agg [.sl (r6.2.list.map eU8),.int .i64 r6.2.at_]]⟩))]) (j:=fun s=>MM r6 params4 i3 r5 s) ?_ ?_
              ·refine rG<|mV r r<|bN (v:=.bool (decide (r6.1 ≥ 17))) r r r r r<|mV r r<|sP 122 (b:=(decide (r6.1 ≥ 17))) r ?_ ?_
               ·exact mV r r<|bN (v:=.int .i64 (IntKind.i64.wrap (i3 + 1))) r r r r r<|mV r r<|lS r r<|bN (v:=.bool (decide ((IntKind.i64.wrap (i3 + 1)) < (params4.length : Int)))) r r r r r<|pT r r r r<|aS r r<|nI<|xC (s:=(decide ((IntKind.i64.wrap (i3 + 1)) < (params4.length : Int)))) () ((hE ⟨rfl,r,r,r,r,trivial⟩ ⟨rfl,trivial⟩))
               ·exact oF r<|oF r<|oF r<|oF r<|oF r<|pF r r r r<|aS r r<|nI<|xC (s:=false) () ((hE ⟨rfl,r,r,r,r,trivial⟩ ⟨rfl,trivial⟩))
              ·rintro x22 ⟨⟩ nn
               try dsimp only
               unfold MM
               refine cD (c:=x22) r ?_ ?_
               ·refine sQ<|rG<|mV r r<|bN (v:=.int .i64 (IntKind.i64.wrap (i3 + 1))) r r r r r<|mV r r<|mV r r<|lS r r<|mV r r<|bN (v:=.int .i64 (IntKind.i64.wrap ((params4.length : Int) - i3))) r r r r r<|bN (v:=.int .i64 (IntKind.i64.wrap ((IntKind.i64.wrap ((params4.length : Int) - i3)) - 1))) r r r r r<|bD fun r23 hr23=>cV (r6.2,IntKind.i64.wrap ((IntKind.i64.wrap ((params4.length : Int) - i3)) - 1)) r r r JR r r (by simp) r hr23<|bN (v:=.int .i64 (IntKind.i64.wrap ((IntKind.i64.wrap (i3 + 1)) + r23.1))) r r r r r<|aS r r<|nI<|xS<|sQ<|rG<|aN (α:=JL) r JN r<|nI<|xS<|sQ<|sQ<|rG<|aS r r<|nI<|xS<|bK<|lP (E:=fun (s : (List Int) × Int × (List JL) × Int) (g : Nat)=>[(0,.optr 8192 0 0 0),(3,.sl (params4.map JK)),(13,.int .i64 (IntKind.i64.wrap ((IntKind.i64.wrap (i3 + 1)) + r23.1))),(14,.osl 14 g 0 s.2.2.1.length),(15,.int .i64 s.2.2.2)]) (O:=fun s g=>[(14,some (g,⟨false,false,5,66,s.2.2.1.map JN⟩)),(8192,some (0,⟨false,true,2,100,[.agg [.sl (s.1.map eU8),.int .i64 s.2.1]]⟩))]) (body:=fun s=>Py params4 i3 r23 s.1 s.2.1 s.2.2.1 s.2.2.2) (s:=(r23.2.list,r23.2.at_,([] : List JL),0)) _ ((hE ⟨rfl,r,r,r,r,trivial⟩ ⟨rfl,r,trivial⟩))<|?_
                rintro ⟨c24,c25,out26,a27⟩ v14x6 nn
                try dsimp only
                unfold Py
                refine sQ<|sQ<|rG<|mV r r<|mV r r<|mV r r<|bD fun x_x28 hx_x28=>iS (en:=JK) r r r hx_x28 r<|lF (v:=.int .i64 x_x28) r r r r<|bN (v:=.bool (decide (a27 < x_x28))) r r r r r<|nI<|xS<|cD (c:=(decide (a27 < x_x28))) r ?_ ?_
                ·refine sK<|xS<|sQ<|bK<|sQ<|rG<|mV r r<|bD fun r29 hr29=>cV ((JJ.mk c24 c25),8) r r r JR r r (by simp) r hr29<|bN (v:=.bool (decide (r29.1 < 7))) r r r r r<|nI<|xS<|cD (c:=(decide (r29.1 < 7))) r ?_ ?_
                 ·exact rG<|mV r r<|mV r r<|mV r r<|bD fun r30 hr30=>cV (r29.2,4) r r r JR r r (by simp) r hr30<|bL (cs:=[.int .i64 18,.int .i64 a27,.int .i64 r30.1,.int .i64 0,.int .u64 0]) (ps:=[(0,1,.int .i64 18),(1,1,.int .i64 a27),(2,1,.int .i64 r30.1)]) r r r r<|bS ([(JL.mk 18 a27 r30.1 0 0)] : List JL) JN r r r (by simp) r r r<|cK fun hq=>aP (out26) (([(JL.mk 18 a27 r30.1 0 0)] : List JL)) JN r r r r r r r (by simp) (Kn _ _ r) r r (by simp) (JS _ _ r) (fun _=>r) r hq<|aO (l:=out26 ++ ([(JL.mk 18 a27 r30.1 0 0)] : List JL)) (en:=JN) r r r r<|nI<|bM<|xS<|rG<|mV r r<|bN (v:=.int .i64 (IntKind.i64.wrap (a27 + 1))) r r r r r<|aS r r<|nI<|xL (s:=(r30.2.list,r30.2.at_,out26 ++ ([(JL.mk 18 a27 r30.1 0 0)] : List JL),IntKind.i64.wrap (a27 + 1))) _ ((hE ⟨rfl,r,r,r,r,trivial⟩ ⟨rfl,r,trivial⟩))
                 ·exact sK<|bM<|xS<|rG<|mV r r<|bN (v:=.int .i64 (IntKind.i64.wrap (a27 + 1))) r r r r r<|aS r r<|nI<|xL (s:=(r29.2.list,r29.2.at_,out26,IntKind.i64.wrap (a27 + 1))) _ ((hE ⟨rfl,r,r,r,r,trivial⟩ ⟨rfl,r,trivial⟩))
                ·refine eT<|xE<|lE<|bH<|xS<|sQ<|rG<|mV r r<|mV r r<|bL (cs:=[.int .i64 22,.int .i64 (IntKind.i64.wrap ((IntKind.i64.wrap (i3 + 1)) + r23.1)),.int .i64 0,.int .i64 0,.int .u64 0]) (ps:=[(0,1,.int .i64 22),(1,1,.int .i64 (IntKind.i64.wrap ((IntKind.i64.wrap (i3 + 1)) + r23.1)))]) r r r r<|bS ([(JL.mk 22 (IntKind.i64.wrap ((IntKind.i64.wrap (i3 + 1)) + r23.1)) 0 0 0)] : List JL) JN r r r (by simp) r r r<|cK fun hq=>aP (out26) (([(JL.mk 22 (IntKind.i64.wrap ((IntKind.i64.wrap (i3 + 1)) + r23.1)) 0 0 0)] : List JL)) JN r r r r r r r (by simp) (Kn _ _ r) r r (by simp) (JS _ _ r) (fun _=>r) r hq<|aO (l:=out26 ++ ([(JL.mk 22 (IntKind.i64.wrap ((IntKind.i64.wrap (i3 + 1)) + r23.1)) 0 0 0)] : List JL)) (en:=JN) r r r r<|nI<|xS<|rT<|yR<|Ku (b:=(out26 ++ ([(JL.mk 22 (IntKind.i64.wrap ((IntKind.i64.wrap (i3 + 1)) + r23.1)) 0 0 0)] : List JL),(JJ.mk c24 c25))) r ?_ r r ?_ r ?_ (congrArg D.sl (JS _ _ r)) r
                 all_goals first|(simp;done)|(simp;omega)|rfl|(simp [JU,JQ];done)
               ·exact sK<|Ng (s:=()) () ((hE ⟨rfl,trivial⟩ ⟨rfl,trivial⟩))
 ·rintro ⟨⟩ ⟨⟩ nn
  try dsimp only
  unfold RZ
  refine sQ<|rG<|mV r r<|bL (cs:=[.int .i64 14,.int .i64 r5.1,.int .i64 0,.int .i64 0,.int .u64 0]) (ps:=[(0,1,.int .i64 14),(1,1,.int .i64 r5.1)]) r r r r<|bS ([(JL.mk 14 r5.1 0 0 0)] : List JL) JN r r r (by simp) r r r<|aO (l:=([(JL.mk 14 r5.1 0 0 0)] : List JL)) (en:=JN) r r r r<|nI<|xS<|rT<|Ku (b:=(([(JL.mk 14 r5.1 0 0 0)] : List JL),r6.2)) r ?_ r r ?_ r ?_ (congrArg D.sl (JS _ _ r)) r
  all_goals first|(simp;done)|(simp;omega)|rfl|(simp [JU,JQ];done)

end Go.Proofs.YtcelninhkmhjkaaDoor
