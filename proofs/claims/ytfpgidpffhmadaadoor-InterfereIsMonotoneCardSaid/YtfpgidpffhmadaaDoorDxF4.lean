/-
  Programs on typed data, and the proofs that the code does what they say; written by a program (dx.py).
-/
import Derived.Test.YtfpgidpffhmadaaDoorProg
import Derived.Test.YtfpgidpffhmadaaDoorDc
import Derived.KernelRfl
import Derived.Test.YtfpgidpffhmadaaDoorSh
import Derived.Test.YtfpgidpffhmadaaDoorDxP
import Derived.Test.YtfpgidpffhmadaaDoorDxF3
namespace Go.Proofs.YtfpgidpffhmadaaDoor
open Go Go.Dw Go.Proofs
set_option maxRecDepth 100000
open Go.Dw renaming Yj → mV,VN → bN,Pu → lO,TV → bD,XC → cK,VQ → nI,VT → xS,Yl → rG,Yn → sQ,Rj → aO,VM → aS,VR → oF,Zl → bL,VO → bS,OE → cV,MG → cG,Qo → cR,Zk → aP,Pv → sV,QP → iS,QS → lS,TW → fA,ZC → fF,Zm → eX,AaC → nC,Sy → lF,Sz → sP,Ob → pT,Nl → pF,Yk → uN,AbP → cT,VP → nW,XB → bX,Ri → aN,Xx → aL,VU → cD,TY → bK,Ym → rT,VY → sK,VV → eT,VS → xC,TX → xL,PK → xR,Wa → zR,Qq → lR,Sh → hE,Oc → lE,OG → bH,Nm → bM,PJ → bR,OH → xE,Yh → cP,VW → lP,QT → sC,AdC → mF,rf → r
def AeU : Jt:=(.seq (.reg [P 2 (.asg (.c (.bool false)) none)] false) (.seq (.seq (.reg [M 5 0,P 6 (.len false (T 5)),P 7 (.mv (C 0))] false) (.block 0 (.loop (.seq (.reg [P 8 (.bin .lss (T 7) (T 6))] false) (.seq (.cond (T 8) .skip (.exit 0)) (.seq (.block 1 (.seq (.reg [M 9 7,P 10 (.ixA 1 (T 5) (T 7)),P 11 (.ld 1 false (T 10)),P 3 (.asg (T 9) none),P 4 (.asg (T 11) none)] false) (.seq (.reg [M 12 4,P 13 (.call (.c (.clo 58 [])) [(T 12)]),P 14 (.un .not (T 13)),M 15 14,⟨(some 16),(.mv (T 3)),(some ⟨15,false⟩),[]⟩,⟨(some 17),(.bin .gtr (T 16) (C 0)),(some ⟨15,false⟩),[]⟩,⟨(some 18),(.mv (T 17)),(some ⟨15,false⟩),[]⟩,⟨(some 19),(.mv (T 4)),(some ⟨18,true⟩),[]⟩,⟨(some 20),(.mv (T 0)),(some ⟨18,true⟩),[]⟩,⟨(some 21),(.mv (T 3)),(some ⟨18,true⟩),[]⟩,⟨(some 22),(.bin .sub (T 21) (C 1)),(some ⟨18,true⟩),[]⟩,⟨(some 23),(.ixA 1 (T 20) (T 22)),(some ⟨18,true⟩),[]⟩,⟨(some 24),(.ld 1 false (T 23)),(some ⟨18,true⟩),[]⟩,⟨(some 25),(.bin .leq (T 19) (T 24)),(some ⟨18,true⟩),[]⟩,⟨(some 26),(.pick (T 18) (T 25) (.c (.bool false))),(some ⟨15,false⟩),[]⟩,P 27 (.pick (T 15) (.c (.bool true)) (T 26))] false) (.cond (T 27) (.seq (.reg [P 2 (.asg (.c (.bool false)) none)] false) .ret) .skip)))) (.reg [P 28 (.bin .add (T 7) (C 1)),M 7 28] false))))))) (.seq (.reg [P 2 (.asg (.c (.bool true)) none)] false) .ret)))
theorem Ahz : (Tryd.f33.body.bind (Ju Tryd.prog Tryd.f33.ntmps)) = some AeU:=by kernel_rfl
theorem AhA : Tryd.f33.results.toList.mapM (JE Tryd.prog) = some [(.t 2)]:=by kernel_rfl
def TE (a : (List Int)) : List D:=[.sl (a.map Jc)]
def TD (ds : List D) : (List Int):=(uL uI) (ds.getD 0 .top)
theorem Up (a : (List Int)) : TD (TE a) = a:=by simp [TD,TE,KE (u:=uI) (en:=Jc) (fun _=>rfl)]
def YU (b : Bool) : D:=.bool b
def YT (_b : Bool) : List D:=[]
noncomputable def PV : Dw.Spec:=Js [] .ground TE TD (fun a=>Ov a) YU YT
set_option maxHeartbeats 4000000 in
theorem Yq : Jr Tryd.prog 33 PV:=by
 refine JA (Jw (l:=[(58,MV)]) (by simp [Uw])) Tryd.func33 (by decide) Ahz AhA (np:=1) (by decide) Up (fun _=>r) (fun _=>r) (by decide)<|?_
 intro s1
 show TrE (specs [(58,MV)]) AeU (JH [] .ground [(.t 2)] YU YT) ⟨[(0,.sl (s1.map Jc))],[],262144⟩ (Ov s1)
 refine Jv<|?_
 unfold AeU Ov
 refine sQ<|rG<|aS r r<|nI<|xS<|sQ<|sQ<|rG<|mV r r<|lS r r<|mV r r<|nI<|xS<|bK<|lP (E:=fun (s : Int) (g : Unit)=>[(0,.sl (s1.map Jc)),(5,.sl (s1.map Jc)),(6,.int .i64 (s1.length : Int)),(7,.int .i64 s)]) (O:=fun s g=>[]) (body:=fun s=>LH s1 s) (s:=0) () ((hE ⟨rfl,r,r,r,trivial⟩ trivial))<|?_
 rintro x2 ⟨⟩ nn
 try dsimp only
 unfold LH
 refine sQ<|rG<|bN (v:=.bool (decide (x2 < (s1.length : Int)))) r r r r r<|nI<|xS<|sQ<|cD (c:=(decide (x2 < (s1.length : Int)))) r ?_ ?_
 ·refine sK<|xS<|sQ<|bK<|sQ<|rG<|mV r r<|bD fun x_x3 hx_x3=>iS (en:=Jc) r r r hx_x3 r<|lF (v:=.int .i64 x_x3) r r r r<|aS r r<|aS r r<|nI<|xS<|sQ<|rG<|mV r r<|bD fun r4 hr4=>cG x_x3 r r r QB r r (by simp) r hr4 r<|uN (w:=.bool (!r4)) r r r r trivial<|mV r r<|sP 15 (b:=(!r4)) r ?_ ?_
  ·refine oF r<|oF r<|oF r<|oF r<|oF r<|oF r<|oF r<|oF r<|oF r<|oF r<|oF r<|pT r r r r<|nI<|xS<|JX r<|sQ<|rG<|aS r r<|nI<|xS<|rT<|bR<|xR<|lR<|bR<|xR<|Jo (b:=false) r ?_ r r ?_ r
   all_goals first|(simp;done)|(simp;omega)|rfl|(simp [Jk,Ji];done)
  ·refine mV r r<|bN (v:=.bool (decide (x2 > 0))) r r r r r<|mV r r<|sP 18 (b:=(decide (x2 > 0))) r ?_ ?_
   ·refine mV r r<|mV r r<|mV r r<|bN (v:=.int .i64 (IntKind.i64.wrap (x2 - 1))) r r r r r<|bD fun x_x5 hx_x5=>iS (en:=Jc) r r r hx_x5 r<|lF (v:=.int .i64 x_x5) r r r r<|bN (v:=.bool (decide (x_x3 ≤ x_x5))) r r r r r<|pT r r r r<|pF r r r r<|nI<|xS<|cD (c:=(decide (x_x3 ≤ x_x5))) r ?_ ?_
    ·refine sQ<|rG<|aS r r<|nI<|xS<|rT<|bR<|xR<|lR<|bR<|xR<|Jo (b:=false) r ?_ r r ?_ r
     all_goals first|(simp;done)|(simp;omega)|rfl|(simp [Jk,Ji];done)
    ·exact sK<|bM<|xS<|rG<|bN (v:=.int .i64 (IntKind.i64.wrap (x2 + 1))) r r r r r<|mV r r<|nI<|xL (s:=IntKind.i64.wrap (x2 + 1)) () ((hE ⟨rfl,r,r,r,trivial⟩ trivial))
   ·exact oF r<|oF r<|oF r<|oF r<|oF r<|oF r<|oF r<|pF r r r r<|pF r r r r<|nI<|xS<|ML r<|sK<|bM<|xS<|rG<|bN (v:=.int .i64 (IntKind.i64.wrap (x2 + 1))) r r r r r<|mV r r<|nI<|xL (s:=IntKind.i64.wrap (x2 + 1)) () ((hE ⟨rfl,r,r,r,trivial⟩ trivial))
 ·refine eT<|xE<|lE<|bH<|xS<|sQ<|rG<|aS r r<|nI<|xS<|rT<|Jo (b:=true) r ?_ r r ?_ r
  all_goals first|(simp;done)|(simp;omega)|rfl|(simp [Jk,Ji];done)

def Afw : Jt:=(.seq (.reg [P 3 (.asg (.c (.bool false)) none)] false) (.seq (.reg [M 4 0,⟨(some 5),(.call (.c (.clo 33 [])) [(T 4)]),none,[0]⟩,⟨(some 6),(.un .not (T 5)),none,[1]⟩,⟨(some 7),(.mv (T 6)),none,[2,1]⟩,⟨(some 8),(.mv (T 0)),(some ⟨7,false⟩),[3]⟩,⟨(some 9),(.len false (T 8)),(some ⟨7,false⟩),[4,3]⟩,⟨(some 10),(.bin .gtr (T 9) (C 0)),(some ⟨7,false⟩),[5,3]⟩,⟨(some 11),(.mv (T 10)),(some ⟨7,false⟩),[6,3,3]⟩,⟨(some 12),(.mv (T 0)),(some ⟨11,true⟩),[7]⟩,⟨(some 13),(.mv (T 0)),(some ⟨11,true⟩),[7]⟩,⟨(some 14),(.len false (T 13)),(some ⟨11,true⟩),[9,7]⟩,⟨(some 15),(.bin .sub (T 14) (C 1)),(some ⟨11,true⟩),[10,7]⟩,⟨(some 16),(.ixA 1 (T 12) (T 15)),(some ⟨11,true⟩),[8,11,7]⟩,⟨(some 17),(.ld 1 false (T 16)),(some ⟨11,true⟩),[12,7]⟩,⟨(some 18),(.fldA 1 (T 1)),(some ⟨11,true⟩),[7]⟩,⟨(some 19),(.ld 1 false (T 18)),(some ⟨11,true⟩),[14,7]⟩,⟨(some 20),(.len false (T 19)),(some ⟨11,true⟩),[15,7]⟩,⟨(some 21),(.bin .geq (T 17) (T 20)),(some ⟨11,true⟩),[13,16,7]⟩,⟨(some 22),(.pick (T 11) (T 21) (.c (.bool false))),(some ⟨7,false⟩),[7,17,3]⟩,⟨(some 23),(.pick (T 7) (.c (.bool true)) (T 22)),none,[3,18]⟩,⟨(some 3),(.asg (T 23) none),none,[19,7,0,1,2,3,4,5,6,7,8,9,10,11,12,13,14,15,16,17,18,19]⟩] true) .ret))
theorem AiD : (Tryd.f68.body.bind (Ju Tryd.prog Tryd.f68.ntmps)) = some Afw:=by kernel_rfl
theorem AiE : Tryd.f68.results.toList.mapM (JE Tryd.prog) = some [(.t 3)]:=by kernel_rfl
def Ok (a : (List Int) × Jh) : List D:=[.sl (a.1.map Jc),.fptr (JS a.2) 0]
def Oj (ds : List D) : (List Int) × Jh:=((uL uI) (ds.getD 0 .top),Mn (fpD (ds.getD 1 .top)))
theorem Sn (a : (List Int) × Jh) : Oj (Ok a) = a:=by simp [Oj,Ok,fpD,KE (u:=uI) (en:=Jc) (fun _=>rfl)]
def SM (b : Bool) : D:=.bool b
def SL (_b : Bool) : List D:=[]
noncomputable def OW : Dw.Spec:=Js [] .ground Ok Oj (fun a=>Lm a.1 a.2) SM SL
set_option maxHeartbeats 4000000 in
theorem XQ : Jr Tryd.prog 68 OW:=by
 refine JA (Jw (l:=[(33,PV)]) (by simp [Yq])) Tryd.func68 (by decide) AiD AiE (np:=2) (by decide) Sn (fun _=>r) (fun _=>r) (by decide)<|?_
 rintro ⟨s1,cap2⟩
 show TrE (specs [(33,PV)]) Afw (JH [] .ground [(.t 3)] SM SL) ⟨[(0,.sl (s1.map Jc)),(1,.fptr (.agg [.int .i64 cap2.Params,.sl (cap2.Slots.map Jj),.sl (cap2.Code.map Jg)]) 0)],[],262144⟩ (Lm s1 cap2)
 refine Jv<|?_
 unfold Afw Lm
 refine sQ<|rG<|aS r r<|nI<|xS<|sQ<|rG<|mV r r<|bD fun r3 hr3=>cG s1 r r r Up r r (by simp) r hr3 r<|uN (w:=.bool (!r3)) r r r r trivial<|mV r r<|sP 7 (b:=(!r3)) r ?_ ?_
 ·refine oF r<|oF r<|oF r<|oF r<|oF r<|oF r<|oF r<|oF r<|oF r<|oF r<|oF r<|oF r<|oF r<|oF r<|oF r<|pT r r r r<|aS r r<|Jz (by kernel_rfl)<|xS<|rT<|Jo (b:=true) r ?_ r r ?_ r
  all_goals first|(simp;done)|(simp;omega)|rfl|(simp [Jk,Ji];done)
 ·refine mV r r<|lS r r<|bN (v:=.bool (decide ((s1.length : Int) > 0))) r r r r r<|mV r r<|sP 11 (b:=(decide ((s1.length : Int) > 0))) r ?_ ?_
  ·refine mV r r<|mV r r<|lS r r<|bN (v:=.int .i64 (IntKind.i64.wrap ((s1.length : Int) - 1))) r r r r r<|bD fun x_x4 hx_x4=>iS (en:=Jc) r r r hx_x4 r<|lF (v:=.int .i64 x_x4) r r r r<|fF r r<|lF (v:=.sl (cap2.Slots.map Jj)) r r r r<|lS r r<|bN (v:=.bool (decide (x_x4 ≥ (cap2.Slots.length : Int)))) r r r r r<|pT r r r r<|pF r r r r<|aS r r<|Jz (by kernel_rfl)<|xS<|rT<|Jo (b:=(decide (x_x4 ≥ (cap2.Slots.length : Int)))) r ?_ r r ?_ r
   all_goals first|(simp;done)|(simp;omega)|rfl|(simp [Jk,Ji];done)
  ·refine oF r<|oF r<|oF r<|oF r<|oF r<|oF r<|oF r<|oF r<|oF r<|oF r<|pF r r r r<|pF r r r r<|aS r r<|Jz (by kernel_rfl)<|xS<|rT<|Jo (b:=false) r ?_ r r ?_ r
   all_goals first|(simp;done)|(simp;omega)|rfl|(simp [Jk,Ji];done)

def AfH : Jt:=(.seq (.reg [P 4 (.asg (C 0) none)] false) (.seq (.seq (.reg [M 6 0,P 7 (.len false (T 6)),P 8 (.mv (C 0))] false) (.block 0 (.loop (.seq (.reg [P 9 (.bin .lss (T 8) (T 7))] false) (.seq (.cond (T 9) .skip (.exit 0)) (.seq (.block 1 (.seq (.reg [M 10 8,P 5 (.asg (T 10) none)] false) (.seq (.reg [M 11 1,M 12 0,M 13 5,P 14 (.ixA 1 (T 12) (T 13)),P 15 (.ld 1 false (T 14)),P 16 (.call (T 11) [(T 15)])] false) (.cond (T 16) (.seq (.reg [M 17 5,P 4 (.asg (T 17) none)] false) .ret) .skip)))) (.reg [P 18 (.bin .add (T 8) (C 1)),M 8 18] false))))))) (.seq (.reg [⟨(some 4),(.asg (.c (.int .i64 (-1))) none),none,[]⟩] false) .ret)))
theorem AiZ : (Tryd.f82.body.bind (Ju Tryd.prog Tryd.f82.ntmps)) = some AfH:=by kernel_rfl
theorem Aja : Tryd.f82.results.toList.mapM (JE Tryd.prog) = some [(.t 4)]:=by kernel_rfl
def Ll (a : (List (List Int)) × Jh) : List D:=[.sl (a.1.map (eL Jc)),.clo 68 [.fptr (JS a.2) 0]]
def Lk (ds : List D) : (List (List Int)) × Jh:=((uL (uL uI)) (ds.getD 0 .top),Mn (fpD (Zr (ds.getD 1 .top) 0)))
theorem ND (a : (List (List Int)) × Jh) : Lk (Ll a) = a:=by simp [Lk,Ll,fpD,Zr,KE (u:=(uL uI)) (en:=(eL Jc)) (KE (u:=uI) (en:=Jc) (fun _=>rfl))]
def NS (b : Int) : D:=.int .i64 b
def NR (_b : Int) : List D:=[]
noncomputable def KH : Dw.Spec:=Js [] .ground Ll Lk (fun a=>Kb a.1 a.2) NS NR
set_option maxHeartbeats 4000000 in
theorem Sv : Jr Tryd.prog 82 KH:=by
 refine JA (Jw (l:=[(68,OW)]) (by simp [XQ])) Tryd.func82 (by decide) AiZ Aja (np:=2) (by decide) ND (fun _=>r) (fun _=>r) (by decide)<|?_
 rintro ⟨s1,f2⟩
 show TrE (specs [(68,OW)]) AfH (JH [] .ground [(.t 4)] NS NR) ⟨[(0,.sl (s1.map (eL Jc))),(1,.clo 68 [.fptr (.agg [.int .i64 f2.Params,.sl (f2.Slots.map Jj),.sl (f2.Code.map Jg)]) 0])],[],262144⟩ (Kb s1 f2)
 refine Jv<|?_
 unfold AfH Kb
 refine sQ<|rG<|aS r r<|nI<|xS<|sQ<|sQ<|rG<|mV r r<|lS r r<|mV r r<|nI<|xS<|bK<|lP (E:=fun (s : Int) (g : Unit)=>[(0,.sl (s1.map (eL Jc))),(1,.clo 68 [.fptr (.agg [.int .i64 f2.Params,.sl (f2.Slots.map Jj),.sl (f2.Code.map Jg)]) 0]),(7,.int .i64 (s1.length : Int)),(8,.int .i64 s)]) (O:=fun s g=>[]) (body:=fun s=>KC s1 f2 s) (s:=0) () ((hE ⟨rfl,r,r,r,trivial⟩ trivial))<|?_
 rintro x3 ⟨⟩ nn
 try dsimp only
 unfold KC
 refine sQ<|rG<|bN (v:=.bool (decide (x3 < (s1.length : Int)))) r r r r r<|nI<|xS<|sQ<|cD (c:=(decide (x3 < (s1.length : Int)))) r ?_ ?_
 ·refine sK<|xS<|sQ<|bK<|sQ<|rG<|mV r r<|aS r r<|nI<|xS<|sQ<|rG<|mV r r<|mV r r<|mV r r<|bD fun x_x4 hx_x4=>iS (en:=(eL Jc)) r r r hx_x4 r<|lF (v:=.sl (x_x4.map Jc)) r r r r<|bD fun r5 hr5=>cG (x_x4,f2) r r r Sn r r (by simp) r hr5 r<|nI<|xS<|cD (c:=r5) r ?_ ?_
  ·refine sQ<|rG<|mV r r<|aS r r<|nI<|xS<|rT<|bR<|xR<|lR<|bR<|xR<|Jo (b:=x3) r ?_ r r ?_ r
   all_goals first|(simp;done)|(simp;omega)|rfl|(simp [Jk,Ji];done)
  ·exact sK<|bM<|xS<|rG<|bN (v:=.int .i64 (IntKind.i64.wrap (x3 + 1))) r r r r r<|mV r r<|nI<|xL (s:=IntKind.i64.wrap (x3 + 1)) () ((hE ⟨rfl,r,r,r,trivial⟩ trivial))
 ·refine eT<|xE<|lE<|bH<|xS<|sQ<|rG<|aS r r<|nI<|xS<|rT<|Jo (b:=(-1)) r ?_ r r ?_ r
  all_goals first|(simp;done)|(simp;omega)|rfl|(simp [Jk,Ji];done)

def Afx : Jt:=(.seq (.reg [P 4 (.asg (.c (.bool false)) none)] false) (.seq (.reg [M 5 0,M 6 1,P 7 (.call (.c (.clo 82 [])) [(T 5),(T 6)]),P 8 (.bin .geq (T 7) (C 0)),P 4 (.asg (T 8) none)] false) .ret))
theorem AiF : (Tryd.f69.body.bind (Ju Tryd.prog Tryd.f69.ntmps)) = some Afx:=by kernel_rfl
theorem AiG : Tryd.f69.results.toList.mapM (JE Tryd.prog) = some [(.t 4)]:=by kernel_rfl
def KW (a : (List (List Int)) × Jh) : List D:=[.sl (a.1.map (eL Jc)),.clo 68 [.fptr (JS a.2) 0]]
def KV (ds : List D) : (List (List Int)) × Jh:=((uL (uL uI)) (ds.getD 0 .top),Mn (fpD (Zr (ds.getD 1 .top) 0)))
theorem MK (a : (List (List Int)) × Jh) : KV (KW a) = a:=by simp [KV,KW,fpD,Zr,KE (u:=(uL uI)) (en:=(eL Jc)) (KE (u:=uI) (en:=Jc) (fun _=>rfl))]
def MY (b : Bool) : D:=.bool b
def MX (_b : Bool) : List D:=[]
noncomputable def Kp : Dw.Spec:=Js [] .ground KW KV (fun a=>Ke a.1 a.2) MY MX
set_option maxHeartbeats 4000000 in
theorem Ra : Jr Tryd.prog 69 Kp:=by
 refine JA (Jw (l:=[(282706,KH)]) (by simp [Sv])) Tryd.func69 (by decide) AiF AiG (np:=2) (by decide) MK (fun _=>r) (fun _=>r) (by decide)<|?_
 rintro ⟨s1,f2⟩
 show TrE (specs [(282706,KH)]) Afx (JH [] .ground [(.t 4)] MY MX) ⟨[(0,.sl (s1.map (eL Jc))),(1,.clo 68 [.fptr (.agg [.int .i64 f2.Params,.sl (f2.Slots.map Jj),.sl (f2.Code.map Jg)]) 0])],[],262144⟩ (Ke s1 f2)
 refine Jv<|?_
 unfold Afx Ke
 refine sQ<|rG<|aS rfl rfl<|nI<|xS<|sQ<|rG<|mV rfl rfl<|mV rfl rfl<|bD fun r3 hr3=>cG (s1,f2) rfl rfl (show _ = some KH from by kernel_rfl) ND rfl rfl (by simp) r hr3 r<|bN (v:=.bool (decide (r3 ≥ 0))) r r r r r<|aS r r<|nI<|xS<|rT<|Jo (b:=(decide (r3 ≥ 0))) r ?_ r r ?_ r
 all_goals first|(simp;done)|(simp;omega)|rfl|(simp [Jk,Ji];done)

def Afd : Jt:=(.seq (.reg [P 2 (.box (T 0) 3 33),P 3 (.box (T 1) 1 37),P 4 (.asg (.c (.bool false)) none)] false) (.seq (.reg [P 6 (.mkf 68 [(T 2)]),P 5 (.asg (T 6) none)] false) (.seq (.reg [P 7 (.fldA 0 (T 3)),P 8 (.ld 1 false (T 7)),P 9 (.len false (T 8)),P 10 (.fldA 2 (T 2)),P 11 (.ld 1 false (T 10)),P 12 (.len false (T 11)),P 13 (.bin .eql (T 9) (T 12)),M 14 13,⟨(some 15),(.fldA 0 (T 3)),(some ⟨14,true⟩),[]⟩,⟨(some 16),(.ld 1 false (T 15)),(some ⟨14,true⟩),[]⟩,⟨(some 17),(.mv (T 5)),(some ⟨14,true⟩),[]⟩,⟨(some 18),(.call (.c (.clo 69 [])) [(T 16),(T 17)]),(some ⟨14,true⟩),[]⟩,⟨(some 19),(.un .not (T 18)),(some ⟨14,true⟩),[]⟩,P 20 (.pick (T 14) (T 19) (.c (.bool false))),P 4 (.asg (T 20) none)] false) .ret)))
theorem AhR : (Tryd.f43.body.bind (Ju Tryd.prog Tryd.f43.ntmps)) = some Afd:=by kernel_rfl
theorem AhS : Tryd.f43.results.toList.mapM (JE Tryd.prog) = some [(.t 4)]:=by kernel_rfl
def QL (a : Jh × Jp) : List D:=[JS a.1,KL a.2]
def QK (ds : List D) : Jh × Jp:=(Mn (ds.getD 0 .top),Px (ds.getD 1 .top))
theorem RJ (a : Jh × Jp) : QK (QL a) = a:=by simp [QK,QL]
def Wu (b : Bool) : D:=.bool b
def Wt (_b : Bool) : List D:=[]
noncomputable def Nz : Dw.Spec:=Js [] .ground QL QK (fun a=>Ma a.1 a.2) Wu Wt
set_option maxHeartbeats 4000000 in
theorem Vh : Jr Tryd.prog 43 Nz:=by
 refine JA (Jw (l:=[(282693,Kp)]) (by simp [Ra])) Tryd.func43 (by decide) AhR AhS (np:=2) (by decide) RJ (fun _=>r) (fun _=>r) (by decide)<|?_
 rintro ⟨f1,l2⟩
 show TrE (specs [(282693,Kp)]) Afd (JH [] .ground [(.t 4)] Wu Wt) ⟨[(0,.agg [.int .i64 f1.Params,.sl (f1.Slots.map Jj),.sl (f1.Code.map Jg)]),(1,.agg [.sl (l2.Out.map (eL Jc))])],[],262144⟩ (Ma f1 l2)
 refine Jv<|?_
 unfold Afd Ma
 refine sQ<|rG<|bX r r r r r<|bX r r r r r<|aS r r<|nI<|KM (E:=[(2,.fptr (.agg [.int .i64 f1.Params,.sl (f1.Slots.map Jj),.sl (f1.Code.map Jg)]) 0),(3,.optr 3 _ 0 0)]) (O:=[(3,some (_,⟨false,true,1,37,[.agg [.sl (l2.Out.map (eL Jc))]]⟩))]) ((Zw (g:=2) r (by first | rfl | (simp [cells,frp,Lc,Jk]; done)) (hE ⟨(by first | rfl | (simp [Kf,lkO,frp,Lc,frO]; done) | (simp [Kf,lkO,frp,Lc,frO]; rfl)),(by first | rfl | (simp [Kf,lkO,frp,Lc,frO]; done) | (simp [Kf,lkO,frp,Lc,frO]; rfl)),trivial⟩ ⟨(by first | rfl | (simp [Kf,lkO,frp,Lc,frO]; done) | (simp [Kf,lkO,frp,Lc,frO]; rfl)),trivial⟩))) fun nn=>sQ<|rG<|mF (caps:=[.fptr (.agg [.int .i64 f1.Params,.sl (f1.Slots.map Jj),.sl (f1.Code.map Jg)]) 0]) r r (by simp [XA])<|aS r r<|nI<|xS<|sQ<|rG<|fA r r<|lO (v:=.sl (l2.Out.map (eL Jc))) (z:=.agg [.sl (l2.Out.map (eL Jc))]) r r r r r r<|lS r r<|fF r r<|lF (v:=.sl (f1.Code.map Jg)) r r r r<|lS r r<|bN (v:=.bool ((l2.Out.length : Int) == (f1.Code.length : Int))) r r r r r<|mV r r<|sP 14 (b:=((l2.Out.length : Int) == (f1.Code.length : Int))) r ?_ ?_
 ·refine fA rfl rfl<|lO (v:=.sl (l2.Out.map (eL Jc))) (z:=.agg [.sl (l2.Out.map (eL Jc))]) rfl rfl rfl rfl rfl rfl<|mV rfl rfl<|bD fun r3 hr3=>cG (l2.Out,f1) rfl rfl (show _ = some Kp from by kernel_rfl) MK rfl rfl (by simp) r hr3 r<|uN (w:=.bool (!r3)) r r r r trivial<|pT r r r r<|aS r r<|nI<|xS<|rT<|Jo (b:=(!r3)) r ?_ r r ?_ r
  all_goals first|(simp;done)|(simp;omega)|rfl|(simp [Jk,Ji];done)
 ·refine oF r<|oF r<|oF r<|oF r<|oF r<|pF r r r r<|aS r r<|nI<|xS<|rT<|Jo (b:=false) r ?_ r r ?_ r
  all_goals first|(simp;done)|(simp;omega)|rfl|(simp [Jk,Ji];done)

def Afz : Jt:=(.seq (.reg [P 1 (.box (T 0) 1 37),P 2 (.asg (.c .nilf) none)] false) (.seq (.reg [P 3 (.mkf 85 [(T 1)]),P 2 (.asg (T 3) none)] false) .ret))
theorem AiJ : (Tryd.f71.body.bind (Ju Tryd.prog Tryd.f71.ntmps)) = some Afz:=by kernel_rfl
theorem AiK : Tryd.f71.results.toList.mapM (JE Tryd.prog) = some [(.t 2)]:=by kernel_rfl
def Sp (a : Jp) : List D:=[KL a]
def So (ds : List D) : Jp:=Px (ds.getD 0 .top)
theorem Xr (a : Jp) : So (Sp a) = a:=by simp [So,Sp]
def XS (b : Jp) : D:=.clo 85 [.fptr (KL b) 0]
def XR (_b : Jp) : List D:=[]
noncomputable def TP : Dw.Spec:=Js [] .val Sp So (fun a=>Qh a) XS XR
set_option maxHeartbeats 4000000 in
theorem AaN : Jr Tryd.prog 71 TP:=by
 refine JA (JW) Tryd.func71 (by decide) AiJ AiK (np:=1) (by decide) Xr (fun _=>r) (fun _=>r) (by decide)<|?_
 intro l1
 show TrE (specs []) Afz (JH [] .val [(.t 2)] XS XR) ⟨[(0,.agg [.sl (l1.Out.map (eL Jc))])],[],262144⟩ (Qh l1)
 refine Jv<|?_
 unfold Afz Qh
 refine sQ<|rG<|bX r r r r r<|aS r r<|nI<|KM (E:=[(1,.fptr (.agg [.sl (l1.Out.map (eL Jc))]) 0)]) (O:=[]) ((Zw (g:=1) r (by first | rfl | (simp [cells,frp,Lc,Jk]; done)) (hE ⟨(by first | rfl | (simp [Kf,lkO,frp,Lc,frO]; done) | (simp [Kf,lkO,frp,Lc,frO]; rfl)),trivial⟩ trivial))) fun nn=>sQ<|rG<|mF (caps:=[.fptr (.agg [.sl (l1.Out.map (eL Jc))]) 0]) r r (by simp [XA])<|aS r r<|nI<|xS<|rT<|JY (b:=l1) r ?_ r r ?_ r
 all_goals first|(simp;done)|(simp;omega)|rfl|(simp [Jk,Ji];done)

def AfP : Jt:=(.seq (.reg [P 2 (.asg (.c (.bool false)) none)] false) (.seq (.reg [M 3 0,P 4 (.bin .eql (T 3) (C 20)),M 5 4,⟨(some 6),(.mv (T 0)),(some ⟨5,false⟩),[]⟩,⟨(some 7),(.bin .eql (T 6) (C 23)),(some ⟨5,false⟩),[]⟩,P 8 (.pick (T 5) (.c (.bool true)) (T 7)),M 9 8,⟨(some 10),(.mv (T 0)),(some ⟨9,false⟩),[]⟩,⟨(some 11),(.bin .eql (T 10) (C 24)),(some ⟨9,false⟩),[]⟩,P 12 (.pick (T 9) (.c (.bool true)) (T 11)),P 2 (.asg (T 12) none)] false) .ret))
theorem Ajp : (Tryd.f91.body.bind (Ju Tryd.prog Tryd.f91.ntmps)) = some AfP:=by kernel_rfl
theorem Ajq : Tryd.f91.results.toList.mapM (JE Tryd.prog) = some [(.t 2)]:=by kernel_rfl
def Su (a : Int) : List D:=[.int .i64 a]
def Ss (ds : List D) : Int:=uI (ds.getD 0 .top)
theorem Xu (a : Int) : Ss (Su a) = a:=by simp [Ss,Su,uI]
def Yg (b : Bool) : D:=.bool b
def Yf (_b : Bool) : List D:=[]
noncomputable def TU : Dw.Spec:=Js [] .ground Su Ss (fun a=>Qm a) Yg Yf
set_option maxHeartbeats 4000000 in
theorem AaO : Jr Tryd.prog 91 TU:=by
 refine JA (JW) Tryd.func91 (by decide) Ajp Ajq (np:=1) (by decide) Xu (fun _=>r) (fun _=>r) (by decide)<|?_
 intro op1
 show TrE (specs []) AfP (JH [] .ground [(.t 2)] Yg Yf) ⟨[(0,.int .i64 op1)],[],262144⟩ (Qm op1)
 refine Jv<|?_
 unfold AfP Qm
 refine sQ<|rG<|aS r r<|nI<|xS<|sQ<|rG<|mV r r<|bN (v:=.bool (op1 == 20)) r r r r r<|mV r r<|sP 5 (b:=(op1 == 20)) r ?_ ?_
 ·refine oF r<|oF r<|pT r r r r<|mV r r<|oF r<|oF r<|pT r r r r<|aS r r<|nI<|xS<|rT<|Jo (b:=true) r ?_ r r ?_ r
  all_goals first|(simp;done)|(simp;omega)|rfl|(simp [Jk,Ji];done)
 ·refine mV r r<|bN (v:=.bool (op1 == 23)) r r r r r<|pF r r r r<|mV r r<|sP 9 (b:=(op1 == 23)) r ?_ ?_
  ·refine oF r<|oF r<|pT r r r r<|aS r r<|nI<|xS<|rT<|Jo (b:=true) r ?_ r r ?_ r
   all_goals first|(simp;done)|(simp;omega)|rfl|(simp [Jk,Ji];done)
  ·refine mV r r<|bN (v:=.bool (op1 == 24)) r r r r r<|pF r r r r<|aS r r<|nI<|xS<|rT<|Jo (b:=(op1 == 24)) r ?_ r r ?_ r
   all_goals first|(simp;done)|(simp;omega)|rfl|(simp [Jk,Ji];done)

def AfI : Jt:=(.seq (.reg [P 2 (.box (T 0) 3 33),⟨(some 4),(.asg (.c .nils) (some ⟨1,3⟩)),none,[]⟩] false) (.seq (.seq (.reg [M 7 1,P 8 (.bin .lss (T 7) (C 0)),M 9 8,⟨(some 10),(.mv (T 1)),(some ⟨9,false⟩),[]⟩,⟨(some 11),(.fldA 2 (T 2)),(some ⟨9,false⟩),[]⟩,⟨(some 12),(.ld 1 false (T 11)),(some ⟨9,false⟩),[]⟩,⟨(some 13),(.len false (T 12)),(some ⟨9,false⟩),[]⟩,⟨(some 14),(.bin .geq (T 10) (T 13)),(some ⟨9,false⟩),[]⟩,P 15 (.pick (T 9) (.c (.bool true)) (T 14))] false) (.cond (T 15) (.seq (.reg [⟨(some 4),(.asg (.c .nils) (some ⟨1,3⟩)),none,[]⟩] false) .ret) .skip)) (.seq (.reg [⟨(some 5),(.asg (.c .nils) (some ⟨1,3⟩)),none,[]⟩] false) (.seq (.reg [P 16 (.fldA 2 (T 2)),P 17 (.ld 1 false (T 16)),M 18 1,P 19 (.ixA 5 (T 17) (T 18)),P 20 (.ld 5 true (T 19)),P 6 (.new (.agg [(.int .i64 0),(.int .i64 0),(.int .i64 0),(.int .i64 0),(.int .u64 0)]) 5 57),⟨none,(.st 5 (T 6) (T 20)),none,[]⟩] false) (.seq (.seq (.reg [P 21 (.fldA 0 (T 6)),P 22 (.ld 1 false (T 21)),P 23 (.call (.c (.clo 91 [])) [(T 22)]),P 24 (.un .not (T 23))] false) (.cond (T 24) (.reg [M 25 5,M 26 1,P 27 (.bin .add (T 26) (C 1)),⟨(some 28),(.bldS 1 3 (.int .i64 0) 1 [⟨0,(T 27)⟩]),none,[]⟩,P 29 (.app 1 3 8 (T 25) (T 28)),⟨(some 5),(.asg (T 29) (some ⟨1,3⟩)),none,[]⟩] false) .skip)) (.seq (.seq (.reg [P 30 (.fldA 0 (T 6)),P 31 (.ld 1 false (T 30))] false) (.block 0 (.seq (.reg [P 33 (.bin .eql (T 31) (C 20)),P 32 (.asg (T 33) none)] false) (.cond (T 32) (.reg [M 34 5,P 35 (.fldA 1 (T 6)),P 36 (.ld 1 false (T 35)),⟨(some 37),(.bldS 1 3 (.int .i64 0) 1 [⟨0,(T 36)⟩]),none,[]⟩,P 38 (.app 1 3 8 (T 34) (T 37)),⟨(some 5),(.asg (T 38) (some ⟨1,3⟩)),none,[]⟩] false) (.seq (.reg [P 40 (.bin .eql (T 31) (C 21)),P 39 (.asg (T 40) none)] false) (.cond (T 39) (.reg [M 41 5,P 42 (.fldA 2 (T 6)),P 43 (.ld 1 false (T 42)),⟨(some 44),(.bldS 1 3 (.int .i64 0) 1 [⟨0,(T 43)⟩]),none,[]⟩,P 45 (.app 1 3 8 (T 41) (T 44)),⟨(some 5),(.asg (T 45) (some ⟨1,3⟩)),none,[]⟩] false) .skip)))))) (.seq (.reg [M 46 5,P 47 (.call (.c (.clo 92 [])) [(T 46)])] false) (.seq (.reg [M 48 5,P 49 (.call (.c (.clo 93 [])) [(T 48)]),⟨(some 4),(.asg (T 49) (some ⟨1,3⟩)),none,[]⟩] false) .ret))))))))
theorem Ajb : (Tryd.f83.body.bind (Ju Tryd.prog Tryd.f83.ntmps)) = some AfI:=by kernel_rfl
theorem Ajc : Tryd.f83.results.toList.mapM (JE Tryd.prog) = some [(.t 4)]:=by kernel_rfl
def WG (a : Jh × Int) : List D:=[JS a.1,.int .i64 a.2]
def WE (ds : List D) : Jh × Int:=(Mn (ds.getD 0 .top),uI (ds.getD 1 .top))
theorem Aai (a : Jh × Int) : WE (WG a) = a:=by simp [WE,WG,uI]
def AaX (b : (List Int)) : D:=.sl (b.map Jc)
def AaW (_b : (List Int)) : List D:=[]
noncomputable def YM : Dw.Spec:=Js [] (.row 1 3) WG WE (fun a=>Uh a.1 a.2) AaX AaW
set_option maxHeartbeats 4000000 in
theorem AcN : Jr Tryd.prog 83 YM:=by
 refine JA (Jw (l:=[(91,TU),(92,Qn),(93,OB)]) (by simp [AaO,YP,Xw])) Tryd.func83 (by decide) Ajb Ajc (np:=2) (by decide) Aai (fun _=>r) (fun _=>r) (by decide)<|?_
 rintro ⟨f1,k2⟩
 show TrE (specs [(91,TU),(92,Qn),(93,OB)]) AfI (JH [] (.row 1 3) [(.t 4)] AaX AaW) ⟨[(0,.agg [.int .i64 f1.Params,.sl (f1.Slots.map Jj),.sl (f1.Code.map Jg)]),(1,.int .i64 k2)],[],262144⟩ (Uh f1 k2)
 refine Jv<|?_
 unfold AfI Uh
 refine sQ<|rG<|bX r r r r r<|aN (α:=Int) r Jc r<|nI<|xS<|sC (E:=fun (s : Unit) (g : Nat)=>[(1,.int .i64 k2),(2,.optr 2 g 0 0)]) (O:=fun s g=>[(2,some (g,⟨false,true,3,33,[.agg [.int .i64 f1.Params,.sl (f1.Slots.map Jj),.sl (f1.Code.map Jg)]]⟩))]) (j:=fun s=>UC f1 k2) ?_ ?_
 ·refine sQ<|rG<|mV r r<|bN (v:=.bool (decide (k2 < 0))) r r r r r<|mV r r<|sP 9 (b:=(decide (k2 < 0))) r ?_ ?_
  ·refine oF r<|oF r<|oF r<|oF r<|oF r<|pT r r r r<|nI<|xS<|JX r<|sQ<|rG<|aN (α:=Int) r Jc r<|nI<|xS<|rT<|zR<|JN (b:=([] : List Int)) r ?_ r r ?_ r ?_ (congrArg D.sl (Jl _ _ r)) r
   all_goals first|(simp;done)|(simp;omega)|rfl|(simp [Jk,Ji];done)
  ·refine mV r r<|fA r r<|lO (v:=.sl (f1.Code.map Jg)) (z:=.agg [.int .i64 f1.Params,.sl (f1.Slots.map Jj),.sl (f1.Code.map Jg)]) r r r r r r<|lS r r<|bN (v:=.bool (decide (k2 ≥ (f1.Code.length : Int)))) r r r r r<|pF r r r r<|nI<|xS<|cD (c:=(decide (k2 ≥ (f1.Code.length : Int)))) r ?_ ?_
   ·refine sQ<|rG<|aN (α:=Int) r Jc r<|nI<|xS<|rT<|zR<|JN (b:=([] : List Int)) r ?_ r r ?_ r ?_ (congrArg D.sl (Jl _ _ r)) r
    all_goals first|(simp;done)|(simp;omega)|rfl|(simp [Jk,Ji];done)
   ·exact sK<|xC (s:=()) _ ((hE ⟨rfl,r,trivial⟩ ⟨rfl,trivial⟩))
 ·rintro ⟨⟩ v2x1 nn
  try dsimp only
  unfold UC
  refine sQ<|rG<|aN (α:=Int) r Jc r<|nI<|xS<|sQ<|rG<|fA r r<|lO (v:=.sl (f1.Code.map Jg)) (z:=.agg [.int .i64 f1.Params,.sl (f1.Slots.map Jj),.sl (f1.Code.map Jg)]) r r r r r r<|mV r r<|bD fun x_x3 hx_x3=>iS (en:=Jg) r r r hx_x3 r<|lF (v:=.agg [.int .i64 x_x3.Op,.int .i64 x_x3.A,.int .i64 x_x3.B,.int .i64 x_x3.C,.int .u64 x_x3.Imm]) r r r r<|nW r<|sV (z':=.agg [.int .i64 x_x3.Op,.int .i64 x_x3.A,.int .i64 x_x3.B,.int .i64 x_x3.C,.int .u64 x_x3.Imm]) r r r r r r r r r<|nI<|xS<|sC (E:=fun (s : (List Int)) (g : Nat × Nat)=>[(5,.osl 5 g.1 0 s.length),(6,.optr 6 g.2 0 0)]) (O:=fun s g=>[(5,some (g.1,⟨false,false,1,3,s.map Jc⟩)),(6,some (g.2,⟨false,true,5,57,[.agg [.int .i64 x_x3.Op,.int .i64 x_x3.A,.int .i64 x_x3.B,.int .i64 x_x3.C,.int .u64 x_x3.Imm]]⟩))]) (j:=fun s=>Sg x_x3 s) ?_ ?_
  ·refine sQ<|rG<|fA r r<|lO (v:=.int .i64 x_x3.Op) (z:=.agg [.int .i64 x_x3.Op,.int .i64 x_x3.A,.int .i64 x_x3.B,.int .i64 x_x3.C,.int .u64 x_x3.Imm]) r r r r r r<|bD fun r5 hr5=>cG x_x3.Op r r r Xu r r (by simp) r hr5 r<|uN (w:=.bool (!r5)) r r r r trivial<|nI<|xS<|cD (c:=(!r5)) r ?_ ?_
   ·exact rG<|mV r r<|mV r r<|bN (v:=.int .i64 (IntKind.i64.wrap (k2 + 1))) r r r r r<|bS ([IntKind.i64.wrap (k2 + 1)] : List Int) Jc r r r (by simp) r r r<|cK fun hq=>aP (([] : List Int)) (([IntKind.i64.wrap (k2 + 1)] : List Int)) Jc r r r r r r r (by simp) (JI _ _ r) r r (by simp) (Jl _ _ r) (fun _=>r) r hq<|aO (l:=([] : List Int) ++ ([IntKind.i64.wrap (k2 + 1)] : List Int)) (en:=Jc) r r r r<|nI<|xC (s:=([] : List Int) ++ ([IntKind.i64.wrap (k2 + 1)] : List Int)) (_,_) ((hE ⟨rfl,r,trivial⟩ ⟨rfl,r,trivial⟩))
   ·exact sK<|xC (s:=([] : List Int)) (_,_) ((hE ⟨rfl,r,trivial⟩ ⟨rfl,r,trivial⟩))
  ·rintro l4 ⟨v5x2,v6x2⟩ nn
   try dsimp only
   unfold Sg
   refine sQ<|sQ<|rG<|fA r r<|lO (v:=.int .i64 x_x3.Op) (z:=.agg [.int .i64 x_x3.Op,.int .i64 x_x3.A,.int .i64 x_x3.B,.int .i64 x_x3.C,.int .u64 x_x3.Imm]) r r r r r r<|nI<|xS<|bK<|sQ<|rG<|bN (v:=.bool (x_x3.Op == 20)) r r r r r<|aS r r<|nI<|xS<|cD (c:=(x_x3.Op == 20)) r ?_ ?_
   ·refine rG<|mV r r<|fA r r<|lO (v:=.int .i64 x_x3.A) (z:=.agg [.int .i64 x_x3.Op,.int .i64 x_x3.A,.int .i64 x_x3.B,.int .i64 x_x3.C,.int .u64 x_x3.Imm]) r r r r r r<|bS ([x_x3.A] : List Int) Jc r r r (by simp) r r r<|cK fun hq=>aP (l4) (([x_x3.A] : List Int)) Jc r r r r r r r (by simp) (JI _ _ r) r r (by simp) (Jl _ _ r) (fun _=>r) r hq<|aO (l:=l4 ++ ([x_x3.A] : List Int)) (en:=Jc) r r r r<|nI<|bM<|xS<|sQ<|rG<|mV r r<|cK fun hq=>ZD (l:=l4 ++ ([x_x3.A] : List Int)) (l':=Li (l4 ++ ([x_x3.A] : List Int))) r r r r r r r hq r<|nI<|xS<|sQ<|rG<|mV r r<|cK fun hq=>Yi (l:=Li (l4 ++ ([x_x3.A] : List Int))) (l':=Lib.compact (Li (l4 ++ ([x_x3.A] : List Int)))) r r r r r (by simp) r hq (Vo _) r<|aO (l:=Lib.compact (Li (l4 ++ ([x_x3.A] : List Int)))) (en:=Jc) r r r r<|nI<|xS<|rT<|JN (b:=Lib.compact (Li (l4 ++ ([x_x3.A] : List Int)))) r ?_ r r ?_ r ?_ (congrArg D.sl (Jl _ _ r)) r
    all_goals first|(simp;done)|(simp;omega)|rfl|(simp [Jk,Ji];done)
   ·refine sQ<|rG<|bN (v:=.bool (x_x3.Op == 21)) r r r r r<|aS r r<|nI<|xS<|cD (c:=(x_x3.Op == 21)) r ?_ ?_
    ·refine rG<|mV r r<|fA r r<|lO (v:=.int .i64 x_x3.B) (z:=.agg [.int .i64 x_x3.Op,.int .i64 x_x3.A,.int .i64 x_x3.B,.int .i64 x_x3.C,.int .u64 x_x3.Imm]) r r r r r r<|bS ([x_x3.B] : List Int) Jc r r r (by simp) r r r<|cK fun hq=>aP (l4) (([x_x3.B] : List Int)) Jc r r r r r r r (by simp) (JI _ _ r) r r (by simp) (Jl _ _ r) (fun _=>r) r hq<|aO (l:=l4 ++ ([x_x3.B] : List Int)) (en:=Jc) r r r r<|nI<|bM<|xS<|sQ<|rG<|mV r r<|cK fun hq=>ZD (l:=l4 ++ ([x_x3.B] : List Int)) (l':=Li (l4 ++ ([x_x3.B] : List Int))) r r r r r r r hq r<|nI<|xS<|sQ<|rG<|mV r r<|cK fun hq=>Yi (l:=Li (l4 ++ ([x_x3.B] : List Int))) (l':=Lib.compact (Li (l4 ++ ([x_x3.B] : List Int)))) r r r r r (by simp) r hq (Vo _) r<|aO (l:=Lib.compact (Li (l4 ++ ([x_x3.B] : List Int)))) (en:=Jc) r r r r<|nI<|xS<|rT<|JN (b:=Lib.compact (Li (l4 ++ ([x_x3.B] : List Int)))) r ?_ r r ?_ r ?_ (congrArg D.sl (Jl _ _ r)) r
     all_goals first|(simp;done)|(simp;omega)|rfl|(simp [Jk,Ji];done)
    ·refine sK<|bM<|xS<|sQ<|rG<|mV r r<|cK fun hq=>ZD (l:=l4) (l':=Li l4) r r r r r r r hq r<|nI<|xS<|sQ<|rG<|mV r r<|cK fun hq=>Yi (l:=Li l4) (l':=Lib.compact (Li l4)) r r r r r (by simp) r hq (Vo _) r<|aO (l:=Lib.compact (Li l4)) (en:=Jc) r r r r<|nI<|xS<|rT<|JN (b:=Lib.compact (Li l4)) r ?_ r r ?_ r ?_ (congrArg D.sl (Jl _ _ r)) r
     all_goals first|(simp;done)|(simp;omega)|rfl|(simp [Jk,Ji];done)

def AfK : Jt:=(.seq (.reg [⟨(some 3),(.asg (.c .nils) (some ⟨1,3⟩)),none,[]⟩] false) (.seq (.reg [P 4 (.fldA 0 (T 1)),P 5 (.ld 1 false (T 4)),M 6 0,P 7 (.ixA 1 (T 5) (T 6)),P 8 (.ld 1 false (T 7)),⟨(some 3),(.asg (T 8) (some ⟨1,3⟩)),none,[]⟩] false) .ret))
theorem Ajf : (Tryd.f85.body.bind (Ju Tryd.prog Tryd.f85.ntmps)) = some AfK:=by kernel_rfl
theorem Ajg : Tryd.f85.results.toList.mapM (JE Tryd.prog) = some [(.t 3)]:=by kernel_rfl
def OY (a : Int × Jp) : List D:=[.int .i64 a.1,.fptr (KL a.2) 0]
def OX (ds : List D) : Int × Jp:=(uI (ds.getD 0 .top),Px (fpD (ds.getD 1 .top)))
theorem To (a : Int × Jp) : OX (OY a) = a:=by simp [OX,OY,uI,fpD]
def Ul (b : (List Int)) : D:=.sl (b.map Jc)
def Uk (_b : (List Int)) : List D:=[]
noncomputable def Qi : Dw.Spec:=Js [] .val OY OX (fun a=>MW a.1 a.2) Ul Uk
set_option maxHeartbeats 4000000 in
theorem YN : Jr Tryd.prog 85 Qi:=by
 refine JA (JW) Tryd.func85 (by decide) Ajf Ajg (np:=2) (by decide) To (fun _=>r) (fun _=>r) (by decide)<|?_
 rintro ⟨j1,cap2⟩
 show TrE (specs []) AfK (JH [] .val [(.t 3)] Ul Uk) ⟨[(0,.int .i64 j1),(1,.fptr (.agg [.sl (cap2.Out.map (eL Jc))]) 0)],[],262144⟩ (MW j1 cap2)
 refine Jv<|?_
 unfold AfK MW
 refine sQ<|rG<|aN (α:=Int) r Jc r<|nI<|xS<|sQ<|rG<|fF r r<|lF (v:=.sl (cap2.Out.map (eL Jc))) r r r r<|mV r r<|bD fun x_x3 hx_x3=>iS (en:=(eL Jc)) r r r hx_x3 r<|lF (v:=.sl (x_x3.map Jc)) r r r r<|aL r r<|nI<|xS<|rT<|JY (b:=x_x3) r ?_ r r ?_ r
 all_goals first|(simp;done)|(simp;omega)|rfl|(simp [Jk,Ji];done)

def Afm : Jt:=(.seq (.reg [P 1 (.box (T 0) 5 57),P 2 (.asg (C 0) none),P 3 (.asg (.c (.bool false)) none)] false) (.seq (.seq (.reg [P 4 (.fldA 0 (T 1)),P 5 (.ld 1 false (T 4))] false) (.block 0 (.seq (.seq (.reg [P 7 (.bin .eql (T 5) (C 16)),P 6 (.asg (T 7) none)] false) (.cond (T 6) .skip (.reg [P 8 (.bin .eql (T 5) (C 17)),P 6 (.asg (T 8) none)] false))) (.cond (T 6) (.seq (.reg [P 9 (.fldA 1 (T 1)),P 10 (.ld 1 false (T 9)),P 2 (.asg (T 10) none),P 3 (.asg (.c (.bool true)) none)] false) .ret) .skip)))) (.seq (.reg [P 2 (.asg (C 0) none),P 3 (.asg (.c (.bool false)) none)] false) .ret)))
theorem Aij : (Tryd.f56.body.bind (Ju Tryd.prog Tryd.f56.ntmps)) = some Afm:=by kernel_rfl
theorem Aik : Tryd.f56.results.toList.mapM (JE Tryd.prog) = some [(.t 2),(.t 3)]:=by kernel_rfl
def Sf (a : Je) : List D:=[Jg a]
def Se (ds : List D) : Je:=Qr (ds.getD 0 .top)
theorem PU (a : Je) : Se (Sf a) = a:=by simp [Se,Sf]
def XP (b : Int × Bool) : D:=.tup [.int .i64 b.1,.bool b.2]
def XO (_b : Int × Bool) : List D:=[]
noncomputable def LZ : Dw.Spec:=Js [] .ground Sf Se (fun a=>Ml a) XP XO
set_option maxHeartbeats 4000000 in
theorem Tc : Jr Tryd.prog 56 LZ:=by
 refine JA (JW) Tryd.func56 (by decide) Aij Aik (np:=1) (by decide) PU (fun _=>r) (fun _=>r) (by decide)<|?_
 intro x1
 show TrE (specs []) Afm (JH [] .ground [(.t 2),(.t 3)] XP XO) ⟨[(0,.agg [.int .i64 x1.Op,.int .i64 x1.A,.int .i64 x1.B,.int .i64 x1.C,.int .u64 x1.Imm])],[],262144⟩ (Ml x1)
 refine Jv<|?_
 unfold Afm Ml
 refine sQ<|rG<|bX r r r r r<|aS r r<|aS r r<|nI<|xS<|sQ<|sQ<|rG<|fA r r<|lO (v:=.int .i64 x1.Op) (z:=.agg [.int .i64 x1.Op,.int .i64 x1.A,.int .i64 x1.B,.int .i64 x1.C,.int .u64 x1.Imm]) r r r r r r<|nI<|xS<|bK<|sQ<|sQ<|rG<|bN (v:=.bool (x1.Op == 16)) r r r r r<|aS r r<|nI<|xS<|cD (c:=(x1.Op == 16)) r ?_ ?_
 ·refine sK<|xS<|cD (c:=(x1.Op == 16)) r ?_ ?_
  ·refine sQ<|rG<|fA r r<|lO (v:=.int .i64 x1.A) (z:=.agg [.int .i64 x1.Op,.int .i64 x1.A,.int .i64 x1.B,.int .i64 x1.C,.int .u64 x1.Imm]) r r r r r r<|aS r r<|aS r r<|nI<|xS<|rT<|bR<|xR<|Km (b:=(x1.A,true)) r ?_ r r ?_ r (by decide)
   all_goals first|(simp;done)|(simp;omega)|rfl|(simp [Jk,Ji];done)
  ·refine sK<|bM<|xS<|sQ<|rG<|aS r r<|aS r r<|nI<|xS<|rT<|Km (b:=(0,false)) r ?_ r r ?_ r (by decide)
   all_goals first|(simp;done)|(simp;omega)|rfl|(simp [Jk,Ji];done)
 ·refine rG<|bN (v:=.bool (x1.Op == 17)) r r r r r<|aS r r<|nI<|xS<|cD (c:=(x1.Op == 17)) r ?_ ?_
  ·refine sQ<|rG<|fA r r<|lO (v:=.int .i64 x1.A) (z:=.agg [.int .i64 x1.Op,.int .i64 x1.A,.int .i64 x1.B,.int .i64 x1.C,.int .u64 x1.Imm]) r r r r r r<|aS r r<|aS r r<|nI<|xS<|rT<|bR<|xR<|Km (b:=(x1.A,true)) r ?_ r r ?_ r (by decide)
   all_goals first|(simp;done)|(simp;omega)|rfl|(simp [Jk,Ji];done)
  ·refine sK<|bM<|xS<|sQ<|rG<|aS r r<|aS r r<|nI<|xS<|rT<|Km (b:=(0,false)) r ?_ r r ?_ r (by decide)
   all_goals first|(simp;done)|(simp;omega)|rfl|(simp [Jk,Ji];done)

def AfT : Jt:=(.seq (.reg [M 7 1,P 8 (.cvt .u64 (T 7)),P 9 (.bin .rem (T 8) (.c (.int .u64 64))),P 10 (.bin .shl (.c (.int .u64 1)) (T 9)),P 6 (.asg (T 10) none)] false) (.block 0 (.seq (.reg [M 22 1,P 23 (.call (.c (.clo 58 [])) [(T 22)]),P 24 (.un .not (T 23)),P 21 (.asg (T 24) none)] false) (.cond (T 21) .skip (.seq (.reg [M 26 2,P 25 (.asg (T 26) none)] false) (.cond (T 25) (.reg [M 27 0,M 28 1,⟨(some 29),(.bin .quo (T 28) (C 64)),none,[1]⟩,⟨(some 30),(.nilck (T 27)),none,[0]⟩,⟨(some 31),(.ixP 1 8 (T 30) (T 29)),none,[3,2]⟩,⟨(some 32),(.ld 1 false (T 31)),none,[4]⟩,M 33 6,⟨(some 34),(.bin .or (T 32) (T 33)),none,[5,6]⟩,⟨(some 35),(.nilck (T 27)),none,[0]⟩,⟨(some 36),(.ixP 1 8 (T 35) (T 29)),none,[8,2,0,1,2,3,4,5,6,7]⟩,⟨none,(.st 1 (T 36) (T 34)),none,[9,7,0,1,2,3,4,5,6,7]⟩] true) (.reg [M 11 0,M 12 1,⟨(some 13),(.bin .quo (T 12) (C 64)),none,[1]⟩,⟨(some 14),(.nilck (T 11)),none,[0]⟩,⟨(some 15),(.ixP 1 8 (T 14) (T 13)),none,[3,2]⟩,⟨(some 16),(.ld 1 false (T 15)),none,[4]⟩,M 17 6,⟨(some 18),(.bin .andNot (T 16) (T 17)),none,[5,6]⟩,⟨(some 19),(.nilck (T 11)),none,[0]⟩,⟨(some 20),(.ixP 1 8 (T 19) (T 13)),none,[8,2,0,1,2,3,4,5,6,7]⟩,⟨none,(.st 1 (T 20) (T 18)),none,[9,7,0,1,2,3,4,5,6,7]⟩] true)))))))
theorem Ajx : (Tryd.f97.body.bind (Ju Tryd.prog Tryd.f97.ntmps)) = some AfT:=by kernel_rfl
theorem Ajy : Tryd.f97.results.toList.mapM (JE Tryd.prog) = some []:=by kernel_rfl
def PA (a : Jf × Int × Bool) : List D:=[JO a.1,.int .i64 a.2.1,.bool a.2.2]
def Pz (ds : List D) : Jf × Int × Bool:=(Lu (ds.getD 0 .top),uI (ds.getD 1 .top),uBo (ds.getD 2 .top))
theorem PX (a : Jf × Int × Bool) : Pz (PA a) = a:=by simp [Pz,PA,uI,uBo]
def Ut (b : Jf) : D:=.tup []
def Us (b : Jf) : List D:=[JO b]
noncomputable def Mx : Dw.Spec:=Js [(0,(8,120))] .val PA Pz (fun a=>Lp a.1 a.2.1 a.2.2) Ut Us
set_option maxHeartbeats 4000000 in
theorem Uc : Jr Tryd.prog 97 Mx:=by
 refine JA (Jw (l:=[(58,MV)]) (by simp [Uw])) Tryd.func97 (by decide) Ajx Ajy (np:=3) (by decide) PX (fun _=>r) (fun _=>r) (by decide)<|?_
 rintro ⟨s1,n2,in3⟩
 show TrE (specs [(58,MV)]) AfT (JH [(0,(8,120))] .val [] Ut Us) ⟨[(0,.optr 8192 0 0 0),(1,.int .i64 n2),(2,.bool in3)],[(8192,some (0,⟨false,true,8,120,[.agg [.int .u64 s1.a0,.int .u64 s1.a1,.int .u64 s1.a2,.int .u64 s1.a3,.int .u64 s1.a4,.int .u64 s1.a5,.int .u64 s1.a6,.int .u64 s1.a7]]⟩))],262144⟩ (Lp s1 n2 in3)
 refine Jv<|?_
 unfold AfT Lp
 refine sQ<|rG<|mV r r<|cT r r<|bN (v:=.int .u64 ((IntKind.u64.wrap (n2)).tmod 64)) r r r r ⟨rfl,(by decide)⟩<|cK fun hq=>bN (v:=.int .u64 (IntKind.u64.wrap (1 * 2 ^ (Nat.min ((IntKind.u64.wrap (n2)).tmod 64).toNat IntKind.u64.bits)))) r r r r hq<|aS r r<|nI<|xS<|bK<|sQ<|rG<|mV r r<|bD fun r4 hr4=>cG n2 r r r QB r r (by simp) r hr4 r<|uN (w:=.bool (!r4)) r r r r trivial<|aS r r<|nI<|xS<|cD (c:=(!r4)) r ?_ ?_
 ·refine sK<|bM<|Nt (b:=s1) r ?_ r r ?_ r (by decide)
  all_goals first|(simp;done)|(simp;omega)|rfl|(simp [Jk,Ji];done)
 ·refine sQ<|rG<|mV r r<|aS r r<|nI<|xS<|cD (c:=in3) r ?_ ?_
  ·refine rG<|mV r r<|mV r r<|bN (v:=.int .i64 (IntKind.i64.wrap (n2.tdiv 64))) r r r r ⟨rfl,(by decide)⟩<|nC r r r<|cK fun hq=>Qp r r r hq<|bD fun s_e5 hs_e5=>QQ (q:=s_e5) (l:=s1.toList) (en:=TO) (j:=(IntKind.i64.wrap (n2.tdiv 64)).toNat) (by simp) r r r hs_e5 r (fun _=>r)<|mV r r<|bN (v:=.int .u64 (IntKind.u64.wrap ((BitVec.ofInt IntKind.u64.bits s_e5 ||| BitVec.ofInt IntKind.u64.bits (IntKind.u64.wrap (1 * 2 ^ (Nat.min ((IntKind.u64.wrap (n2)).tmod 64).toNat IntKind.u64.bits)))).toNat))) r r r r r<|nC r r r<|cK fun hq=>Qp r r r hq<|bD fun s_o6 hs_o6=>YG (q:=s_o6) (q':=IntKind.u64.wrap ((BitVec.ofInt IntKind.u64.bits s_e5 ||| BitVec.ofInt IntKind.u64.bits (IntKind.u64.wrap (1 * 2 ^ (Nat.min ((IntKind.u64.wrap (n2)).tmod 64).toNat IntKind.u64.bits)))).toNat)) (l:=s1.toList) (en:=TO) (j:=(IntKind.i64.wrap (n2.tdiv 64)).toNat) (z':=.agg [.int .u64 ((s1.set ((IntKind.i64.wrap (n2.tdiv 64)).toNat) (IntKind.u64.wrap ((BitVec.ofInt IntKind.u64.bits s_e5 ||| BitVec.ofInt IntKind.u64.bits (IntKind.u64.wrap (1 * 2 ^ (Nat.min ((IntKind.u64.wrap (n2)).tmod 64).toNat IntKind.u64.bits)))).toNat))).a0),.int .u64 ((s1.set ((IntKind.i64.wrap (n2.tdiv 64)).toNat) (IntKind.u64.wrap ((BitVec.ofInt IntKind.u64.bits s_e5 ||| BitVec.ofInt IntKind.u64.bits (IntKind.u64.wrap (1 * 2 ^ (Nat.min ((IntKind.u64.wrap (n2)).tmod 64).toNat IntKind.u64.bits)))).toNat))).a1),.int .u64 ((s1.set ((IntKind.i64.wrap (n2.tdiv 64)).toNat) (IntKind.u64.wrap ((BitVec.ofInt IntKind.u64.bits s_e5 ||| BitVec.ofInt IntKind.u64.bits (IntKind.u64.wrap (1 * 2 ^ (Nat.min ((IntKind.u64.wrap (n2)).tmod 64).toNat IntKind.u64.bits)))).toNat))).a2),.int .u64 ((s1.set ((IntKind.i64.wrap (n2.tdiv 64)).toNat) (IntKind.u64.wrap ((BitVec.ofInt IntKind.u64.bits s_e5 ||| BitVec.ofInt IntKind.u64.bits (IntKind.u64.wrap (1 * 2 ^ (Nat.min ((IntKind.u64.wrap (n2)).tmod 64).toNat IntKind.u64.bits)))).toNat))).a3),.int .u64 ((s1.set ((IntKind.i64.wrap (n2.tdiv 64)).toNat) (IntKind.u64.wrap ((BitVec.ofInt IntKind.u64.bits s_e5 ||| BitVec.ofInt IntKind.u64.bits (IntKind.u64.wrap (1 * 2 ^ (Nat.min ((IntKind.u64.wrap (n2)).tmod 64).toNat IntKind.u64.bits)))).toNat))).a4),.int .u64 ((s1.set ((IntKind.i64.wrap (n2.tdiv 64)).toNat) (IntKind.u64.wrap ((BitVec.ofInt IntKind.u64.bits s_e5 ||| BitVec.ofInt IntKind.u64.bits (IntKind.u64.wrap (1 * 2 ^ (Nat.min ((IntKind.u64.wrap (n2)).tmod 64).toNat IntKind.u64.bits)))).toNat))).a5),.int .u64 ((s1.set ((IntKind.i64.wrap (n2.tdiv 64)).toNat) (IntKind.u64.wrap ((BitVec.ofInt IntKind.u64.bits s_e5 ||| BitVec.ofInt IntKind.u64.bits (IntKind.u64.wrap (1 * 2 ^ (Nat.min ((IntKind.u64.wrap (n2)).tmod 64).toNat IntKind.u64.bits)))).toNat))).a6),.int .u64 ((s1.set ((IntKind.i64.wrap (n2.tdiv 64)).toNat) (IntKind.u64.wrap ((BitVec.ofInt IntKind.u64.bits s_e5 ||| BitVec.ofInt IntKind.u64.bits (IntKind.u64.wrap (1 * 2 ^ (Nat.min ((IntKind.u64.wrap (n2)).tmod 64).toNat IntKind.u64.bits)))).toNat))).a7)]) (by simp) r r r r r hs_o6 r r (congrArg (fun l=>D.agg (l.map TO)) (Ly s1 ((IntKind.i64.wrap (n2.tdiv 64)).toNat) (IntKind.u64.wrap ((BitVec.ofInt IntKind.u64.bits s_e5 ||| BitVec.ofInt IntKind.u64.bits (IntKind.u64.wrap (1 * 2 ^ (Nat.min ((IntKind.u64.wrap (n2)).tmod 64).toNat IntKind.u64.bits)))).toNat))).symm) r r<|Jz (by kernel_rfl)<|bM<|Nt (b:=(s1.set ((IntKind.i64.wrap (n2.tdiv 64)).toNat) (IntKind.u64.wrap ((BitVec.ofInt IntKind.u64.bits s_e5 ||| BitVec.ofInt IntKind.u64.bits (IntKind.u64.wrap (1 * 2 ^ (Nat.min ((IntKind.u64.wrap (n2)).tmod 64).toNat IntKind.u64.bits)))).toNat)))) r ?_ r r ?_ r (by decide)
   all_goals first|(simp;done)|(simp;omega)|rfl|(simp [Jk,Ji];done)
  ·refine rG<|mV r r<|mV r r<|bN (v:=.int .i64 (IntKind.i64.wrap (n2.tdiv 64))) r r r r ⟨rfl,(by decide)⟩<|nC r r r<|cK fun hq=>Qp r r r hq<|bD fun s_e7 hs_e7=>QQ (q:=s_e7) (l:=s1.toList) (en:=TO) (j:=(IntKind.i64.wrap (n2.tdiv 64)).toNat) (by simp) r r r hs_e7 r (fun _=>r)<|mV r r<|bN (v:=.int .u64 (IntKind.u64.wrap ((BitVec.ofInt IntKind.u64.bits s_e7 &&& ~~~ BitVec.ofInt IntKind.u64.bits (IntKind.u64.wrap (1 * 2 ^ (Nat.min ((IntKind.u64.wrap (n2)).tmod 64).toNat IntKind.u64.bits)))).toNat))) r r r r r<|nC r r r<|cK fun hq=>Qp r r r hq<|bD fun s_o8 hs_o8=>YG (q:=s_o8) (q':=IntKind.u64.wrap ((BitVec.ofInt IntKind.u64.bits s_e7 &&& ~~~ BitVec.ofInt IntKind.u64.bits (IntKind.u64.wrap (1 * 2 ^ (Nat.min ((IntKind.u64.wrap (n2)).tmod 64).toNat IntKind.u64.bits)))).toNat)) (l:=s1.toList) (en:=TO) (j:=(IntKind.i64.wrap (n2.tdiv 64)).toNat) (z':=.agg [.int .u64 ((s1.set ((IntKind.i64.wrap (n2.tdiv 64)).toNat) (IntKind.u64.wrap ((BitVec.ofInt IntKind.u64.bits s_e7 &&& ~~~ BitVec.ofInt IntKind.u64.bits (IntKind.u64.wrap (1 * 2 ^ (Nat.min ((IntKind.u64.wrap (n2)).tmod 64).toNat IntKind.u64.bits)))).toNat))).a0),.int .u64 ((s1.set ((IntKind.i64.wrap (n2.tdiv 64)).toNat) (IntKind.u64.wrap ((BitVec.ofInt IntKind.u64.bits s_e7 &&& ~~~ BitVec.ofInt IntKind.u64.bits (IntKind.u64.wrap (1 * 2 ^ (Nat.min ((IntKind.u64.wrap (n2)).tmod 64).toNat IntKind.u64.bits)))).toNat))).a1),.int .u64 ((s1.set ((IntKind.i64.wrap (n2.tdiv 64)).toNat) (IntKind.u64.wrap ((BitVec.ofInt IntKind.u64.bits s_e7 &&& ~~~ BitVec.ofInt IntKind.u64.bits (IntKind.u64.wrap (1 * 2 ^ (Nat.min ((IntKind.u64.wrap (n2)).tmod 64).toNat IntKind.u64.bits)))).toNat))).a2),.int .u64 ((s1.set ((IntKind.i64.wrap (n2.tdiv 64)).toNat) (IntKind.u64.wrap ((BitVec.ofInt IntKind.u64.bits s_e7 &&& ~~~ BitVec.ofInt IntKind.u64.bits (IntKind.u64.wrap (1 * 2 ^ (Nat.min ((IntKind.u64.wrap (n2)).tmod 64).toNat IntKind.u64.bits)))).toNat))).a3),.int .u64 ((s1.set ((IntKind.i64.wrap (n2.tdiv 64)).toNat) (IntKind.u64.wrap ((BitVec.ofInt IntKind.u64.bits s_e7 &&& ~~~ BitVec.ofInt IntKind.u64.bits (IntKind.u64.wrap (1 * 2 ^ (Nat.min ((IntKind.u64.wrap (n2)).tmod 64).toNat IntKind.u64.bits)))).toNat))).a4),.int .u64 ((s1.set ((IntKind.i64.wrap (n2.tdiv 64)).toNat) (IntKind.u64.wrap ((BitVec.ofInt IntKind.u64.bits s_e7 &&& ~~~ BitVec.ofInt IntKind.u64.bits (IntKind.u64.wrap (1 * 2 ^ (Nat.min ((IntKind.u64.wrap (n2)).tmod 64).toNat IntKind.u64.bits)))).toNat))).a5),.int .u64 ((s1.set ((IntKind.i64.wrap (n2.tdiv 64)).toNat) (IntKind.u64.wrap ((BitVec.ofInt IntKind.u64.bits s_e7 &&& ~~~ BitVec.ofInt IntKind.u64.bits (IntKind.u64.wrap (1 * 2 ^ (Nat.min ((IntKind.u64.wrap (n2)).tmod 64).toNat IntKind.u64.bits)))).toNat))).a6),.int .u64 ((s1.set ((IntKind.i64.wrap (n2.tdiv 64)).toNat) (IntKind.u64.wrap ((BitVec.ofInt IntKind.u64.bits s_e7 &&& ~~~ BitVec.ofInt IntKind.u64.bits (IntKind.u64.wrap (1 * 2 ^ (Nat.min ((IntKind.u64.wrap (n2)).tmod 64).toNat IntKind.u64.bits)))).toNat))).a7)]) (by simp) r r r r r hs_o8 r r (congrArg (fun l=>D.agg (l.map TO)) (Ly s1 ((IntKind.i64.wrap (n2.tdiv 64)).toNat) (IntKind.u64.wrap ((BitVec.ofInt IntKind.u64.bits s_e7 &&& ~~~ BitVec.ofInt IntKind.u64.bits (IntKind.u64.wrap (1 * 2 ^ (Nat.min ((IntKind.u64.wrap (n2)).tmod 64).toNat IntKind.u64.bits)))).toNat))).symm) r r<|Jz (by kernel_rfl)<|bM<|Nt (b:=(s1.set ((IntKind.i64.wrap (n2.tdiv 64)).toNat) (IntKind.u64.wrap ((BitVec.ofInt IntKind.u64.bits s_e7 &&& ~~~ BitVec.ofInt IntKind.u64.bits (IntKind.u64.wrap (1 * 2 ^ (Nat.min ((IntKind.u64.wrap (n2)).tmod 64).toNat IntKind.u64.bits)))).toNat)))) r ?_ r r ?_ r (by decide)
   all_goals first|(simp;done)|(simp;omega)|rfl|(simp [Jk,Ji];done)

def AfL : Jt:=(.seq (.reg [P 2 (.asg (.c .top) none)] false) (.seq (.reg [P 6 (.bld [(.int .u64 0),(.int .u64 0),(.int .u64 0),(.int .u64 0),(.int .u64 0),(.int .u64 0),(.int .u64 0),(.int .u64 0)] []),P 7 (.box (T 6) 8 120),P 3 (.asg (T 7) none)] false) (.seq (.seq (.reg [M 8 0,P 9 (.len false (T 8)),P 10 (.mv (C 0))] false) (.block 0 (.loop (.seq (.reg [P 11 (.bin .lss (T 10) (T 9))] false) (.seq (.cond (T 11) .skip (.exit 0)) (.seq (.block 1 (.seq (.reg [P 12 (.ixA 1 (T 8) (T 10)),P 13 (.ld 1 false (T 12)),P 5 (.asg (T 13) none)] false) (.reg [M 14 3,M 15 5,P 16 (.call (.c (.clo 97 [])) [(T 14),(T 15),(.c (.bool true))])] false))) (.reg [P 17 (.bin .add (T 10) (C 1)),M 10 17] false))))))) (.seq (.reg [M 18 3,P 2 (.asg (T 18) none)] false) .ret))))
theorem Ajh : (Tryd.f86.body.bind (Ju Tryd.prog Tryd.f86.ntmps)) = some AfL:=by kernel_rfl
theorem Aji : Tryd.f86.results.toList.mapM (JE Tryd.prog) = some [(.t 2)]:=by kernel_rfl
def SS (a : (List Int)) : List D:=[.sl (a.map Jc)]
def SR (ds : List D) : (List Int):=(uL uI) (ds.getD 0 .top)
theorem LY (a : (List Int)) : SR (SS a) = a:=by simp [SR,SS,KE (u:=uI) (en:=Jc) (fun _=>rfl)]
def Yv (b : Jf) : D:=JO b
def Yu (_b : Jf) : List D:=[]
noncomputable def Ld : Dw.Spec:=Js [] (.ptr 8 120) SS SR (fun a=>KX a) Yv Yu
set_option maxHeartbeats 4000000 in
theorem QA : Jr Tryd.prog 86 Ld:=by
 refine JA (Jw (l:=[(97,Mx)]) (by simp [Uc])) Tryd.func86 (by decide) Ajh Aji (np:=1) (by decide) LY (fun _=>r) (fun _=>r) (by decide)<|?_
 intro l1
 show TrE (specs [(97,Mx)]) AfL (JH [] (.ptr 8 120) [(.t 2)] Yv Yu) ⟨[(0,.sl (l1.map Jc))],[],262144⟩ (KX l1)
 refine Jv<|?_
 unfold AfL KX
 refine sQ<|rG<|aS r r<|nI<|xS<|sQ<|rG<|bL (cs:=[.int .u64 0,.int .u64 0,.int .u64 0,.int .u64 0,.int .u64 0,.int .u64 0,.int .u64 0,.int .u64 0]) (ps:=[]) r r r r<|bX r r r r r<|aS r r<|nI<|xS<|sQ<|sQ<|rG<|mV r r<|lS r r<|mV r r<|nI<|xS<|bK<|lP (E:=fun (s : Jf × Int) (g : Nat)=>[(3,.optr 7 g 0 0),(8,.sl (l1.map Jc)),(9,.int .i64 (l1.length : Int)),(10,.int .i64 s.2)]) (O:=fun s g=>[(7,some (g,⟨false,true,8,120,[.agg [.int .u64 s.1.a0,.int .u64 s.1.a1,.int .u64 s.1.a2,.int .u64 s.1.a3,.int .u64 s.1.a4,.int .u64 s.1.a5,.int .u64 s.1.a6,.int .u64 s.1.a7]]⟩))]) (body:=fun s=>Qz l1 s.1 s.2) (s:=((Jf.mk 0 0 0 0 0 0 0 0),0)) _ ((hE ⟨rfl,r,r,r,trivial⟩ ⟨rfl,trivial⟩))<|?_
 rintro ⟨x2,x3⟩ v7x1 nn
 try dsimp only
 unfold Qz
 refine sQ<|rG<|bN (v:=.bool (decide (x3 < (l1.length : Int)))) r r r r r<|nI<|xS<|sQ<|cD (c:=(decide (x3 < (l1.length : Int)))) r ?_ ?_
 ·exact sK<|xS<|sQ<|bK<|sQ<|rG<|bD fun x_x4 hx_x4=>iS (en:=Jc) r r r hx_x4 r<|lF (v:=.int .i64 x_x4) r r r r<|aS r r<|nI<|xS<|rG<|mV r r<|mV r r<|bD fun r5 hr5=>cV (x2,x_x4,true) r r r PX r r (by simp) r hr5<|nI<|bM<|xS<|rG<|bN (v:=.int .i64 (IntKind.i64.wrap (x3 + 1))) r r r r r<|mV r r<|nI<|xL (s:=(r5,IntKind.i64.wrap (x3 + 1))) _ ((hE ⟨rfl,r,r,r,trivial⟩ ⟨rfl,trivial⟩))
 ·refine eT<|xE<|lE<|bH<|xS<|sQ<|rG<|mV r r<|aS r r<|nI<|xS<|rT<|AaH (b:=x2) r ?_ r ?_ r r ?_ r
  all_goals first|(simp;done)|(simp;omega)|rfl|(simp [Jk,Ji];done)

def AfN : Jt:=(.seq (.reg [⟨(some 2),(.asg (.c .nils) (some ⟨1,3⟩)),none,[]⟩] false) (.seq (.reg [⟨(some 3),(.asg (.c .nils) (some ⟨1,3⟩)),none,[]⟩] false) (.seq (.seq (.reg [M 6 0,P 7 (.mv (C 0))] false) (.block 0 (.loop (.seq (.reg [P 8 (.bin .lss (T 7) (C 8))] false) (.seq (.cond (T 8) .skip (.exit 0)) (.seq (.block 1 (.seq (.reg [M 9 7,P 10 (.nilck (T 6)),⟨(some 11),(.ixP 1 8 (T 10) (T 7)),none,[1]⟩,⟨(some 12),(.ld 1 false (T 11)),none,[2]⟩,⟨(some 4),(.asg (T 9) none),none,[0,0]⟩,⟨(some 5),(.asg (T 12) none),none,[3,4,0,1,2,3,4]⟩] true) (.block 2 (.loop (.seq (.seq (.reg [M 13 5,P 14 (.bin .neq (T 13) (.c (.int .u64 0)))] false) (.cond (T 14) .skip (.exit 2))) (.seq (.block 3 (.reg [M 19 3,M 20 4,P 21 (.bin .mul (C 64) (T 20)),M 22 5,P 23 (.call (.c (.clo 98 [])) [(T 22)]),P 24 (.bin .add (T 21) (T 23)),⟨(some 25),(.bldS 1 3 (.int .i64 0) 1 [⟨0,(T 24)⟩]),none,[]⟩,P 26 (.app 1 3 8 (T 19) (T 25)),⟨(some 3),(.asg (T 26) (some ⟨1,3⟩)),none,[]⟩] false)) (.reg [M 15 5,M 16 5,P 17 (.bin .sub (T 16) (.c (.int .u64 1))),P 18 (.bin .and (T 15) (T 17)),P 5 (.asg (T 18) none)] false))))))) (.reg [P 27 (.bin .add (T 7) (C 1)),M 7 27] false))))))) (.seq (.reg [M 28 3,⟨(some 2),(.asg (T 28) (some ⟨1,3⟩)),none,[]⟩] false) .ret))))
theorem Ajl : (Tryd.f89.body.bind (Ju Tryd.prog Tryd.f89.ntmps)) = some AfN:=by kernel_rfl
theorem Ajm : Tryd.f89.results.toList.mapM (JE Tryd.prog) = some [(.t 2)]:=by kernel_rfl
def OQ (a : Jf) : List D:=[JO a]
def OP (ds : List D) : Jf:=Lu (ds.getD 0 .top)
theorem LP (a : Jf) : OP (OQ a) = a:=by simp [OP,OQ]
def Ub (b : (List Int) × Jf) : D:=.sl (b.1.map Jc)
def Ua (b : (List Int) × Jf) : List D:=[JO b.2]
noncomputable def Kg : Dw.Spec:=Js [(0,(8,120))] (.row 1 3) OQ OP (fun a=>Ko a) Ub Ua
set_option maxHeartbeats 4000000 in
theorem Nq : Jr Tryd.prog 89 Kg:=by
 refine JA (Jw (l:=[(98,AbF)]) (by simp [AgG])) Tryd.func89 (by decide) Ajl Ajm (np:=1) (by decide) LP (fun _=>r) (fun _=>r) (by decide)<|?_
 intro s1
 show TrE (specs [(98,AbF)]) AfN (JH [(0,(8,120))] (.row 1 3) [(.t 2)] Ub Ua) ⟨[(0,.optr 8192 0 0 0)],[(8192,some (0,⟨false,true,8,120,[.agg [.int .u64 s1.a0,.int .u64 s1.a1,.int .u64 s1.a2,.int .u64 s1.a3,.int .u64 s1.a4,.int .u64 s1.a5,.int .u64 s1.a6,.int .u64 s1.a7]]⟩))],262144⟩ (Ko s1)
 refine Jv<|?_
 unfold AfN Ko
 refine sQ<|rG<|aN (α:=Int) r Jc r<|nI<|xS<|sQ<|rG<|aN (α:=Int) r Jc r<|nI<|xS<|sQ<|sQ<|rG<|mV r r<|mV r r<|nI<|xS<|bK<|lP (E:=fun (s : (List Int) × Int) (g : Nat)=>[(3,.osl 3 g 0 s.1.length),(6,.optr 8192 0 0 0),(7,.int .i64 s.2)]) (O:=fun s g=>[(3,some (g,⟨false,false,1,3,s.1.map Jc⟩)),(8192,some (0,⟨false,true,8,120,[.agg [.int .u64 s1.a0,.int .u64 s1.a1,.int .u64 s1.a2,.int .u64 s1.a3,.int .u64 s1.a4,.int .u64 s1.a5,.int .u64 s1.a6,.int .u64 s1.a7]]⟩))]) (body:=fun s=>Nn s1 s.1 s.2) (s:=(([] : List Int),0)) _ ((hE ⟨rfl,r,r,trivial⟩ ⟨rfl,r,trivial⟩))<|?_
 rintro ⟨l2,x3⟩ v3x1 nn
 try dsimp only
 unfold Nn
 refine sQ<|rG<|bN (v:=.bool (decide (x3 < 8))) r r r r r<|nI<|xS<|sQ<|cD (c:=(decide (x3 < 8))) r ?_ ?_
 ·refine sK<|xS<|sQ<|bK<|sQ<|rG<|mV r r<|nC r r r<|cK fun hq=>Qp r r r hq<|bD fun s_e4 hs_e4=>QQ (q:=s_e4) (l:=s1.toList) (en:=TO) (j:=x3.toNat) (by simp) r r r hs_e4 r (fun _=>r)<|aS r r<|aS r r<|Jz (by kernel_rfl)<|xS<|bK<|lP (E:=fun (s : (List Int) × Int) (g : Nat)=>[(3,.osl 3 g 0 s.1.length),(4,.int .i64 x3),(5,.int .u64 s.2),(6,.optr 8192 0 0 0),(7,.int .i64 x3)]) (O:=fun s g=>[(3,some (g,⟨false,false,1,3,s.1.map Jc⟩)),(8192,some (0,⟨false,true,8,120,[.agg [.int .u64 s1.a0,.int .u64 s1.a1,.int .u64 s1.a2,.int .u64 s1.a3,.int .u64 s1.a4,.int .u64 s1.a5,.int .u64 s1.a6,.int .u64 s1.a7]]⟩))]) (body:=fun s=>Np x3 s.1 s.2) (s:=(l2,s_e4)) _ ((hE ⟨rfl,r,r,r,r,trivial⟩ ⟨rfl,r,trivial⟩))<|?_
  rintro ⟨l5,x6⟩ v3x2 nn
  try dsimp only
  unfold Np
  refine sQ<|sQ<|rG<|mV r r<|bN (v:=.bool (x6 != 0)) r r r r r<|nI<|xS<|cD (c:=(x6 != 0)) r ?_ ?_
  ·exact sK<|xS<|sQ<|bK<|rG<|mV r r<|mV r r<|bN (v:=.int .i64 (IntKind.i64.wrap (64 * x3))) r r r r r<|mV r r<|bD fun r7 hr7=>cG x6 r r r AdD r r (by simp) r hr7 r<|bN (v:=.int .i64 (IntKind.i64.wrap ((IntKind.i64.wrap (64 * x3)) + r7))) r r r r r<|bS ([IntKind.i64.wrap ((IntKind.i64.wrap (64 * x3)) + r7)] : List Int) Jc r r r (by simp) r r r<|cK fun hq=>aP (l5) (([IntKind.i64.wrap ((IntKind.i64.wrap (64 * x3)) + r7)] : List Int)) Jc r r r r r r r (by simp) (JI _ _ r) r r (by simp) (Jl _ _ r) (fun _=>r) r hq<|aO (l:=l5 ++ ([IntKind.i64.wrap ((IntKind.i64.wrap (64 * x3)) + r7)] : List Int)) (en:=Jc) r r r r<|nI<|bM<|xS<|rG<|mV r r<|mV r r<|bN (v:=.int .u64 (IntKind.u64.wrap (x6 - 1))) r r r r r<|bN (v:=.int .u64 (IntKind.u64.wrap ((BitVec.ofInt IntKind.u64.bits x6 &&& BitVec.ofInt IntKind.u64.bits (IntKind.u64.wrap (x6 - 1))).toNat))) r r r r r<|aS r r<|nI<|xL (s:=(l5 ++ ([IntKind.i64.wrap ((IntKind.i64.wrap (64 * x3)) + r7)] : List Int),IntKind.u64.wrap ((BitVec.ofInt IntKind.u64.bits x6 &&& BitVec.ofInt IntKind.u64.bits (IntKind.u64.wrap (x6 - 1))).toNat))) _ ((hE ⟨rfl,r,r,r,r,trivial⟩ ⟨rfl,r,trivial⟩))
  ·exact eT<|xE<|lE<|bH<|bM<|xS<|rG<|bN (v:=.int .i64 (IntKind.i64.wrap (x3 + 1))) r r r r r<|mV r r<|nI<|xL (s:=(l5,IntKind.i64.wrap (x3 + 1))) _ ((hE ⟨rfl,r,r,trivial⟩ ⟨rfl,r,trivial⟩))
 ·refine eT<|xE<|lE<|bH<|xS<|sQ<|rG<|mV r r<|aO (l:=l2) (en:=Jc) r r r r<|nI<|xS<|rT<|JN (b:=(l2,s1)) r ?_ r r ?_ r ?_ (congrArg D.sl (Jl _ _ r)) r
  all_goals first|(simp;done)|(simp;omega)|rfl|(simp [Jk,Ji];done)

def AfQ : Jt:=(.seq (.reg [⟨(some 4),(.asg (.c .nils) (some ⟨1,3⟩)),none,[]⟩] false) (.seq (.reg [M 6 0,P 7 (.call (.c (.clo 86 [])) [(T 6)]),P 5 (.asg (T 7) none)] false) (.seq (.reg [M 8 5,M 9 1,P 10 (.call (.c (.clo 97 [])) [(T 8),(T 9),(.c (.bool false))])] false) (.seq (.reg [M 11 5,P 12 (.call (.c (.clo 89 [])) [(T 11)]),⟨(some 4),(.asg (T 12) (some ⟨1,3⟩)),none,[]⟩] false) .ret))))
theorem Ajr : (Tryd.f94.body.bind (Ju Tryd.prog Tryd.f94.ntmps)) = some AfQ:=by kernel_rfl
theorem Ajs : Tryd.f94.results.toList.mapM (JE Tryd.prog) = some [(.t 4)]:=by kernel_rfl
def SQ (a : (List Int) × Int) : List D:=[.sl (a.1.map Jc),.int .i64 a.2]
def SP (ds : List D) : (List Int) × Int:=((uL uI) (ds.getD 0 .top),uI (ds.getD 1 .top))
theorem XH (a : (List Int) × Int) : SP (SQ a) = a:=by simp [SP,SQ,uI,KE (u:=uI) (en:=Jc) (fun _=>rfl)]
def Uq (b : (List Int)) : D:=.sl (b.map Jc)
def Ys (_b : (List Int)) : List D:=[]
noncomputable def Ur : Dw.Spec:=Js [] .val SQ SP (fun a=>NV a.1 a.2) Uq Ys
set_option maxHeartbeats 4000000 in
theorem Abh : Jr Tryd.prog 94 Ur:=by
 refine JA (Jw (l:=[(86,Ld),(97,Mx),(89,Kg)]) (by simp [QA,Uc,Nq])) Tryd.func94 (by decide) Ajr Ajs (np:=2) (by decide) XH (fun _=>r) (fun _=>r) (by decide)<|?_
 rintro ⟨s1,n2⟩
 show TrE (specs [(86,Ld),(97,Mx),(89,Kg)]) AfQ (JH [] .val [(.t 4)] Uq Ys) ⟨[(0,.sl (s1.map Jc)),(1,.int .i64 n2)],[],262144⟩ (NV s1 n2)
 refine Jv<|?_
 unfold AfQ NV
 refine sQ<|rG<|aN (α:=Int) r Jc r<|nI<|xS<|sQ<|rG<|mV r r<|bD fun r3 hr3=>cP s1 r r r LY r r (by simp) r hr3<|aS r r<|nI<|xS<|sQ<|rG<|mV r r<|mV r r<|bD fun r4 hr4=>cV (r3,n2,false) r r r PX r r (by simp) r hr4<|nI<|xS<|sQ<|rG<|mV r r<|bD fun r5 hr5=>cR (l:=r5.1) (en:=Jc) r4 r r r LP r r (by simp) r hr5 r<|aO (l:=r5.1) (en:=Jc) r r r r<|nI<|xS<|rT<|JY (b:=r5.1) r ?_ r r ?_ (by first | rfl | (simp only [JC,JJ]; rfl) | simp [Uq])
 all_goals first|(simp;done)|(simp;omega)|rfl|(simp [Jk,Ji];done)

def AfS : Jt:=(.seq (.reg [P 1 (.box (T 0) 5 57),⟨(some 2),(.asg (.c .nils) (some ⟨1,3⟩)),none,[]⟩] false) (.seq (.seq (.reg [P 3 (.fldA 0 (T 1)),P 4 (.ld 1 false (T 3))] false) (.block 0 (.seq (.seq (.reg [P 6 (.bin .eql (T 4) (C 15)),P 5 (.asg (T 6) none)] false) (.cond (T 5) .skip (.reg [P 7 (.bin .eql (T 4) (C 17)),P 5 (.asg (T 7) none)] false))) (.cond (T 5) (.seq (.reg [P 8 (.fldA 2 (T 1)),P 9 (.ld 1 false (T 8)),⟨(some 10),(.bldS 1 3 (.int .i64 0) 1 [⟨0,(T 9)⟩]),none,[]⟩,⟨(some 2),(.asg (T 10) (some ⟨1,3⟩)),none,[]⟩] false) .ret) .skip)))) (.seq (.reg [⟨(some 2),(.asg (.c .nils) (some ⟨1,3⟩)),none,[]⟩] false) .ret)))
theorem Ajv : (Tryd.f96.body.bind (Ju Tryd.prog Tryd.f96.ntmps)) = some AfS:=by kernel_rfl
theorem Ajw : Tryd.f96.results.toList.mapM (JE Tryd.prog) = some [(.t 2)]:=by kernel_rfl
def UB (a : Je) : List D:=[Jg a]
def UA (ds : List D) : Je:=Qr (ds.getD 0 .top)
theorem Vq (a : Je) : UA (UB a) = a:=by simp [UA,UB]
def ZG (b : (List Int)) : D:=.sl (b.map Jc)
def ZF (_b : (List Int)) : List D:=[]
noncomputable def WD : Dw.Spec:=Js [] (.row 1 3) UB UA (fun a=>PE a) ZG ZF
set_option maxHeartbeats 4000000 in
theorem AbK : Jr Tryd.prog 96 WD:=by
 refine JA (JW) Tryd.func96 (by decide) Ajv Ajw (np:=1) (by decide) Vq (fun _=>r) (fun _=>r) (by decide)<|?_
 intro x1
 show TrE (specs []) AfS (JH [] (.row 1 3) [(.t 2)] ZG ZF) ⟨[(0,.agg [.int .i64 x1.Op,.int .i64 x1.A,.int .i64 x1.B,.int .i64 x1.C,.int .u64 x1.Imm])],[],262144⟩ (PE x1)
 refine Jv<|?_
 unfold AfS PE
 refine sQ<|rG<|bX r r r r r<|aN (α:=Int) r Jc r<|nI<|xS<|sQ<|sQ<|rG<|fA r r<|lO (v:=.int .i64 x1.Op) (z:=.agg [.int .i64 x1.Op,.int .i64 x1.A,.int .i64 x1.B,.int .i64 x1.C,.int .u64 x1.Imm]) r r r r r r<|nI<|xS<|bK<|sQ<|sQ<|rG<|bN (v:=.bool (x1.Op == 15)) r r r r r<|aS r r<|nI<|xS<|cD (c:=(x1.Op == 15)) r ?_ ?_
 ·refine sK<|xS<|cD (c:=(x1.Op == 15)) r ?_ ?_
  ·refine sQ<|rG<|fA r r<|lO (v:=.int .i64 x1.B) (z:=.agg [.int .i64 x1.Op,.int .i64 x1.A,.int .i64 x1.B,.int .i64 x1.C,.int .u64 x1.Imm]) r r r r r r<|bS ([x1.B] : List Int) Jc r r r (by simp) r r r<|aO (l:=([x1.B] : List Int)) (en:=Jc) r r r r<|nI<|xS<|rT<|bR<|xR<|JN (b:=([x1.B] : List Int)) r ?_ r r ?_ r ?_ (congrArg D.sl (Jl _ _ r)) r
   all_goals first|(simp;done)|(simp;omega)|rfl|(simp [Jk,Ji];done)
  ·refine sK<|bM<|xS<|sQ<|rG<|aN (α:=Int) r Jc r<|nI<|xS<|rT<|JN (b:=([] : List Int)) r ?_ r r ?_ r ?_ (congrArg D.sl (Jl _ _ r)) r
   all_goals first|(simp;done)|(simp;omega)|rfl|(simp [Jk,Ji];done)
 ·refine rG<|bN (v:=.bool (x1.Op == 17)) r r r r r<|aS r r<|nI<|xS<|cD (c:=(x1.Op == 17)) r ?_ ?_
  ·refine sQ<|rG<|fA r r<|lO (v:=.int .i64 x1.B) (z:=.agg [.int .i64 x1.Op,.int .i64 x1.A,.int .i64 x1.B,.int .i64 x1.C,.int .u64 x1.Imm]) r r r r r r<|bS ([x1.B] : List Int) Jc r r r (by simp) r r r<|aO (l:=([x1.B] : List Int)) (en:=Jc) r r r r<|nI<|xS<|rT<|bR<|xR<|JN (b:=([x1.B] : List Int)) r ?_ r r ?_ r ?_ (congrArg D.sl (Jl _ _ r)) r
   all_goals first|(simp;done)|(simp;omega)|rfl|(simp [Jk,Ji];done)
  ·refine sK<|bM<|xS<|sQ<|rG<|aN (α:=Int) r Jc r<|nI<|xS<|rT<|JN (b:=([] : List Int)) r ?_ r r ?_ r ?_ (congrArg D.sl (Jl _ _ r)) r
   all_goals first|(simp;done)|(simp;omega)|rfl|(simp [Jk,Ji];done)

def AfR : Jt:=(.seq (.reg [⟨(some 2),(.asg (.c .nils) (some ⟨1,3⟩)),none,[]⟩] false) (.seq (.reg [M 3 0,P 4 (.call (.c (.clo 86 [])) [(T 3)]),P 5 (.call (.c (.clo 89 [])) [(T 4)]),⟨(some 2),(.asg (T 5) (some ⟨1,3⟩)),none,[]⟩] false) .ret))
theorem Ajt : (Tryd.f95.body.bind (Ju Tryd.prog Tryd.f95.ntmps)) = some AfR:=by kernel_rfl
theorem Aju : Tryd.f95.results.toList.mapM (JE Tryd.prog) = some [(.t 2)]:=by kernel_rfl
def QV (a : (List Int)) : List D:=[.sl (a.map Jc)]
def WA (ds : List D) : (List Int):=(uL uI) (ds.getD 0 .top)
theorem XG (a : (List Int)) : WA (QV a) = a:=by simp [WA,QV,KE (u:=uI) (en:=Jc) (fun _=>rfl)]
def AaQ (b : (List Int)) : D:=.sl (b.map Jc)
def AaP (_b : (List Int)) : List D:=[]
noncomputable def YH : Dw.Spec:=Js [] (.row 1 3) QV WA (fun a=>Qs a) AaQ AaP
set_option maxHeartbeats 4000000 in
theorem AcC : Jr Tryd.prog 95 YH:=by
 refine JA (Jw (l:=[(86,Ld),(89,Kg)]) (by simp [QA,Nq])) Tryd.func95 (by decide) Ajt Aju (np:=1) (by decide) XG (fun _=>r) (fun _=>r) (by decide)<|?_
 intro l1
 show TrE (specs [(86,Ld),(89,Kg)]) AfR (JH [] (.row 1 3) [(.t 2)] AaQ AaP) ⟨[(0,.sl (l1.map Jc))],[],262144⟩ (Qs l1)
 refine Jv<|?_
 unfold AfR Qs
 refine sQ<|rG<|aN (α:=Int) r Jc r<|nI<|xS<|sQ<|rG<|mV r r<|bD fun r2 hr2=>cP l1 r r r LY r r (by simp) r hr2<|bD fun r3 hr3=>cR (l:=r3.1) (en:=Jc) r2 r r r LP r r (by simp) r hr3 r<|aO (l:=r3.1) (en:=Jc) r r r r<|nI<|xS<|rT<|JN (b:=r3.1) r ?_ r r ?_ r ?_ (congrArg D.sl (Jl _ _ r)) r
 all_goals first|(simp;done)|(simp;omega)|rfl|(simp [Jk,Ji];done)

def AfM : Jt:=(.seq (.reg [P 4 (.asg (.c (.int .u64 0)) none)] false) (.seq (.reg [M 5 0,M 6 1,P 7 (.bin .or (T 5) (T 6)),P 4 (.asg (T 7) none)] false) .ret))
theorem Ajj : (Tryd.f88.body.bind (Ju Tryd.prog Tryd.f88.ntmps)) = some AfM:=by kernel_rfl
theorem Ajk : Tryd.f88.results.toList.mapM (JE Tryd.prog) = some [(.t 4)]:=by kernel_rfl
def RX (a : Int × Int) : List D:=[.int .u64 a.1,.int .u64 a.2]
def RW (ds : List D) : Int × Int:=(uI (ds.getD 0 .top),uI (ds.getD 1 .top))
theorem WS (a : Int × Int) : RW (RX a) = a:=by simp [RW,RX,uI]
def XJ (b : Int) : D:=.int .u64 b
def XI (_b : Int) : List D:=[]
noncomputable def TI : Dw.Spec:=Js [] .ground RX RW (fun a=>Ot a.1 a.2) XJ XI
set_option maxHeartbeats 4000000 in
theorem AaL : Jr Tryd.prog 88 TI:=by
 refine JA (JW) Tryd.func88 (by decide) Ajj Ajk (np:=2) (by decide) WS (fun _=>r) (fun _=>r) (by decide)<|?_
 rintro ⟨x1,y2⟩
 show TrE (specs []) AfM (JH [] .ground [(.t 4)] XJ XI) ⟨[(0,.int .u64 x1),(1,.int .u64 y2)],[],262144⟩ (Ot x1 y2)
 refine Jv<|?_
 unfold AfM Ot
 refine sQ<|rG<|aS r r<|nI<|xS<|sQ<|rG<|mV r r<|mV r r<|bN (v:=.int .u64 (IntKind.u64.wrap ((BitVec.ofInt IntKind.u64.bits x1 ||| BitVec.ofInt IntKind.u64.bits y2).toNat))) r r r r r<|aS r r<|nI<|xS<|rT<|Jo (b:=IntKind.u64.wrap ((BitVec.ofInt IntKind.u64.bits x1 ||| BitVec.ofInt IntKind.u64.bits y2).toNat)) r ?_ r r ?_ r
 all_goals first|(simp;done)|(simp;omega)|rfl|(simp [Jk,Ji];done)

def AcK : Jt:=(.seq (.reg [P 6 (.asg (.c .top) none)] false) (.seq (.reg [P 9 (.bld [(.int .u64 0),(.int .u64 0),(.int .u64 0),(.int .u64 0),(.int .u64 0),(.int .u64 0),(.int .u64 0),(.int .u64 0)] []),P 10 (.box (T 9) 8 120),P 7 (.asg (T 10) none)] false) (.seq (.seq (.reg [P 11 (.mv (C 0))] false) (.block 0 (.loop (.seq (.reg [P 12 (.bin .lss (T 11) (C 8))] false) (.seq (.cond (T 12) .skip (.exit 0)) (.seq (.block 1 (.seq (.reg [M 13 11,P 8 (.asg (T 13) none)] false) (.reg [M 14 7,M 15 8,M 16 2,M 17 0,M 18 8,⟨(some 19),(.nilck (T 17)),none,[3]⟩,⟨(some 20),(.ixP 1 8 (T 19) (T 18)),none,[5,4]⟩,⟨(some 21),(.ld 1 false (T 20)),none,[6]⟩,M 22 1,M 23 8,⟨(some 24),(.nilck (T 22)),none,[8]⟩,⟨(some 25),(.ixP 1 8 (T 24) (T 23)),none,[10,9]⟩,⟨(some 26),(.ld 1 false (T 25)),none,[11]⟩,⟨(some 27),(.call (T 16) [(T 21),(T 26)]),none,[2,7,12]⟩,⟨(some 28),(.nilck (T 14)),none,[0]⟩,⟨(some 29),(.ixP 1 8 (T 28) (T 15)),none,[14,1,0,1,2,3,4,5,6,7,8,9,10,11,12,13]⟩,⟨none,(.st 1 (T 29) (T 27)),none,[15,13,13,0,1,2,3,4,5,6,7,8,9,10,11,12,13]⟩] true))) (.reg [P 30 (.bin .add (T 11) (C 1)),M 11 30] false))))))) (.seq (.reg [M 31 7,P 6 (.asg (T 31) none)] false) .ret))))
theorem Aea : (Tryd.f87.body.bind (Ju Tryd.prog Tryd.f87.ntmps)) = some AcK:=by kernel_rfl
theorem Aeb : Tryd.f87.results.toList.mapM (JE Tryd.prog) = some [(.t 6)]:=by kernel_rfl
def Mr (a : Jf × Jf) : List D:=[JO a.1,JO a.2,.clo 88 []]
def Mq (ds : List D) : Jf × Jf:=(Lu (ds.getD 0 .top),Lu (ds.getD 1 .top))
theorem Pf (a : Jf × Jf) : Mq (Mr a) = a:=by simp [Mq,Mr]
def PO (b : Jf × Jf × Jf) : D:=JO b.1
def PN (b : Jf × Jf × Jf) : List D:=[JO b.2.1,JO b.2.2]
noncomputable def Lo : Dw.Spec:=Js [(0,(8,120)),(1,(8,120))] (.ptr 8 120) Mr Mq (fun a=>Kr a.1 a.2) PO PN
set_option maxHeartbeats 4000000 in
theorem Uv : Jr Tryd.prog 87 Lo:=by
 refine JA (Jw (l:=[(88,TI)]) (by simp [AaL])) Tryd.func87 (by decide) Aea Aeb (np:=3) (by decide) Pf (fun _=>r) (fun _=>r) (by decide)<|?_
 rintro ⟨s1,t2⟩
 show TrE (specs [(88,TI)]) AcK (JH [(0,(8,120)),(1,(8,120))] (.ptr 8 120) [(.t 6)] PO PN) ⟨[(0,.optr 8192 0 0 0),(1,.optr 8193 1 0 0),(2,.clo 88 [])],[(8192,some (0,⟨false,true,8,120,[.agg [.int .u64 s1.a0,.int .u64 s1.a1,.int .u64 s1.a2,.int .u64 s1.a3,.int .u64 s1.a4,.int .u64 s1.a5,.int .u64 s1.a6,.int .u64 s1.a7]]⟩)),(8193,some (1,⟨false,true,8,120,[.agg [.int .u64 t2.a0,.int .u64 t2.a1,.int .u64 t2.a2,.int .u64 t2.a3,.int .u64 t2.a4,.int .u64 t2.a5,.int .u64 t2.a6,.int .u64 t2.a7]]⟩))],262144⟩ (Kr s1 t2)
 refine Jv<|?_
 unfold AcK Kr
 refine sQ<|rG<|aS r r<|nI<|xS<|sQ<|rG<|bL (cs:=[.int .u64 0,.int .u64 0,.int .u64 0,.int .u64 0,.int .u64 0,.int .u64 0,.int .u64 0,.int .u64 0]) (ps:=[]) r r r r<|bX r r r r r<|aS r r<|nI<|xS<|sQ<|sQ<|rG<|mV r r<|nI<|xS<|bK<|lP (E:=fun (s : Jf × Int) (g : Nat)=>[(0,.optr 8192 0 0 0),(1,.optr 8193 1 0 0),(2,.clo 88 []),(7,.optr 10 g 0 0),(11,.int .i64 s.2)]) (O:=fun s g=>[(10,some (g,⟨false,true,8,120,[.agg [.int .u64 s.1.a0,.int .u64 s.1.a1,.int .u64 s.1.a2,.int .u64 s.1.a3,.int .u64 s.1.a4,.int .u64 s.1.a5,.int .u64 s.1.a6,.int .u64 s.1.a7]]⟩)),(8192,some (0,⟨false,true,8,120,[.agg [.int .u64 s1.a0,.int .u64 s1.a1,.int .u64 s1.a2,.int .u64 s1.a3,.int .u64 s1.a4,.int .u64 s1.a5,.int .u64 s1.a6,.int .u64 s1.a7]]⟩)),(8193,some (1,⟨false,true,8,120,[.agg [.int .u64 t2.a0,.int .u64 t2.a1,.int .u64 t2.a2,.int .u64 t2.a3,.int .u64 t2.a4,.int .u64 t2.a5,.int .u64 t2.a6,.int .u64 t2.a7]]⟩))]) (body:=fun s=>KA s1 t2 s.1 s.2) (s:=((Jf.mk 0 0 0 0 0 0 0 0),0)) _ ((hE ⟨rfl,r,r,r,r,trivial⟩ ⟨rfl,r,r,trivial⟩))<|?_
 rintro ⟨x3,x4⟩ v10x1 nn
 try dsimp only
 unfold KA
 refine sQ<|rG<|bN (v:=.bool (decide (x4 < 8))) r r r r r<|nI<|xS<|sQ<|cD (c:=(decide (x4 < 8))) r ?_ ?_
 ·exact sK<|xS<|sQ<|bK<|sQ<|rG<|mV r r<|aS r r<|nI<|xS<|rG<|mV r r<|mV r r<|mV r r<|mV r r<|mV r r<|nC r r r<|cK fun hq=>Qp r r r hq<|bD fun s_e5 hs_e5=>QQ (q:=s_e5) (l:=s1.toList) (en:=TO) (j:=x4.toNat) (by simp) r r r hs_e5 r (fun _=>r)<|mV r r<|mV r r<|nC r r r<|cK fun hq=>Qp r r r hq<|bD fun t_e6 ht_e6=>QQ (q:=t_e6) (l:=t2.toList) (en:=TO) (j:=x4.toNat) (by simp) r r r ht_e6 r (fun _=>r)<|bD fun r7 hr7=>cG (s_e5,t_e6) r r r WS r r (by simp) r hr7 r<|nC r r r<|cK fun hq=>Qp r r r hq<|bD fun x_o8 hx_o8=>AbD (q:=x_o8) (q':=r7) (l:=x3.toList) (en:=TO) (j:=x4.toNat) (z':=.agg [.int .u64 ((x3.set x4.toNat r7).a0),.int .u64 ((x3.set x4.toNat r7).a1),.int .u64 ((x3.set x4.toNat r7).a2),.int .u64 ((x3.set x4.toNat r7).a3),.int .u64 ((x3.set x4.toNat r7).a4),.int .u64 ((x3.set x4.toNat r7).a5),.int .u64 ((x3.set x4.toNat r7).a6),.int .u64 ((x3.set x4.toNat r7).a7)]) (by simp) r r r r r hx_o8 r r (congrArg (fun l=>D.agg (l.map TO)) (Ly x3 x4.toNat r7).symm)<|Jz (by kernel_rfl)<|bM<|xS<|rG<|bN (v:=.int .i64 (IntKind.i64.wrap (x4 + 1))) r r r r r<|mV r r<|nI<|xL (s:=((x3.set x4.toNat r7),IntKind.i64.wrap (x4 + 1))) _ ((hE ⟨rfl,r,r,r,r,trivial⟩ ⟨rfl,r,r,trivial⟩))
 ·refine eT<|xE<|lE<|bH<|xS<|sQ<|rG<|mV r r<|aS r r<|nI<|xS<|rT<|AaH (b:=(x3,s1,t2)) r ?_ r ?_ r r ?_ r
  all_goals first|(simp;done)|(simp;omega)|rfl|(simp [Jk,Ji];done)

def AfB : Jt:=(.seq (.reg [⟨(some 4),(.asg (.c .nils) (some ⟨1,3⟩)),none,[]⟩] false) (.seq (.reg [M 5 0,P 6 (.call (.c (.clo 86 [])) [(T 5)]),M 7 1,P 8 (.call (.c (.clo 86 [])) [(T 7)]),P 9 (.call (.c (.clo 87 [])) [(T 6),(T 8),(.c (.clo 88 []))]),P 10 (.call (.c (.clo 89 [])) [(T 9)]),⟨(some 4),(.asg (T 10) (some ⟨1,3⟩)),none,[]⟩] false) .ret))
theorem AiN : (Tryd.f73.body.bind (Ju Tryd.prog Tryd.f73.ntmps)) = some AfB:=by kernel_rfl
theorem AiO : Tryd.f73.results.toList.mapM (JE Tryd.prog) = some [(.t 4)]:=by kernel_rfl
def Ox (a : (List Int) × (List Int)) : List D:=[.sl (a.1.map Jc),.sl (a.2.map Jc)]
def TJ (ds : List D) : (List Int) × (List Int):=((uL uI) (ds.getD 0 .top),(uL uI) (ds.getD 1 .top))
theorem RN (a : (List Int) × (List Int)) : TJ (Ox a) = a:=by simp [TJ,Ox,KE (u:=uI) (en:=Jc) (fun _=>rfl)]
def Vm (b : (List Int)) : D:=.sl (b.map Jc)
def YW (_b : (List Int)) : List D:=[]
noncomputable def PW : Dw.Spec:=Js [] .val Ox TJ (fun a=>Mw a.1 a.2) Vm YW
set_option maxHeartbeats 4000000 in
theorem Yt : Jr Tryd.prog 73 PW:=by
 refine JA (Jw (l:=[(86,Ld),(364631,Lo),(89,Kg)]) (by simp [QA,Uv,Nq])) Tryd.func73 (by decide) AiN AiO (np:=2) (by decide) RN (fun _=>r) (fun _=>r) (by decide)<|?_
 rintro ⟨a1,b2⟩
 show TrE (specs [(86,Ld),(364631,Lo),(89,Kg)]) AfB (JH [] .val [(.t 4)] Vm YW) ⟨[(0,.sl (a1.map Jc)),(1,.sl (b2.map Jc))],[],262144⟩ (Mw a1 b2)
 refine Jv<|?_
 unfold AfB Mw
 refine sQ<|rG<|aN (α:=Int) r Jc r<|nI<|xS<|sQ<|rG<|mV r r<|bD fun r3 hr3=>cP a1 r r r LY r r (by simp) r hr3<|mV r r<|bD fun r4 hr4=>cP b2 r r r LY r r (by simp) rfl hr4<|bD fun r5 hr5=>cP (r3,r4) rfl rfl (show _ = some Lo from by kernel_rfl) Pf rfl rfl (by simp) r hr5<|bD fun r6 hr6=>cR (l:=r6.1) (en:=Jc) r5.1 r r r LP r r (by simp) r hr6 r<|aO (l:=r6.1) (en:=Jc) r r r r<|nI<|xS<|rT<|JY (b:=r6.1) r ?_ r r ?_ (by first | rfl | (simp only [JC,JJ]; rfl) | simp [Vm])
 all_goals first|(simp;done)|(simp;omega)|rfl|(simp [Jk,Ji];done)

def AfJ : Jt:=(.seq (.reg [P 2 (.box (T 0) 5 57),⟨(some 4),(.asg (.c .nils) (some ⟨1,3⟩)),none,[]⟩] false) (.seq (.seq (.reg [P 8 (.ld 5 true (T 2)),P 9 (.call (.c (.clo 56 [])) [(T 8)]),M 7 9,P 10 (.ext (T 7) 0),P 11 (.ext (T 7) 1),P 5 (.asg (T 10) none),P 6 (.asg (T 11) none)] false) (.seq (.reg [M 12 6] false) (.cond (T 12) (.reg [M 13 1,M 14 5,P 15 (.call (.c (.clo 94 [])) [(T 13),(T 14)]),⟨(some 1),(.asg (T 15) (some ⟨1,3⟩)),none,[]⟩] false) .skip))) (.seq (.reg [M 16 1,P 17 (.ld 5 true (T 2)),P 18 (.call (.c (.clo 96 [])) [(T 17)]),P 19 (.call (.c (.clo 95 [])) [(T 18)]),P 20 (.call (.c (.clo 73 [])) [(T 16),(T 19)]),⟨(some 4),(.asg (T 20) (some ⟨1,3⟩)),none,[]⟩] false) .ret)))
theorem Ajd : (Tryd.f84.body.bind (Ju Tryd.prog Tryd.f84.ntmps)) = some AfJ:=by kernel_rfl
theorem Aje : Tryd.f84.results.toList.mapM (JE Tryd.prog) = some [(.t 4)]:=by kernel_rfl
def WC (a : Je × (List Int)) : List D:=[Jg a.1,.sl (a.2.map Jc)]
def WB (ds : List D) : Je × (List Int):=(Qr (ds.getD 0 .top),(uL uI) (ds.getD 1 .top))
theorem Aah (a : Je × (List Int)) : WB (WC a) = a:=by simp [WB,WC,KE (u:=uI) (en:=Jc) (fun _=>rfl)]
def AaV (b : (List Int)) : D:=.sl (b.map Jc)
def AaU (_b : (List Int)) : List D:=[]
noncomputable def YL : Dw.Spec:=Js [] .val WC WB (fun a=>Ug a.1 a.2) AaV AaU
set_option maxHeartbeats 4000000 in
theorem AcM : Jr Tryd.prog 84 YL:=by
 refine JA (Jw (l:=[(56,LZ),(94,Ur),(96,WD),(95,YH),(73,PW)]) (by simp [Tc,Abh,AbK,AcC,Yt])) Tryd.func84 (by decide) Ajd Aje (np:=2) (by decide) Aah (fun _=>r) (fun _=>r) (by decide)<|?_
 rintro ⟨x1,out2⟩
 show TrE (specs [(56,LZ),(94,Ur),(96,WD),(95,YH),(73,PW)]) AfJ (JH [] .val [(.t 4)] AaV AaU) ⟨[(0,.agg [.int .i64 x1.Op,.int .i64 x1.A,.int .i64 x1.B,.int .i64 x1.C,.int .u64 x1.Imm]),(1,.sl (out2.map Jc))],[],262144⟩ (Ug x1 out2)
 refine Jv<|?_
 unfold AfJ Ug
 refine sQ<|rG<|bX r r r r r<|aN (α:=Int) r Jc r<|nI<|xS<|sQ<|sQ<|rG<|lO (v:=.agg [.int .i64 x1.Op,.int .i64 x1.A,.int .i64 x1.B,.int .i64 x1.C,.int .u64 x1.Imm]) (z:=.agg [.int .i64 x1.Op,.int .i64 x1.A,.int .i64 x1.B,.int .i64 x1.C,.int .u64 x1.Imm]) r r r r r r<|bD fun r3 hr3=>cG x1 r r r PU r r (by simp) r hr3 r<|mV r r<|eX (v:=.int .i64 r3.1) r r r<|eX (v:=.bool r3.2) r r r<|aS r r<|aS r r<|nI<|xS<|sQ<|rG<|mV r r<|nI<|xS<|cD (c:=r3.2) r ?_ ?_
 ·refine rG<|mV r r<|mV r r<|bD fun r4 hr4=>cV (out2,r3.1) r r r XH r r (by simp) r hr4<|aL r r<|nI<|xS<|sQ<|rG<|mV r r<|lO (v:=.agg [.int .i64 x1.Op,.int .i64 x1.A,.int .i64 x1.B,.int .i64 x1.C,.int .u64 x1.Imm]) (z:=.agg [.int .i64 x1.Op,.int .i64 x1.A,.int .i64 x1.B,.int .i64 x1.C,.int .u64 x1.Imm]) r r r r r r<|bD fun r5 hr5=>cR (l:=r5) (en:=Jc) x1 r r r Vq r r (by simp) r hr5 r<|bD fun r6 hr6=>cR (l:=r6) (en:=Jc) r5 r r r XG r r (by simp) (by first | rfl | (simp only [JC,JJ]; rfl) | simp [QV]) hr6 r<|bD fun r7 hr7=>cV (r4,r6) r r r RN r r (by simp) (by first | rfl | (simp only [JC,JJ]; rfl) | simp [Ox]) hr7<|aL r r<|nI<|xS<|rT<|JY (b:=r7) r ?_ r r ?_ r
  all_goals first|(simp;done)|(simp;omega)|rfl|(simp [Jk,Ji];done)
 ·refine sK<|xS<|sQ<|rG<|mV r r<|lO (v:=.agg [.int .i64 x1.Op,.int .i64 x1.A,.int .i64 x1.B,.int .i64 x1.C,.int .u64 x1.Imm]) (z:=.agg [.int .i64 x1.Op,.int .i64 x1.A,.int .i64 x1.B,.int .i64 x1.C,.int .u64 x1.Imm]) r r r r r r<|bD fun r8 hr8=>cR (l:=r8) (en:=Jc) x1 r r r Vq r r (by simp) r hr8 r<|bD fun r9 hr9=>cR (l:=r9) (en:=Jc) r8 r r r XG r r (by simp) (by first | rfl | (simp only [JC,JJ]; rfl) | simp [QV]) hr9 r<|bD fun r10 hr10=>cV (out2,r9) r r r RN r r (by simp) (by first | rfl | (simp only [JC,JJ]; rfl) | simp [Ox]) hr10<|aL r r<|nI<|xS<|rT<|JY (b:=r10) r ?_ r r ?_ r
  all_goals first|(simp;done)|(simp;omega)|rfl|(simp [Jk,Ji];done)

end Go.Proofs.YtfpgidpffhmadaaDoor
