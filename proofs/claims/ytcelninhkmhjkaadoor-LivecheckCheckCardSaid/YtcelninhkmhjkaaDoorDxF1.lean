/-
  Programs on typed data, and the proofs that the code does what they say; written by a program (dx.py).
-/
import Derived.Test.YtcelninhkmhjkaaDoorProg
import Derived.Test.YtcelninhkmhjkaaDoorDc
import Derived.KernelRfl
import Derived.Test.YtcelninhkmhjkaaDoorSh
import Derived.Test.YtcelninhkmhjkaaDoorDxP
namespace Go.Proofs.YtcelninhkmhjkaaDoor
open Go Go.Dw Go.Proofs
set_option maxRecDepth 100000
open Go.Dw renaming YC → mV,WI → bN,Qv → lO,Vi → bD,WL → cK,WN → nI,WR → xS,YD → rG,YF → sQ,SZ → aO,WH → aS,WO → oF,WJ → bL,Vj → bS,Qc → cV,Ps → cG,Qb → cR,WG → aP,Qw → sV,Sk → iS,Sl → lS,Vk → fA,WD → fF,ZV → nC,Ty → lF,TN → sP,OY → pT,Ov → pF,ZW → uN,Abf → cT,WM → nW,WK → bX,SY → aN,WC → aL,WS → cD,Vm → bK,YE → rT,WV → sK,WT → eT,WQ → xC,Vl → xL,Te → xR,Vo → zR,RV → lR,TG → hE,OZ → lE,Qe → bH,Ow → bM,Td → bR,Qf → xE,UD → cP,WU → lP,Sn → sC,Abg → mF,rf → r
def AcH : Kb:=(.seq (.reg [P 2 (.asg (.c (.bool false)) none)] false) (.seq (.reg [M 3 0,P 4 (.bin .geq (T 3) (C 0)),M 5 4,⟨(some 6),(.mv (T 0)),(some ⟨5,true⟩),[]⟩,⟨(some 7),(.bin .lss (T 6) (C 512)),(some ⟨5,true⟩),[]⟩,P 8 (.pick (T 5) (T 7) (.c (.bool false))),P 2 (.asg (T 8) none)] false) .ret))
theorem Afu : (Tryd.f115.body.bind (Ke Tryd.prog Tryd.f115.ntmps)) = some AcH:=by kernel_rfl
theorem Afv : Tryd.f115.results.toList.mapM (Kl Tryd.prog) = some [(.t 2)]:=by kernel_rfl
def PO (a : Int) : List D:=[.int .i64 a]
def PN (ds : List D) : Int:=uI (ds.getD 0 .top)
theorem Oi (a : Int) : PN (PO a) = a:=by simp [PN,PO,uI]
def UF (b : Bool) : D:=.bool b
def UE (_b : Bool) : List D:=[]
noncomputable def LH : Dw.Spec:=JZ [] .ground PO PN (fun a=>Lc a) UF UE
set_option maxHeartbeats 4000000 in
theorem Qm : JX Tryd.prog 115 LH:=by
 refine Kh (Ls) Tryd.func115 (by decide) Afu Afv (np:=1) (by decide) Oi (fun _=>r) (fun _=>r) (by decide)<|?_
 intro n1
 show TrE (specs []) AcH (Km [] .ground [(.t 2)] UF UE) ⟨[(0,.int .i64 n1)],[],262144⟩ (Lc n1)
 refine Kf<|?_
 unfold AcH Lc
 refine sQ<|rG<|aS r r<|nI<|xS<|sQ<|rG<|mV r r<|bN (v:=.bool (decide (n1 ≥ 0))) r r r r r<|mV r r<|sP 5 (b:=(decide (n1 ≥ 0))) r ?_ ?_
 ·refine mV r r<|bN (v:=.bool (decide (n1 < 512))) r r r r r<|pT r r r r<|aS r r<|nI<|xS<|rT<|JV (b:=(decide (n1 < 512))) r ?_ r r ?_ r
  all_goals first|(simp;done)|(simp;omega)|rfl|(simp [JR,JO];done)
 ·refine oF r<|oF r<|pF r r r r<|aS r r<|nI<|xS<|rT<|JV (b:=false) r ?_ r r ?_ r
  all_goals first|(simp;done)|(simp;omega)|rfl|(simp [JR,JO];done)

def Aey : Kb:=(.seq (.reg [P 2 (.asg (.c (.bool false)) none)] false) (.seq (.seq (.reg [M 5 0,P 6 (.len false (T 5)),P 7 (.mv (C 0))] false) (.block 0 (.loop (.seq (.reg [P 8 (.bin .lss (T 7) (T 6))] false) (.seq (.cond (T 8) .skip (.exit 0)) (.seq (.block 1 (.seq (.reg [M 9 7,P 10 (.ixA 1 (T 5) (T 7)),P 11 (.ld 1 false (T 10)),P 3 (.asg (T 9) none),P 4 (.asg (T 11) none)] false) (.seq (.reg [M 12 4,P 13 (.call (.c (.clo 115 [])) [(T 12)]),P 14 (.un .not (T 13)),M 15 14,⟨(some 16),(.mv (T 3)),(some ⟨15,false⟩),[]⟩,⟨(some 17),(.bin .gtr (T 16) (C 0)),(some ⟨15,false⟩),[]⟩,⟨(some 18),(.mv (T 17)),(some ⟨15,false⟩),[]⟩,⟨(some 19),(.mv (T 4)),(some ⟨18,true⟩),[]⟩,⟨(some 20),(.mv (T 0)),(some ⟨18,true⟩),[]⟩,⟨(some 21),(.mv (T 3)),(some ⟨18,true⟩),[]⟩,⟨(some 22),(.bin .sub (T 21) (C 1)),(some ⟨18,true⟩),[]⟩,⟨(some 23),(.ixA 1 (T 20) (T 22)),(some ⟨18,true⟩),[]⟩,⟨(some 24),(.ld 1 false (T 23)),(some ⟨18,true⟩),[]⟩,⟨(some 25),(.bin .leq (T 19) (T 24)),(some ⟨18,true⟩),[]⟩,⟨(some 26),(.pick (T 18) (T 25) (.c (.bool false))),(some ⟨15,false⟩),[]⟩,P 27 (.pick (T 15) (.c (.bool true)) (T 26))] false) (.cond (T 27) (.seq (.reg [P 2 (.asg (.c (.bool false)) none)] false) .ret) .skip)))) (.reg [P 28 (.bin .add (T 7) (C 1)),M 7 28] false))))))) (.seq (.reg [P 2 (.asg (.c (.bool true)) none)] false) .ret)))
theorem AhS : (Tryd.f91.body.bind (Ke Tryd.prog Tryd.f91.ntmps)) = some Aey:=by kernel_rfl
theorem AhT : Tryd.f91.results.toList.mapM (Kl Tryd.prog) = some [(.t 2)]:=by kernel_rfl
def Tj (a : (List Int)) : List D:=[.sl (a.map Ed)]
def Ti (ds : List D) : (List Int):=(uL uI) (ds.getD 0 .top)
theorem XG (a : (List Int)) : Ti (Tj a) = a:=by simp [Ti,Tj,Lr (u:=uI) (en:=Ed) (fun _=>rfl)]
def Yl (b : Bool) : D:=.bool b
def Yk (_b : Bool) : List D:=[]
noncomputable def UI : Dw.Spec:=JZ [] .ground Tj Ti (fun a=>PK a) Yl Yk
set_option maxHeartbeats 4000000 in
theorem AaF : JX Tryd.prog 91 UI:=by
 refine Kh (Kd (l:=[(115,LH)]) (by simp [Qm])) Tryd.func91 (by decide) AhS AhT (np:=1) (by decide) XG (fun _=>r) (fun _=>r) (by decide)<|?_
 intro s1
 show TrE (specs [(115,LH)]) Aey (Km [] .ground [(.t 2)] Yl Yk) ⟨[(0,.sl (s1.map Ed))],[],262144⟩ (PK s1)
 refine Kf<|?_
 unfold Aey PK
 refine sQ<|rG<|aS r r<|nI<|xS<|sQ<|sQ<|rG<|mV r r<|lS r r<|mV r r<|nI<|xS<|bK<|lP (E:=fun (s : Int) (g : Unit)=>[(0,.sl (s1.map Ed)),(5,.sl (s1.map Ed)),(6,.int .i64 (s1.length : Int)),(7,.int .i64 s)]) (O:=fun s g=>[]) (body:=fun s=>Mh s1 s) (s:=0) () ((hE ⟨rfl,r,r,r,trivial⟩ trivial))<|?_
 rintro x2 ⟨⟩ nn
 try dsimp only
 unfold Mh
 refine sQ<|rG<|bN (v:=.bool (decide (x2 < (s1.length : Int)))) r r r r r<|nI<|xS<|sQ<|cD (c:=(decide (x2 < (s1.length : Int)))) r ?_ ?_
 ·refine sK<|xS<|sQ<|bK<|sQ<|rG<|mV r r<|bD fun x_x3 hx_x3=>iS (en:=Ed) r r r hx_x3 r<|lF (v:=.int .i64 x_x3) r r r r<|aS r r<|aS r r<|nI<|xS<|sQ<|rG<|mV r r<|bD fun r4 hr4=>cG x_x3 r r r Oi r r (by simp) r hr4 r<|uN (w:=.bool (!r4)) r r r r trivial<|mV r r<|sP 15 (b:=(!r4)) r ?_ ?_
  ·refine oF r<|oF r<|oF r<|oF r<|oF r<|oF r<|oF r<|oF r<|oF r<|oF r<|oF r<|pT r r r r<|nI<|xS<|Ly r<|sQ<|rG<|aS r r<|nI<|xS<|rT<|bR<|xR<|lR<|bR<|xR<|JV (b:=false) r ?_ r r ?_ r
   all_goals first|(simp;done)|(simp;omega)|rfl|(simp [JR,JO];done)
  ·refine mV r r<|bN (v:=.bool (decide (x2 > 0))) r r r r r<|mV r r<|sP 18 (b:=(decide (x2 > 0))) r ?_ ?_
   ·refine mV r r<|mV r r<|mV r r<|bN (v:=.int .i64 (IntKind.i64.wrap (x2 - 1))) r r r r r<|bD fun x_x5 hx_x5=>iS (en:=Ed) r r r hx_x5 r<|lF (v:=.int .i64 x_x5) r r r r<|bN (v:=.bool (decide (x_x3 ≤ x_x5))) r r r r r<|pT r r r r<|pF r r r r<|nI<|xS<|cD (c:=(decide (x_x3 ≤ x_x5))) r ?_ ?_
    ·refine sQ<|rG<|aS r r<|nI<|xS<|rT<|bR<|xR<|lR<|bR<|xR<|JV (b:=false) r ?_ r r ?_ r
     all_goals first|(simp;done)|(simp;omega)|rfl|(simp [JR,JO];done)
    ·exact sK<|bM<|xS<|rG<|bN (v:=.int .i64 (IntKind.i64.wrap (x2 + 1))) r r r r r<|mV r r<|nI<|xL (s:=IntKind.i64.wrap (x2 + 1)) () ((hE ⟨rfl,r,r,r,trivial⟩ trivial))
   ·exact oF r<|oF r<|oF r<|oF r<|oF r<|oF r<|oF r<|pF r r r r<|pF r r r r<|nI<|xS<|QF r<|sK<|bM<|xS<|rG<|bN (v:=.int .i64 (IntKind.i64.wrap (x2 + 1))) r r r r r<|mV r r<|nI<|xL (s:=IntKind.i64.wrap (x2 + 1)) () ((hE ⟨rfl,r,r,r,trivial⟩ trivial))
 ·refine eT<|xE<|lE<|bH<|xS<|sQ<|rG<|aS r r<|nI<|xS<|rT<|JV (b:=true) r ?_ r r ?_ r
  all_goals first|(simp;done)|(simp;omega)|rfl|(simp [JR,JO];done)

def Aex : Kb:=(.seq (.reg [P 3 (.asg (.c (.bool false)) none)] false) (.seq (.reg [M 4 0,⟨(some 5),(.call (.c (.clo 91 [])) [(T 4)]),none,[0]⟩,⟨(some 6),(.un .not (T 5)),none,[1]⟩,⟨(some 7),(.mv (T 6)),none,[2,1]⟩,⟨(some 8),(.mv (T 0)),(some ⟨7,false⟩),[3]⟩,⟨(some 9),(.len false (T 8)),(some ⟨7,false⟩),[4,3]⟩,⟨(some 10),(.bin .gtr (T 9) (C 0)),(some ⟨7,false⟩),[5,3]⟩,⟨(some 11),(.mv (T 10)),(some ⟨7,false⟩),[6,3,3]⟩,⟨(some 12),(.mv (T 0)),(some ⟨11,true⟩),[7]⟩,⟨(some 13),(.mv (T 0)),(some ⟨11,true⟩),[7]⟩,⟨(some 14),(.len false (T 13)),(some ⟨11,true⟩),[9,7]⟩,⟨(some 15),(.bin .sub (T 14) (C 1)),(some ⟨11,true⟩),[10,7]⟩,⟨(some 16),(.ixA 1 (T 12) (T 15)),(some ⟨11,true⟩),[8,11,7]⟩,⟨(some 17),(.ld 1 false (T 16)),(some ⟨11,true⟩),[12,7]⟩,⟨(some 18),(.fldA 1 (T 1)),(some ⟨11,true⟩),[7]⟩,⟨(some 19),(.ld 1 false (T 18)),(some ⟨11,true⟩),[14,7]⟩,⟨(some 20),(.len false (T 19)),(some ⟨11,true⟩),[15,7]⟩,⟨(some 21),(.bin .geq (T 17) (T 20)),(some ⟨11,true⟩),[13,16,7]⟩,⟨(some 22),(.pick (T 11) (T 21) (.c (.bool false))),(some ⟨7,false⟩),[7,17,3]⟩,⟨(some 23),(.pick (T 7) (.c (.bool true)) (T 22)),none,[3,18]⟩,⟨(some 3),(.asg (T 23) none),none,[19,7,0,1,2,3,4,5,6,7,8,9,10,11,12,13,14,15,16,17,18,19]⟩] true) .ret))
theorem AhQ : (Tryd.f90.body.bind (Ke Tryd.prog Tryd.f90.ntmps)) = some Aex:=by kernel_rfl
theorem AhR : Tryd.f90.results.toList.mapM (Kl Tryd.prog) = some [(.t 3)]:=by kernel_rfl
def Ok (a : (List Int) × JN) : List D:=[.sl (a.1.map Ed),.fptr (Ku a.2) 0]
def Oj (ds : List D) : (List Int) × JN:=((uL uI) (ds.getD 0 .top),Mi (fpD (ds.getD 1 .top)))
theorem RM (a : (List Int) × JN) : Oj (Ok a) = a:=by simp [Oj,Ok,fpD,Lr (u:=uI) (en:=Ed) (fun _=>rfl)]
def Ss (b : Bool) : D:=.bool b
def Sr (_b : Bool) : List D:=[]
noncomputable def OP : Dw.Spec:=JZ [] .ground Ok Oj (fun a=>LQ a.1 a.2) Ss Sr
set_option maxHeartbeats 4000000 in
theorem Xo : JX Tryd.prog 90 OP:=by
 refine Kh (Kd (l:=[(91,UI)]) (by simp [AaF])) Tryd.func90 (by decide) AhQ AhR (np:=2) (by decide) RM (fun _=>r) (fun _=>r) (by decide)<|?_
 rintro ⟨s1,cap2⟩
 show TrE (specs [(91,UI)]) Aex (Km [] .ground [(.t 3)] Ss Sr) ⟨[(0,.sl (s1.map Ed)),(1,.fptr (.agg [.int .i64 cap2.Params,.sl (cap2.Slots.map JQ),.sl (cap2.Code.map JM)]) 0)],[],262144⟩ (LQ s1 cap2)
 refine Kf<|?_
 unfold Aex LQ
 refine sQ<|rG<|aS r r<|nI<|xS<|sQ<|rG<|mV r r<|bD fun r3 hr3=>cG s1 r r r XG r r (by simp) r hr3 r<|uN (w:=.bool (!r3)) r r r r trivial<|mV r r<|sP 7 (b:=(!r3)) r ?_ ?_
 ·refine oF r<|oF r<|oF r<|oF r<|oF r<|oF r<|oF r<|oF r<|oF r<|oF r<|oF r<|oF r<|oF r<|oF r<|oF r<|pT r r r r<|aS r r<|Ka (by kernel_rfl)<|xS<|rT<|JV (b:=true) r ?_ r r ?_ r
  all_goals first|(simp;done)|(simp;omega)|rfl|(simp [JR,JO];done)
 ·refine mV r r<|lS r r<|bN (v:=.bool (decide ((s1.length : Int) > 0))) r r r r r<|mV r r<|sP 11 (b:=(decide ((s1.length : Int) > 0))) r ?_ ?_
  ·refine mV r r<|mV r r<|lS r r<|bN (v:=.int .i64 (IntKind.i64.wrap ((s1.length : Int) - 1))) r r r r r<|bD fun x_x4 hx_x4=>iS (en:=Ed) r r r hx_x4 r<|lF (v:=.int .i64 x_x4) r r r r<|fF r r<|lF (v:=.sl (cap2.Slots.map JQ)) r r r r<|lS r r<|bN (v:=.bool (decide (x_x4 ≥ (cap2.Slots.length : Int)))) r r r r r<|pT r r r r<|pF r r r r<|aS r r<|Ka (by kernel_rfl)<|xS<|rT<|JV (b:=(decide (x_x4 ≥ (cap2.Slots.length : Int)))) r ?_ r r ?_ r
   all_goals first|(simp;done)|(simp;omega)|rfl|(simp [JR,JO];done)
  ·refine oF r<|oF r<|oF r<|oF r<|oF r<|oF r<|oF r<|oF r<|oF r<|oF r<|pF r r r r<|pF r r r r<|aS r r<|Ka (by kernel_rfl)<|xS<|rT<|JV (b:=false) r ?_ r r ?_ r
   all_goals first|(simp;done)|(simp;omega)|rfl|(simp [JR,JO];done)

def AcI : Kb:=(.seq (.reg [P 4 (.asg (C 0) none)] false) (.seq (.seq (.reg [M 6 0,P 7 (.len false (T 6)),P 8 (.mv (C 0))] false) (.block 0 (.loop (.seq (.reg [P 9 (.bin .lss (T 8) (T 7))] false) (.seq (.cond (T 9) .skip (.exit 0)) (.seq (.block 1 (.seq (.reg [M 10 8,P 5 (.asg (T 10) none)] false) (.seq (.reg [M 11 1,M 12 0,M 13 5,P 14 (.ixA 1 (T 12) (T 13)),P 15 (.ld 1 false (T 14)),P 16 (.call (T 11) [(T 15)])] false) (.cond (T 16) (.seq (.reg [M 17 5,P 4 (.asg (T 17) none)] false) .ret) .skip)))) (.reg [P 18 (.bin .add (T 8) (C 1)),M 8 18] false))))))) (.seq (.reg [⟨(some 4),(.asg (.c (.int .i64 (-1))) none),none,[]⟩] false) .ret)))
theorem Afw : (Tryd.f116.body.bind (Ke Tryd.prog Tryd.f116.ntmps)) = some AcI:=by kernel_rfl
theorem Afx : Tryd.f116.results.toList.mapM (Kl Tryd.prog) = some [(.t 4)]:=by kernel_rfl
def LO (a : (List (List Int)) × JN) : List D:=[.sl (a.1.map (eL Ed)),.clo 90 [.fptr (Ku a.2) 0]]
def LN (ds : List D) : (List (List Int)) × JN:=((uL (uL uI)) (ds.getD 0 .top),Mi (fpD (Ml (ds.getD 1 .top) 0)))
theorem NN (a : (List (List Int)) × JN) : LN (LO a) = a:=by simp [LN,LO,fpD,Ml,Lr (u:=(uL uI)) (en:=(eL Ed)) (Lr (u:=uI) (en:=Ed) (fun _=>rfl))]
def NY (b : Int) : D:=.int .i64 b
def NX (_b : Int) : List D:=[]
noncomputable def Lq : Dw.Spec:=JZ [] .ground LO LN (fun a=>KE a.1 a.2) NY NX
set_option maxHeartbeats 4000000 in
theorem RU : JX Tryd.prog 116 Lq:=by
 refine Kh (Kd (l:=[(90,OP)]) (by simp [Xo])) Tryd.func116 (by decide) Afw Afx (np:=2) (by decide) NN (fun _=>r) (fun _=>r) (by decide)<|?_
 rintro ⟨s1,f2⟩
 show TrE (specs [(90,OP)]) AcI (Km [] .ground [(.t 4)] NY NX) ⟨[(0,.sl (s1.map (eL Ed))),(1,.clo 90 [.fptr (.agg [.int .i64 f2.Params,.sl (f2.Slots.map JQ),.sl (f2.Code.map JM)]) 0])],[],262144⟩ (KE s1 f2)
 refine Kf<|?_
 unfold AcI KE
 refine sQ<|rG<|aS r r<|nI<|xS<|sQ<|sQ<|rG<|mV r r<|lS r r<|mV r r<|nI<|xS<|bK<|lP (E:=fun (s : Int) (g : Unit)=>[(0,.sl (s1.map (eL Ed))),(1,.clo 90 [.fptr (.agg [.int .i64 f2.Params,.sl (f2.Slots.map JQ),.sl (f2.Code.map JM)]) 0]),(7,.int .i64 (s1.length : Int)),(8,.int .i64 s)]) (O:=fun s g=>[]) (body:=fun s=>Lm s1 f2 s) (s:=0) () ((hE ⟨rfl,r,r,r,trivial⟩ trivial))<|?_
 rintro x3 ⟨⟩ nn
 try dsimp only
 unfold Lm
 refine sQ<|rG<|bN (v:=.bool (decide (x3 < (s1.length : Int)))) r r r r r<|nI<|xS<|sQ<|cD (c:=(decide (x3 < (s1.length : Int)))) r ?_ ?_
 ·refine sK<|xS<|sQ<|bK<|sQ<|rG<|mV r r<|aS r r<|nI<|xS<|sQ<|rG<|mV r r<|mV r r<|mV r r<|bD fun x_x4 hx_x4=>iS (en:=(eL Ed)) r r r hx_x4 r<|lF (v:=.sl (x_x4.map Ed)) r r r r<|bD fun r5 hr5=>cG (x_x4,f2) r r r RM r r (by simp) r hr5 r<|nI<|xS<|cD (c:=r5) r ?_ ?_
  ·refine sQ<|rG<|mV r r<|aS r r<|nI<|xS<|rT<|bR<|xR<|lR<|bR<|xR<|JV (b:=x3) r ?_ r r ?_ r
   all_goals first|(simp;done)|(simp;omega)|rfl|(simp [JR,JO];done)
  ·exact sK<|bM<|xS<|rG<|bN (v:=.int .i64 (IntKind.i64.wrap (x3 + 1))) r r r r r<|mV r r<|nI<|xL (s:=IntKind.i64.wrap (x3 + 1)) () ((hE ⟨rfl,r,r,r,trivial⟩ trivial))
 ·refine eT<|xE<|lE<|bH<|xS<|sQ<|rG<|aS r r<|nI<|xS<|rT<|JV (b:=(-1)) r ?_ r r ?_ r
  all_goals first|(simp;done)|(simp;omega)|rfl|(simp [JR,JO];done)

def Aez : Kb:=(.seq (.reg [P 4 (.asg (.c (.bool false)) none)] false) (.seq (.reg [M 5 0,M 6 1,P 7 (.call (.c (.clo 116 [])) [(T 5),(T 6)]),P 8 (.bin .geq (T 7) (C 0)),P 4 (.asg (T 8) none)] false) .ret))
theorem AhU : (Tryd.f92.body.bind (Ke Tryd.prog Tryd.f92.ntmps)) = some Aez:=by kernel_rfl
theorem AhV : Tryd.f92.results.toList.mapM (Kl Tryd.prog) = some [(.t 4)]:=by kernel_rfl
def LB (a : (List (List Int)) × JN) : List D:=[.sl (a.1.map (eL Ed)),.clo 90 [.fptr (Ku a.2) 0]]
def LA (ds : List D) : (List (List Int)) × JN:=((uL (uL uI)) (ds.getD 0 .top),Mi (fpD (Ml (ds.getD 1 .top) 0)))
theorem Nd (a : (List (List Int)) × JN) : LA (LB a) = a:=by simp [LA,LB,fpD,Ml,Lr (u:=(uL uI)) (en:=(eL Ed)) (Lr (u:=uI) (en:=Ed) (fun _=>rfl))]
def Nn (b : Bool) : D:=.bool b
def Nm (_b : Bool) : List D:=[]
noncomputable def KX : Dw.Spec:=JZ [] .ground LB LA (fun a=>KI a.1 a.2) Nn Nm
set_option maxHeartbeats 4000000 in
theorem QE : JX Tryd.prog 92 KX:=by
 refine Kh (Kd (l:=[(372852,Lq)]) (by simp [RU])) Tryd.func92 (by decide) AhU AhV (np:=2) (by decide) Nd (fun _=>r) (fun _=>r) (by decide)<|?_
 rintro ⟨s1,f2⟩
 show TrE (specs [(372852,Lq)]) Aez (Km [] .ground [(.t 4)] Nn Nm) ⟨[(0,.sl (s1.map (eL Ed))),(1,.clo 90 [.fptr (.agg [.int .i64 f2.Params,.sl (f2.Slots.map JQ),.sl (f2.Code.map JM)]) 0])],[],262144⟩ (KI s1 f2)
 refine Kf<|?_
 unfold Aez KI
 refine sQ<|rG<|aS rfl rfl<|nI<|xS<|sQ<|rG<|mV rfl rfl<|mV rfl rfl<|bD fun r3 hr3=>cG (s1,f2) rfl rfl (show _ = some Lq from by kernel_rfl) NN rfl rfl (by simp) r hr3 r<|bN (v:=.bool (decide (r3 ≥ 0))) r r r r r<|aS r r<|nI<|xS<|rT<|JV (b:=(decide (r3 ≥ 0))) r ?_ r r ?_ r
 all_goals first|(simp;done)|(simp;omega)|rfl|(simp [JR,JO];done)

def Aed : Kb:=(.seq (.reg [P 2 (.box (T 0) 3 27),P 3 (.box (T 1) 1 30),P 4 (.asg (.c (.bool false)) none)] false) (.seq (.reg [P 6 (.mkf 90 [(T 2)]),P 5 (.asg (T 6) none)] false) (.seq (.reg [P 7 (.fldA 0 (T 3)),P 8 (.ld 1 false (T 7)),P 9 (.len false (T 8)),P 10 (.fldA 2 (T 2)),P 11 (.ld 1 false (T 10)),P 12 (.len false (T 11)),P 13 (.bin .eql (T 9) (T 12)),M 14 13,⟨(some 15),(.fldA 0 (T 3)),(some ⟨14,true⟩),[]⟩,⟨(some 16),(.ld 1 false (T 15)),(some ⟨14,true⟩),[]⟩,⟨(some 17),(.mv (T 5)),(some ⟨14,true⟩),[]⟩,⟨(some 18),(.call (.c (.clo 92 [])) [(T 16),(T 17)]),(some ⟨14,true⟩),[]⟩,⟨(some 19),(.un .not (T 18)),(some ⟨14,true⟩),[]⟩,P 20 (.pick (T 14) (T 19) (.c (.bool false))),P 4 (.asg (T 20) none)] false) .ret)))
theorem Ahc : (Tryd.f63.body.bind (Ke Tryd.prog Tryd.f63.ntmps)) = some Aed:=by kernel_rfl
theorem Ahd : Tryd.f63.results.toList.mapM (Kl Tryd.prog) = some [(.t 4)]:=by kernel_rfl
def Qr (a : JN × JP) : List D:=[Ku a.1,KF a.2]
def Qq (ds : List D) : JN × JP:=(Mi (ds.getD 0 .top),Mp (ds.getD 1 .top))
theorem Ri (a : JN × JP) : Qq (Qr a) = a:=by simp [Qq,Qr]
def VB (b : Bool) : D:=.bool b
def VA (_b : Bool) : List D:=[]
noncomputable def NI : Dw.Spec:=JZ [] .ground Qr Qq (fun a=>Mr a.1 a.2) VB VA
set_option maxHeartbeats 4000000 in
theorem UH : JX Tryd.prog 63 NI:=by
 refine Kh (Kd (l:=[(372828,KX)]) (by simp [QE])) Tryd.func63 (by decide) Ahc Ahd (np:=2) (by decide) Ri (fun _=>r) (fun _=>r) (by decide)<|?_
 rintro ⟨f1,l2⟩
 show TrE (specs [(372828,KX)]) Aed (Km [] .ground [(.t 4)] VB VA) ⟨[(0,.agg [.int .i64 f1.Params,.sl (f1.Slots.map JQ),.sl (f1.Code.map JM)]),(1,.agg [.sl (l2.Out.map (eL Ed))])],[],262144⟩ (Mr f1 l2)
 refine Kf<|?_
 unfold Aed Mr
 refine sQ<|rG<|bX r r r r r<|bX r r r r r<|aS r r<|nI<|Mo (E:=[(2,.fptr (.agg [.int .i64 f1.Params,.sl (f1.Slots.map JQ),.sl (f1.Code.map JM)]) 0),(3,.optr 3 _ 0 0)]) (O:=[(3,some (_,⟨false,true,1,30,[.agg [.sl (l2.Out.map (eL Ed))]]⟩))]) ((OB (g:=2) r (by first | rfl | (simp [cells,frp,Kg,JR]; done)) (hE ⟨(by first | rfl | (simp [JY,lkO,frp,Kg,frO]; done) | (simp [JY,lkO,frp,Kg,frO]; rfl)),(by first | rfl | (simp [JY,lkO,frp,Kg,frO]; done) | (simp [JY,lkO,frp,Kg,frO]; rfl)),trivial⟩ ⟨(by first | rfl | (simp [JY,lkO,frp,Kg,frO]; done) | (simp [JY,lkO,frp,Kg,frO]; rfl)),trivial⟩))) fun nn=>sQ<|rG<|mF (caps:=[.fptr (.agg [.int .i64 f1.Params,.sl (f1.Slots.map JQ),.sl (f1.Code.map JM)]) 0]) r r (by simp [Sj])<|aS r r<|nI<|xS<|sQ<|rG<|fA r r<|lO (v:=.sl (l2.Out.map (eL Ed))) (z:=.agg [.sl (l2.Out.map (eL Ed))]) r r r r r r<|lS r r<|fF r r<|lF (v:=.sl (f1.Code.map JM)) r r r r<|lS r r<|bN (v:=.bool ((l2.Out.length : Int) == (f1.Code.length : Int))) r r r r r<|mV r r<|sP 14 (b:=((l2.Out.length : Int) == (f1.Code.length : Int))) r ?_ ?_
 ·refine fA rfl rfl<|lO (v:=.sl (l2.Out.map (eL Ed))) (z:=.agg [.sl (l2.Out.map (eL Ed))]) rfl rfl rfl rfl rfl rfl<|mV rfl rfl<|bD fun r3 hr3=>cG (l2.Out,f1) rfl rfl (show _ = some KX from by kernel_rfl) Nd rfl rfl (by simp) r hr3 r<|uN (w:=.bool (!r3)) r r r r trivial<|pT r r r r<|aS r r<|nI<|xS<|rT<|JV (b:=(!r3)) r ?_ r r ?_ r
  all_goals first|(simp;done)|(simp;omega)|rfl|(simp [JR,JO];done)
 ·refine oF r<|oF r<|oF r<|oF r<|oF r<|pF r r r r<|aS r r<|nI<|xS<|rT<|JV (b:=false) r ?_ r r ?_ r
  all_goals first|(simp;done)|(simp;omega)|rfl|(simp [JR,JO];done)

def Aeg : Kb:=(.seq (.reg [P 1 (.box (T 0) 1 30),P 2 (.asg (.c .nilf) none)] false) (.seq (.reg [P 3 (.mkf 94 [(T 1)]),P 2 (.asg (T 3) none)] false) .ret))
theorem Ahi : (Tryd.f67.body.bind (Ke Tryd.prog Tryd.f67.ntmps)) = some Aeg:=by kernel_rfl
theorem Ahj : Tryd.f67.results.toList.mapM (Kl Tryd.prog) = some [(.t 2)]:=by kernel_rfl
def RO (a : JP) : List D:=[KF a]
def RN (ds : List D) : JP:=Mp (ds.getD 0 .top)
theorem Wv (a : JP) : RN (RO a) = a:=by simp [RN,RO]
def Xq (b : JP) : D:=.clo 94 [.fptr (KF b) 0]
def Xp (_b : JP) : List D:=[]
noncomputable def Tt : Dw.Spec:=JZ [] .val RO RN (fun a=>PV a) Xq Xp
set_option maxHeartbeats 4000000 in
theorem Aag : JX Tryd.prog 67 Tt:=by
 refine Kh (Ls) Tryd.func67 (by decide) Ahi Ahj (np:=1) (by decide) Wv (fun _=>r) (fun _=>r) (by decide)<|?_
 intro l1
 show TrE (specs []) Aeg (Km [] .val [(.t 2)] Xq Xp) ⟨[(0,.agg [.sl (l1.Out.map (eL Ed))])],[],262144⟩ (PV l1)
 refine Kf<|?_
 unfold Aeg PV
 refine sQ<|rG<|bX r r r r r<|aS r r<|nI<|Mo (E:=[(1,.fptr (.agg [.sl (l1.Out.map (eL Ed))]) 0)]) (O:=[]) ((OB (g:=1) r (by first | rfl | (simp [cells,frp,Kg,JR]; done)) (hE ⟨(by first | rfl | (simp [JY,lkO,frp,Kg,frO]; done) | (simp [JY,lkO,frp,Kg,frO]; rfl)),trivial⟩ trivial))) fun nn=>sQ<|rG<|mF (caps:=[.fptr (.agg [.sl (l1.Out.map (eL Ed))]) 0]) r r (by simp [Sj])<|aS r r<|nI<|xS<|rT<|KC (b:=l1) r ?_ r r ?_ r
 all_goals first|(simp;done)|(simp;omega)|rfl|(simp [JR,JO];done)

def AcG : Kb:=(.seq (.reg [P 2 (.asg (.c (.bool false)) none)] false) (.seq (.reg [M 3 0,P 4 (.bin .eql (T 3) (C 20)),M 5 4,⟨(some 6),(.mv (T 0)),(some ⟨5,false⟩),[]⟩,⟨(some 7),(.bin .eql (T 6) (C 23)),(some ⟨5,false⟩),[]⟩,P 8 (.pick (T 5) (.c (.bool true)) (T 7)),M 9 8,⟨(some 10),(.mv (T 0)),(some ⟨9,false⟩),[]⟩,⟨(some 11),(.bin .eql (T 10) (C 24)),(some ⟨9,false⟩),[]⟩,P 12 (.pick (T 9) (.c (.bool true)) (T 11)),P 2 (.asg (T 12) none)] false) .ret))
theorem Afs : (Tryd.f112.body.bind (Ke Tryd.prog Tryd.f112.ntmps)) = some AcG:=by kernel_rfl
theorem Aft : Tryd.f112.results.toList.mapM (Kl Tryd.prog) = some [(.t 2)]:=by kernel_rfl
def RT (a : Int) : List D:=[.int .i64 a]
def RS (ds : List D) : Int:=uI (ds.getD 0 .top)
theorem Wy (a : Int) : RS (RT a) = a:=by simp [RS,RT,uI]
def XC (b : Bool) : D:=.bool b
def XB (_b : Bool) : List D:=[]
noncomputable def Tx : Dw.Spec:=JZ [] .ground RT RS (fun a=>PZ a) XC XB
set_option maxHeartbeats 4000000 in
theorem Aah : JX Tryd.prog 112 Tx:=by
 refine Kh (Ls) Tryd.func112 (by decide) Afs Aft (np:=1) (by decide) Wy (fun _=>r) (fun _=>r) (by decide)<|?_
 intro op1
 show TrE (specs []) AcG (Km [] .ground [(.t 2)] XC XB) ⟨[(0,.int .i64 op1)],[],262144⟩ (PZ op1)
 refine Kf<|?_
 unfold AcG PZ
 refine sQ<|rG<|aS r r<|nI<|xS<|sQ<|rG<|mV r r<|bN (v:=.bool (op1 == 20)) r r r r r<|mV r r<|sP 5 (b:=(op1 == 20)) r ?_ ?_
 ·refine oF r<|oF r<|pT r r r r<|mV r r<|oF r<|oF r<|pT r r r r<|aS r r<|nI<|xS<|rT<|JV (b:=true) r ?_ r r ?_ r
  all_goals first|(simp;done)|(simp;omega)|rfl|(simp [JR,JO];done)
 ·refine mV r r<|bN (v:=.bool (op1 == 23)) r r r r r<|pF r r r r<|mV r r<|sP 9 (b:=(op1 == 23)) r ?_ ?_
  ·refine oF r<|oF r<|pT r r r r<|aS r r<|nI<|xS<|rT<|JV (b:=true) r ?_ r r ?_ r
   all_goals first|(simp;done)|(simp;omega)|rfl|(simp [JR,JO];done)
  ·refine mV r r<|bN (v:=.bool (op1 == 24)) r r r r r<|pF r r r r<|aS r r<|nI<|xS<|rT<|JV (b:=(op1 == 24)) r ?_ r r ?_ r
   all_goals first|(simp;done)|(simp;omega)|rfl|(simp [JR,JO];done)

def Aev : Kb:=(.seq (.reg [P 2 (.box (T 0) 3 27),⟨(some 4),(.asg (.c .nils) (some ⟨1,3⟩)),none,[]⟩] false) (.seq (.seq (.reg [M 7 1,P 8 (.bin .lss (T 7) (C 0)),M 9 8,⟨(some 10),(.mv (T 1)),(some ⟨9,false⟩),[]⟩,⟨(some 11),(.fldA 2 (T 2)),(some ⟨9,false⟩),[]⟩,⟨(some 12),(.ld 1 false (T 11)),(some ⟨9,false⟩),[]⟩,⟨(some 13),(.len false (T 12)),(some ⟨9,false⟩),[]⟩,⟨(some 14),(.bin .geq (T 10) (T 13)),(some ⟨9,false⟩),[]⟩,P 15 (.pick (T 9) (.c (.bool true)) (T 14))] false) (.cond (T 15) (.seq (.reg [⟨(some 4),(.asg (.c .nils) (some ⟨1,3⟩)),none,[]⟩] false) .ret) .skip)) (.seq (.reg [⟨(some 5),(.asg (.c .nils) (some ⟨1,3⟩)),none,[]⟩] false) (.seq (.reg [P 16 (.fldA 2 (T 2)),P 17 (.ld 1 false (T 16)),M 18 1,P 19 (.ixA 5 (T 17) (T 18)),P 20 (.ld 5 true (T 19)),P 6 (.new (.agg [(.int .i64 0),(.int .i64 0),(.int .i64 0),(.int .i64 0),(.int .u64 0)]) 5 66),⟨none,(.st 5 (T 6) (T 20)),none,[]⟩] false) (.seq (.seq (.reg [P 21 (.fldA 0 (T 6)),P 22 (.ld 1 false (T 21)),P 23 (.call (.c (.clo 112 [])) [(T 22)]),P 24 (.un .not (T 23))] false) (.cond (T 24) (.reg [M 25 5,M 26 1,P 27 (.bin .add (T 26) (C 1)),⟨(some 28),(.bldS 1 3 (.int .i64 0) 1 [⟨0,(T 27)⟩]),none,[]⟩,P 29 (.app 1 3 8 (T 25) (T 28)),⟨(some 5),(.asg (T 29) (some ⟨1,3⟩)),none,[]⟩] false) .skip)) (.seq (.seq (.reg [P 30 (.fldA 0 (T 6)),P 31 (.ld 1 false (T 30))] false) (.block 0 (.seq (.reg [P 33 (.bin .eql (T 31) (C 20)),P 32 (.asg (T 33) none)] false) (.cond (T 32) (.reg [M 34 5,P 35 (.fldA 1 (T 6)),P 36 (.ld 1 false (T 35)),⟨(some 37),(.bldS 1 3 (.int .i64 0) 1 [⟨0,(T 36)⟩]),none,[]⟩,P 38 (.app 1 3 8 (T 34) (T 37)),⟨(some 5),(.asg (T 38) (some ⟨1,3⟩)),none,[]⟩] false) (.seq (.reg [P 40 (.bin .eql (T 31) (C 21)),P 39 (.asg (T 40) none)] false) (.cond (T 39) (.reg [M 41 5,P 42 (.fldA 2 (T 6)),P 43 (.ld 1 false (T 42)),⟨(some 44),(.bldS 1 3 (.int .i64 0) 1 [⟨0,(T 43)⟩]),none,[]⟩,P 45 (.app 1 3 8 (T 41) (T 44)),⟨(some 5),(.asg (T 45) (some ⟨1,3⟩)),none,[]⟩] false) .skip)))))) (.seq (.reg [M 46 5,P 47 (.call (.c (.clo 113 [])) [(T 46)])] false) (.seq (.reg [M 48 5,P 49 (.call (.c (.clo 114 [])) [(T 48)]),⟨(some 4),(.asg (T 49) (some ⟨1,3⟩)),none,[]⟩] false) .ret))))))))
theorem AhM : (Tryd.f88.body.bind (Ke Tryd.prog Tryd.f88.ntmps)) = some Aev:=by kernel_rfl
theorem AhN : Tryd.f88.results.toList.mapM (Kl Tryd.prog) = some [(.t 4)]:=by kernel_rfl
def VI (a : JN × Int) : List D:=[Ku a.1,.int .i64 a.2]
def VH (ds : List D) : JN × Int:=(Mi (ds.getD 0 .top),uI (ds.getD 1 .top))
theorem Xn (a : JN × Int) : VH (VI a) = a:=by simp [VH,VI,uI]
def Aaq (b : (List Int)) : D:=.sl (b.map Ed)
def Aap (_b : (List Int)) : List D:=[]
noncomputable def SR : Dw.Spec:=JZ [] (.row 1 3) VI VH (fun a=>RH a.1 a.2) Aaq Aap
set_option maxHeartbeats 4000000 in
theorem ZB : JX Tryd.prog 88 SR:=by
 refine Kh (Kd (l:=[(112,Tx),(113,Qa),(114,OE)]) (by simp [Aah,Yh,WB])) Tryd.func88 (by decide) AhM AhN (np:=2) (by decide) Xn (fun _=>r) (fun _=>r) (by decide)<|?_
 rintro ⟨f1,k2⟩
 show TrE (specs [(112,Tx),(113,Qa),(114,OE)]) Aev (Km [] (.row 1 3) [(.t 4)] Aaq Aap) ⟨[(0,.agg [.int .i64 f1.Params,.sl (f1.Slots.map JQ),.sl (f1.Code.map JM)]),(1,.int .i64 k2)],[],262144⟩ (RH f1 k2)
 refine Kf<|?_
 unfold Aev RH
 refine sQ<|rG<|bX r r r r r<|aN (α:=Int) r Ed r<|nI<|xS<|sC (E:=fun (s : Unit) (g : Nat)=>[(1,.int .i64 k2),(2,.optr 2 g 0 0)]) (O:=fun s g=>[(2,some (g,⟨false,true,3,27,[.agg [.int .i64 f1.Params,.sl (f1.Slots.map JQ),.sl (f1.Code.map JM)]]⟩))]) (j:=fun s=>Ue f1 k2) ?_ ?_
 ·refine sQ<|rG<|mV r r<|bN (v:=.bool (decide (k2 < 0))) r r r r r<|mV r r<|sP 9 (b:=(decide (k2 < 0))) r ?_ ?_
  ·refine oF r<|oF r<|oF r<|oF r<|oF r<|pT r r r r<|nI<|xS<|Ly r<|sQ<|rG<|aN (α:=Int) r Ed r<|nI<|xS<|rT<|zR<|Kr (b:=([] : List Int)) r ?_ r r ?_ r ?_ (congrArg D.sl (JT _ _ r)) r
   all_goals first|(simp;done)|(simp;omega)|rfl|(simp [JR,JO];done)
  ·refine mV r r<|fA r r<|lO (v:=.sl (f1.Code.map JM)) (z:=.agg [.int .i64 f1.Params,.sl (f1.Slots.map JQ),.sl (f1.Code.map JM)]) r r r r r r<|lS r r<|bN (v:=.bool (decide (k2 ≥ (f1.Code.length : Int)))) r r r r r<|pF r r r r<|nI<|xS<|cD (c:=(decide (k2 ≥ (f1.Code.length : Int)))) r ?_ ?_
   ·refine sQ<|rG<|aN (α:=Int) r Ed r<|nI<|xS<|rT<|zR<|Kr (b:=([] : List Int)) r ?_ r r ?_ r ?_ (congrArg D.sl (JT _ _ r)) r
    all_goals first|(simp;done)|(simp;omega)|rfl|(simp [JR,JO];done)
   ·exact sK<|xC (s:=()) _ ((hE ⟨rfl,r,trivial⟩ ⟨rfl,trivial⟩))
 ·rintro ⟨⟩ v2x1 nn
  try dsimp only
  unfold Ue
  refine sQ<|rG<|aN (α:=Int) r Ed r<|nI<|xS<|sQ<|rG<|fA r r<|lO (v:=.sl (f1.Code.map JM)) (z:=.agg [.int .i64 f1.Params,.sl (f1.Slots.map JQ),.sl (f1.Code.map JM)]) r r r r r r<|mV r r<|bD fun x_x3 hx_x3=>iS (en:=JM) r r r hx_x3 r<|lF (v:=.agg [.int .i64 x_x3.Op,.int .i64 x_x3.A,.int .i64 x_x3.B,.int .i64 x_x3.C,.int .u64 x_x3.Imm]) r r r r<|nW r<|sV (z':=.agg [.int .i64 x_x3.Op,.int .i64 x_x3.A,.int .i64 x_x3.B,.int .i64 x_x3.C,.int .u64 x_x3.Imm]) r r r r r r r r r<|nI<|xS<|sC (E:=fun (s : (List Int)) (g : Nat × Nat)=>[(5,.osl 5 g.1 0 s.length),(6,.optr 6 g.2 0 0)]) (O:=fun s g=>[(5,some (g.1,⟨false,false,1,3,s.map Ed⟩)),(6,some (g.2,⟨false,true,5,66,[.agg [.int .i64 x_x3.Op,.int .i64 x_x3.A,.int .i64 x_x3.B,.int .i64 x_x3.C,.int .u64 x_x3.Imm]]⟩))]) (j:=fun s=>RI x_x3 s) ?_ ?_
  ·refine sQ<|rG<|fA r r<|lO (v:=.int .i64 x_x3.Op) (z:=.agg [.int .i64 x_x3.Op,.int .i64 x_x3.A,.int .i64 x_x3.B,.int .i64 x_x3.C,.int .u64 x_x3.Imm]) r r r r r r<|bD fun r5 hr5=>cG x_x3.Op r r r Wy r r (by simp) r hr5 r<|uN (w:=.bool (!r5)) r r r r trivial<|nI<|xS<|cD (c:=(!r5)) r ?_ ?_
   ·exact rG<|mV r r<|mV r r<|bN (v:=.int .i64 (IntKind.i64.wrap (k2 + 1))) r r r r r<|bS ([IntKind.i64.wrap (k2 + 1)] : List Int) Ed r r r (by simp) r r r<|cK fun hq=>aP (([] : List Int)) (([IntKind.i64.wrap (k2 + 1)] : List Int)) Ed r r r r r r r (by simp) (Kq _ _ r) r r (by simp) (JT _ _ r) (fun _=>r) r hq<|aO (l:=([] : List Int) ++ ([IntKind.i64.wrap (k2 + 1)] : List Int)) (en:=Ed) r r r r<|nI<|xC (s:=([] : List Int) ++ ([IntKind.i64.wrap (k2 + 1)] : List Int)) (_,_) ((hE ⟨rfl,r,trivial⟩ ⟨rfl,r,trivial⟩))
   ·exact sK<|xC (s:=([] : List Int)) (_,_) ((hE ⟨rfl,r,trivial⟩ ⟨rfl,r,trivial⟩))
  ·rintro l4 ⟨v5x2,v6x2⟩ nn
   try dsimp only
   unfold RI
   refine sQ<|sQ<|rG<|fA r r<|lO (v:=.int .i64 x_x3.Op) (z:=.agg [.int .i64 x_x3.Op,.int .i64 x_x3.A,.int .i64 x_x3.B,.int .i64 x_x3.C,.int .u64 x_x3.Imm]) r r r r r r<|nI<|xS<|bK<|sQ<|rG<|bN (v:=.bool (x_x3.Op == 20)) r r r r r<|aS r r<|nI<|xS<|cD (c:=(x_x3.Op == 20)) r ?_ ?_
   ·refine rG<|mV r r<|fA r r<|lO (v:=.int .i64 x_x3.A) (z:=.agg [.int .i64 x_x3.Op,.int .i64 x_x3.A,.int .i64 x_x3.B,.int .i64 x_x3.C,.int .u64 x_x3.Imm]) r r r r r r<|bS ([x_x3.A] : List Int) Ed r r r (by simp) r r r<|cK fun hq=>aP (l4) (([x_x3.A] : List Int)) Ed r r r r r r r (by simp) (Kq _ _ r) r r (by simp) (JT _ _ r) (fun _=>r) r hq<|aO (l:=l4 ++ ([x_x3.A] : List Int)) (en:=Ed) r r r r<|nI<|bM<|xS<|sQ<|rG<|mV r r<|cK fun hq=>YQ (l:=l4 ++ ([x_x3.A] : List Int)) (l':=LK (l4 ++ ([x_x3.A] : List Int))) r r r r r r r hq r<|nI<|xS<|sQ<|rG<|mV r r<|cK fun hq=>XD (l:=LK (l4 ++ ([x_x3.A] : List Int))) (l':=Lib.compact (LK (l4 ++ ([x_x3.A] : List Int)))) r r r r r (by simp) r hq (UM _) r<|aO (l:=Lib.compact (LK (l4 ++ ([x_x3.A] : List Int)))) (en:=Ed) r r r r<|nI<|xS<|rT<|Kr (b:=Lib.compact (LK (l4 ++ ([x_x3.A] : List Int)))) r ?_ r r ?_ r ?_ (congrArg D.sl (JT _ _ r)) r
    all_goals first|(simp;done)|(simp;omega)|rfl|(simp [JR,JO];done)
   ·refine sQ<|rG<|bN (v:=.bool (x_x3.Op == 21)) r r r r r<|aS r r<|nI<|xS<|cD (c:=(x_x3.Op == 21)) r ?_ ?_
    ·refine rG<|mV r r<|fA r r<|lO (v:=.int .i64 x_x3.B) (z:=.agg [.int .i64 x_x3.Op,.int .i64 x_x3.A,.int .i64 x_x3.B,.int .i64 x_x3.C,.int .u64 x_x3.Imm]) r r r r r r<|bS ([x_x3.B] : List Int) Ed r r r (by simp) r r r<|cK fun hq=>aP (l4) (([x_x3.B] : List Int)) Ed r r r r r r r (by simp) (Kq _ _ r) r r (by simp) (JT _ _ r) (fun _=>r) r hq<|aO (l:=l4 ++ ([x_x3.B] : List Int)) (en:=Ed) r r r r<|nI<|bM<|xS<|sQ<|rG<|mV r r<|cK fun hq=>YQ (l:=l4 ++ ([x_x3.B] : List Int)) (l':=LK (l4 ++ ([x_x3.B] : List Int))) r r r r r r r hq r<|nI<|xS<|sQ<|rG<|mV r r<|cK fun hq=>XD (l:=LK (l4 ++ ([x_x3.B] : List Int))) (l':=Lib.compact (LK (l4 ++ ([x_x3.B] : List Int)))) r r r r r (by simp) r hq (UM _) r<|aO (l:=Lib.compact (LK (l4 ++ ([x_x3.B] : List Int)))) (en:=Ed) r r r r<|nI<|xS<|rT<|Kr (b:=Lib.compact (LK (l4 ++ ([x_x3.B] : List Int)))) r ?_ r r ?_ r ?_ (congrArg D.sl (JT _ _ r)) r
     all_goals first|(simp;done)|(simp;omega)|rfl|(simp [JR,JO];done)
    ·refine sK<|bM<|xS<|sQ<|rG<|mV r r<|cK fun hq=>YQ (l:=l4) (l':=LK l4) r r r r r r r hq r<|nI<|xS<|sQ<|rG<|mV r r<|cK fun hq=>XD (l:=LK l4) (l':=Lib.compact (LK l4)) r r r r r (by simp) r hq (UM _) r<|aO (l:=Lib.compact (LK l4)) (en:=Ed) r r r r<|nI<|xS<|rT<|Kr (b:=Lib.compact (LK l4)) r ?_ r r ?_ r ?_ (congrArg D.sl (JT _ _ r)) r
     all_goals first|(simp;done)|(simp;omega)|rfl|(simp [JR,JO];done)

def AeB : Kb:=(.seq (.reg [⟨(some 3),(.asg (.c .nils) (some ⟨1,3⟩)),none,[]⟩] false) (.seq (.reg [P 4 (.fldA 0 (T 1)),P 5 (.ld 1 false (T 4)),M 6 0,P 7 (.ixA 1 (T 5) (T 6)),P 8 (.ld 1 false (T 7)),⟨(some 3),(.asg (T 8) (some ⟨1,3⟩)),none,[]⟩] false) .ret))
theorem AhY : (Tryd.f94.body.bind (Ke Tryd.prog Tryd.f94.ntmps)) = some AeB:=by kernel_rfl
theorem AhZ : Tryd.f94.results.toList.mapM (Kl Tryd.prog) = some [(.t 3)]:=by kernel_rfl
def OR (a : Int × JP) : List D:=[.int .i64 a.1,.fptr (KF a.2) 0]
def OQ (ds : List D) : Int × JP:=(uI (ds.getD 0 .top),Mp (fpD (ds.getD 1 .top)))
theorem SV (a : Int × JP) : OQ (OR a) = a:=by simp [OQ,OR,uI,fpD]
def TK (b : (List Int)) : D:=.sl (b.map Ed)
def TJ (_b : (List Int)) : List D:=[]
noncomputable def PW : Dw.Spec:=JZ [] .val OR OQ (fun a=>Nl a.1 a.2) TK TJ
set_option maxHeartbeats 4000000 in
theorem Yd : JX Tryd.prog 94 PW:=by
 refine Kh (Ls) Tryd.func94 (by decide) AhY AhZ (np:=2) (by decide) SV (fun _=>r) (fun _=>r) (by decide)<|?_
 rintro ⟨j1,cap2⟩
 show TrE (specs []) AeB (Km [] .val [(.t 3)] TK TJ) ⟨[(0,.int .i64 j1),(1,.fptr (.agg [.sl (cap2.Out.map (eL Ed))]) 0)],[],262144⟩ (Nl j1 cap2)
 refine Kf<|?_
 unfold AeB Nl
 refine sQ<|rG<|aN (α:=Int) r Ed r<|nI<|xS<|sQ<|rG<|fF r r<|lF (v:=.sl (cap2.Out.map (eL Ed))) r r r r<|mV r r<|bD fun x_x3 hx_x3=>iS (en:=(eL Ed)) r r r hx_x3 r<|lF (v:=.sl (x_x3.map Ed)) r r r r<|aL r r<|nI<|xS<|rT<|KC (b:=x_x3) r ?_ r r ?_ r
 all_goals first|(simp;done)|(simp;omega)|rfl|(simp [JR,JO];done)

def Acx : Kb:=(.seq (.reg [P 1 (.box (T 0) 5 66),P 2 (.asg (C 0) none),P 3 (.asg (.c (.bool false)) none)] false) (.seq (.seq (.reg [P 4 (.fldA 0 (T 1)),P 5 (.ld 1 false (T 4))] false) (.block 0 (.seq (.seq (.reg [P 7 (.bin .eql (T 5) (C 16)),P 6 (.asg (T 7) none)] false) (.cond (T 6) .skip (.reg [P 8 (.bin .eql (T 5) (C 17)),P 6 (.asg (T 8) none)] false))) (.cond (T 6) (.seq (.reg [P 9 (.fldA 1 (T 1)),P 10 (.ld 1 false (T 9)),P 2 (.asg (T 10) none),P 3 (.asg (.c (.bool true)) none)] false) .ret) .skip)))) (.seq (.reg [P 2 (.asg (C 0) none),P 3 (.asg (.c (.bool false)) none)] false) .ret)))
theorem Afa : (Tryd.f100.body.bind (Ke Tryd.prog Tryd.f100.ntmps)) = some Acx:=by kernel_rfl
theorem Afb : Tryd.f100.results.toList.mapM (Kl Tryd.prog) = some [(.t 2),(.t 3)]:=by kernel_rfl
def RF (a : JK) : List D:=[JM a]
def RE (ds : List D) : JK:=RW (ds.getD 0 .top)
theorem Wn (a : JK) : RE (RF a) = a:=by simp [RE,RF]
def Xl (b : Int × Bool) : D:=.tup [.int .i64 b.1,.bool b.2]
def Xk (_b : Int × Bool) : List D:=[]
noncomputable def Ts : Dw.Spec:=JZ [] .ground RF RE (fun a=>Ot a) Xl Xk
set_option maxHeartbeats 4000000 in
theorem Aaf : JX Tryd.prog 100 Ts:=by
 refine Kh (Ls) Tryd.func100 (by decide) Afa Afb (np:=1) (by decide) Wn (fun _=>r) (fun _=>r) (by decide)<|?_
 intro x1
 show TrE (specs []) Acx (Km [] .ground [(.t 2),(.t 3)] Xl Xk) ⟨[(0,.agg [.int .i64 x1.Op,.int .i64 x1.A,.int .i64 x1.B,.int .i64 x1.C,.int .u64 x1.Imm])],[],262144⟩ (Ot x1)
 refine Kf<|?_
 unfold Acx Ot
 refine sQ<|rG<|bX r r r r r<|aS r r<|aS r r<|nI<|xS<|sQ<|sQ<|rG<|fA r r<|lO (v:=.int .i64 x1.Op) (z:=.agg [.int .i64 x1.Op,.int .i64 x1.A,.int .i64 x1.B,.int .i64 x1.C,.int .u64 x1.Imm]) r r r r r r<|nI<|xS<|bK<|sQ<|sQ<|rG<|bN (v:=.bool (x1.Op == 16)) r r r r r<|aS r r<|nI<|xS<|cD (c:=(x1.Op == 16)) r ?_ ?_
 ·refine sK<|xS<|cD (c:=(x1.Op == 16)) r ?_ ?_
  ·refine sQ<|rG<|fA r r<|lO (v:=.int .i64 x1.A) (z:=.agg [.int .i64 x1.Op,.int .i64 x1.A,.int .i64 x1.B,.int .i64 x1.C,.int .u64 x1.Imm]) r r r r r r<|aS r r<|aS r r<|nI<|xS<|rT<|bR<|xR<|Lh (b:=(x1.A,true)) r ?_ r r ?_ r (by decide)
   all_goals first|(simp;done)|(simp;omega)|rfl|(simp [JR,JO];done)
  ·refine sK<|bM<|xS<|sQ<|rG<|aS r r<|aS r r<|nI<|xS<|rT<|Lh (b:=(0,false)) r ?_ r r ?_ r (by decide)
   all_goals first|(simp;done)|(simp;omega)|rfl|(simp [JR,JO];done)
 ·refine rG<|bN (v:=.bool (x1.Op == 17)) r r r r r<|aS r r<|nI<|xS<|cD (c:=(x1.Op == 17)) r ?_ ?_
  ·refine sQ<|rG<|fA r r<|lO (v:=.int .i64 x1.A) (z:=.agg [.int .i64 x1.Op,.int .i64 x1.A,.int .i64 x1.B,.int .i64 x1.C,.int .u64 x1.Imm]) r r r r r r<|aS r r<|aS r r<|nI<|xS<|rT<|bR<|xR<|Lh (b:=(x1.A,true)) r ?_ r r ?_ r (by decide)
   all_goals first|(simp;done)|(simp;omega)|rfl|(simp [JR,JO];done)
  ·refine sK<|bM<|xS<|sQ<|rG<|aS r r<|aS r r<|nI<|xS<|rT<|Lh (b:=(0,false)) r ?_ r r ?_ r (by decide)
   all_goals first|(simp;done)|(simp;omega)|rfl|(simp [JR,JO];done)

def AcA : Kb:=(.seq (.reg [M 7 1,P 8 (.cvt .u64 (T 7)),P 9 (.bin .rem (T 8) (.c (.int .u64 64))),P 10 (.bin .shl (.c (.int .u64 1)) (T 9)),P 6 (.asg (T 10) none)] false) (.block 0 (.seq (.reg [M 22 1,P 23 (.call (.c (.clo 115 [])) [(T 22)]),P 24 (.un .not (T 23)),P 21 (.asg (T 24) none)] false) (.cond (T 21) .skip (.seq (.reg [M 26 2,P 25 (.asg (T 26) none)] false) (.cond (T 25) (.reg [M 27 0,M 28 1,⟨(some 29),(.bin .quo (T 28) (C 64)),none,[1]⟩,⟨(some 30),(.nilck (T 27)),none,[0]⟩,⟨(some 31),(.ixP 1 8 (T 30) (T 29)),none,[3,2]⟩,⟨(some 32),(.ld 1 false (T 31)),none,[4]⟩,M 33 6,⟨(some 34),(.bin .or (T 32) (T 33)),none,[5,6]⟩,⟨(some 35),(.nilck (T 27)),none,[0]⟩,⟨(some 36),(.ixP 1 8 (T 35) (T 29)),none,[8,2,0,1,2,3,4,5,6,7]⟩,⟨none,(.st 1 (T 36) (T 34)),none,[9,7,0,1,2,3,4,5,6,7]⟩] true) (.reg [M 11 0,M 12 1,⟨(some 13),(.bin .quo (T 12) (C 64)),none,[1]⟩,⟨(some 14),(.nilck (T 11)),none,[0]⟩,⟨(some 15),(.ixP 1 8 (T 14) (T 13)),none,[3,2]⟩,⟨(some 16),(.ld 1 false (T 15)),none,[4]⟩,M 17 6,⟨(some 18),(.bin .andNot (T 16) (T 17)),none,[5,6]⟩,⟨(some 19),(.nilck (T 11)),none,[0]⟩,⟨(some 20),(.ixP 1 8 (T 19) (T 13)),none,[8,2,0,1,2,3,4,5,6,7]⟩,⟨none,(.st 1 (T 20) (T 18)),none,[9,7,0,1,2,3,4,5,6,7]⟩] true)))))))
theorem Afg : (Tryd.f103.body.bind (Ke Tryd.prog Tryd.f103.ntmps)) = some AcA:=by kernel_rfl
theorem Afh : Tryd.f103.results.toList.mapM (Kl Tryd.prog) = some []:=by kernel_rfl
def Px (a : JL × Int × Bool) : List D:=[Kj a.1,.int .i64 a.2.1,.bool a.2.2]
def Pw (ds : List D) : JL × Int × Bool:=(KO (ds.getD 0 .top),uI (ds.getD 1 .top),uBo (ds.getD 2 .top))
theorem PM (a : JL × Int × Bool) : Pw (Px a) = a:=by simp [Pw,Px,uI,uBo]
def TX (b : JL) : D:=.tup []
def TW (b : JL) : List D:=[Kj b]
noncomputable def MO : Dw.Spec:=JZ [(0,(8,122))] .val Px Pw (fun a=>LW a.1 a.2.1 a.2.2) TX TW
set_option maxHeartbeats 4000000 in
theorem TC : JX Tryd.prog 103 MO:=by
 refine Kh (Kd (l:=[(115,LH)]) (by simp [Qm])) Tryd.func103 (by decide) Afg Afh (np:=3) (by decide) PM (fun _=>r) (fun _=>r) (by decide)<|?_
 rintro ⟨s1,n2,in3⟩
 show TrE (specs [(115,LH)]) AcA (Km [(0,(8,122))] .val [] TX TW) ⟨[(0,.optr 8192 0 0 0),(1,.int .i64 n2),(2,.bool in3)],[(8192,some (0,⟨false,true,8,122,[.agg [.int .u64 s1.a0,.int .u64 s1.a1,.int .u64 s1.a2,.int .u64 s1.a3,.int .u64 s1.a4,.int .u64 s1.a5,.int .u64 s1.a6,.int .u64 s1.a7]]⟩))],262144⟩ (LW s1 n2 in3)
 refine Kf<|?_
 unfold AcA LW
 refine sQ<|rG<|mV r r<|cT r r<|bN (v:=.int .u64 ((IntKind.u64.wrap (n2)).tmod 64)) r r r r ⟨rfl,(by decide)⟩<|cK fun hq=>bN (v:=.int .u64 (IntKind.u64.wrap (1 * 2 ^ (Nat.min ((IntKind.u64.wrap (n2)).tmod 64).toNat IntKind.u64.bits)))) r r r r hq<|aS r r<|nI<|xS<|bK<|sQ<|rG<|mV r r<|bD fun r4 hr4=>cG n2 r r r Oi r r (by simp) r hr4 r<|uN (w:=.bool (!r4)) r r r r trivial<|aS r r<|nI<|xS<|cD (c:=(!r4)) r ?_ ?_
 ·refine sK<|bM<|Yg (b:=s1) r ?_ r r ?_ r (by decide)
  all_goals first|(simp;done)|(simp;omega)|rfl|(simp [JR,JO];done)
 ·refine sQ<|rG<|mV r r<|aS r r<|nI<|xS<|cD (c:=in3) r ?_ ?_
  ·refine rG<|mV r r<|mV r r<|bN (v:=.int .i64 (IntKind.i64.wrap (n2.tdiv 64))) r r r r ⟨rfl,(by decide)⟩<|nC r r r<|cK fun hq=>Qd r r r hq<|bD fun s_e5 hs_e5=>Qu (q:=s_e5) (l:=s1.toList) (en:=SG) (j:=(IntKind.i64.wrap (n2.tdiv 64)).toNat) (by simp) r r r hs_e5 r (fun _=>r)<|mV r r<|bN (v:=.int .u64 (IntKind.u64.wrap ((BitVec.ofInt IntKind.u64.bits s_e5 ||| BitVec.ofInt IntKind.u64.bits (IntKind.u64.wrap (1 * 2 ^ (Nat.min ((IntKind.u64.wrap (n2)).tmod 64).toNat IntKind.u64.bits)))).toNat))) r r r r r<|nC r r r<|cK fun hq=>Qd r r r hq<|bD fun s_o6 hs_o6=>XW (q:=s_o6) (q':=IntKind.u64.wrap ((BitVec.ofInt IntKind.u64.bits s_e5 ||| BitVec.ofInt IntKind.u64.bits (IntKind.u64.wrap (1 * 2 ^ (Nat.min ((IntKind.u64.wrap (n2)).tmod 64).toNat IntKind.u64.bits)))).toNat)) (l:=s1.toList) (en:=SG) (j:=(IntKind.i64.wrap (n2.tdiv 64)).toNat) (z':=.agg [.int .u64 ((s1.set ((IntKind.i64.wrap (n2.tdiv 64)).toNat) (IntKind.u64.wrap ((BitVec.ofInt IntKind.u64.bits s_e5 ||| BitVec.ofInt IntKind.u64.bits (IntKind.u64.wrap (1 * 2 ^ (Nat.min ((IntKind.u64.wrap (n2)).tmod 64).toNat IntKind.u64.bits)))).toNat))).a0),.int .u64 ((s1.set ((IntKind.i64.wrap (n2.tdiv 64)).toNat) (IntKind.u64.wrap ((BitVec.ofInt IntKind.u64.bits s_e5 ||| BitVec.ofInt IntKind.u64.bits (IntKind.u64.wrap (1 * 2 ^ (Nat.min ((IntKind.u64.wrap (n2)).tmod 64).toNat IntKind.u64.bits)))).toNat))).a1),.int .u64 ((s1.set ((IntKind.i64.wrap (n2.tdiv 64)).toNat) (IntKind.u64.wrap ((BitVec.ofInt IntKind.u64.bits s_e5 ||| BitVec.ofInt IntKind.u64.bits (IntKind.u64.wrap (1 * 2 ^ (Nat.min ((IntKind.u64.wrap (n2)).tmod 64).toNat IntKind.u64.bits)))).toNat))).a2),.int .u64 ((s1.set ((IntKind.i64.wrap (n2.tdiv 64)).toNat) (IntKind.u64.wrap ((BitVec.ofInt IntKind.u64.bits s_e5 ||| BitVec.ofInt IntKind.u64.bits (IntKind.u64.wrap (1 * 2 ^ (Nat.min ((IntKind.u64.wrap (n2)).tmod 64).toNat IntKind.u64.bits)))).toNat))).a3),.int .u64 ((s1.set ((IntKind.i64.wrap (n2.tdiv 64)).toNat) (IntKind.u64.wrap ((BitVec.ofInt IntKind.u64.bits s_e5 ||| BitVec.ofInt IntKind.u64.bits (IntKind.u64.wrap (1 * 2 ^ (Nat.min ((IntKind.u64.wrap (n2)).tmod 64).toNat IntKind.u64.bits)))).toNat))).a4),.int .u64 ((s1.set ((IntKind.i64.wrap (n2.tdiv 64)).toNat) (IntKind.u64.wrap ((BitVec.ofInt IntKind.u64.bits s_e5 ||| BitVec.ofInt IntKind.u64.bits (IntKind.u64.wrap (1 * 2 ^ (Nat.min ((IntKind.u64.wrap (n2)).tmod 64).toNat IntKind.u64.bits)))).toNat))).a5),.int .u64 ((s1.set ((IntKind.i64.wrap (n2.tdiv 64)).toNat) (IntKind.u64.wrap ((BitVec.ofInt IntKind.u64.bits s_e5 ||| BitVec.ofInt IntKind.u64.bits (IntKind.u64.wrap (1 * 2 ^ (Nat.min ((IntKind.u64.wrap (n2)).tmod 64).toNat IntKind.u64.bits)))).toNat))).a6),.int .u64 ((s1.set ((IntKind.i64.wrap (n2.tdiv 64)).toNat) (IntKind.u64.wrap ((BitVec.ofInt IntKind.u64.bits s_e5 ||| BitVec.ofInt IntKind.u64.bits (IntKind.u64.wrap (1 * 2 ^ (Nat.min ((IntKind.u64.wrap (n2)).tmod 64).toNat IntKind.u64.bits)))).toNat))).a7)]) (by simp) r r r r r hs_o6 r r (congrArg (fun l=>D.agg (l.map SG)) (Ma s1 ((IntKind.i64.wrap (n2.tdiv 64)).toNat) (IntKind.u64.wrap ((BitVec.ofInt IntKind.u64.bits s_e5 ||| BitVec.ofInt IntKind.u64.bits (IntKind.u64.wrap (1 * 2 ^ (Nat.min ((IntKind.u64.wrap (n2)).tmod 64).toNat IntKind.u64.bits)))).toNat))).symm) r r<|Ka (by kernel_rfl)<|bM<|Yg (b:=(s1.set ((IntKind.i64.wrap (n2.tdiv 64)).toNat) (IntKind.u64.wrap ((BitVec.ofInt IntKind.u64.bits s_e5 ||| BitVec.ofInt IntKind.u64.bits (IntKind.u64.wrap (1 * 2 ^ (Nat.min ((IntKind.u64.wrap (n2)).tmod 64).toNat IntKind.u64.bits)))).toNat)))) r ?_ r r ?_ r (by decide)
   all_goals first|(simp;done)|(simp;omega)|rfl|(simp [JR,JO];done)
  ·refine rG<|mV r r<|mV r r<|bN (v:=.int .i64 (IntKind.i64.wrap (n2.tdiv 64))) r r r r ⟨rfl,(by decide)⟩<|nC r r r<|cK fun hq=>Qd r r r hq<|bD fun s_e7 hs_e7=>Qu (q:=s_e7) (l:=s1.toList) (en:=SG) (j:=(IntKind.i64.wrap (n2.tdiv 64)).toNat) (by simp) r r r hs_e7 r (fun _=>r)<|mV r r<|bN (v:=.int .u64 (IntKind.u64.wrap ((BitVec.ofInt IntKind.u64.bits s_e7 &&& ~~~ BitVec.ofInt IntKind.u64.bits (IntKind.u64.wrap (1 * 2 ^ (Nat.min ((IntKind.u64.wrap (n2)).tmod 64).toNat IntKind.u64.bits)))).toNat))) r r r r r<|nC r r r<|cK fun hq=>Qd r r r hq<|bD fun s_o8 hs_o8=>XW (q:=s_o8) (q':=IntKind.u64.wrap ((BitVec.ofInt IntKind.u64.bits s_e7 &&& ~~~ BitVec.ofInt IntKind.u64.bits (IntKind.u64.wrap (1 * 2 ^ (Nat.min ((IntKind.u64.wrap (n2)).tmod 64).toNat IntKind.u64.bits)))).toNat)) (l:=s1.toList) (en:=SG) (j:=(IntKind.i64.wrap (n2.tdiv 64)).toNat) (z':=.agg [.int .u64 ((s1.set ((IntKind.i64.wrap (n2.tdiv 64)).toNat) (IntKind.u64.wrap ((BitVec.ofInt IntKind.u64.bits s_e7 &&& ~~~ BitVec.ofInt IntKind.u64.bits (IntKind.u64.wrap (1 * 2 ^ (Nat.min ((IntKind.u64.wrap (n2)).tmod 64).toNat IntKind.u64.bits)))).toNat))).a0),.int .u64 ((s1.set ((IntKind.i64.wrap (n2.tdiv 64)).toNat) (IntKind.u64.wrap ((BitVec.ofInt IntKind.u64.bits s_e7 &&& ~~~ BitVec.ofInt IntKind.u64.bits (IntKind.u64.wrap (1 * 2 ^ (Nat.min ((IntKind.u64.wrap (n2)).tmod 64).toNat IntKind.u64.bits)))).toNat))).a1),.int .u64 ((s1.set ((IntKind.i64.wrap (n2.tdiv 64)).toNat) (IntKind.u64.wrap ((BitVec.ofInt IntKind.u64.bits s_e7 &&& ~~~ BitVec.ofInt IntKind.u64.bits (IntKind.u64.wrap (1 * 2 ^ (Nat.min ((IntKind.u64.wrap (n2)).tmod 64).toNat IntKind.u64.bits)))).toNat))).a2),.int .u64 ((s1.set ((IntKind.i64.wrap (n2.tdiv 64)).toNat) (IntKind.u64.wrap ((BitVec.ofInt IntKind.u64.bits s_e7 &&& ~~~ BitVec.ofInt IntKind.u64.bits (IntKind.u64.wrap (1 * 2 ^ (Nat.min ((IntKind.u64.wrap (n2)).tmod 64).toNat IntKind.u64.bits)))).toNat))).a3),.int .u64 ((s1.set ((IntKind.i64.wrap (n2.tdiv 64)).toNat) (IntKind.u64.wrap ((BitVec.ofInt IntKind.u64.bits s_e7 &&& ~~~ BitVec.ofInt IntKind.u64.bits (IntKind.u64.wrap (1 * 2 ^ (Nat.min ((IntKind.u64.wrap (n2)).tmod 64).toNat IntKind.u64.bits)))).toNat))).a4),.int .u64 ((s1.set ((IntKind.i64.wrap (n2.tdiv 64)).toNat) (IntKind.u64.wrap ((BitVec.ofInt IntKind.u64.bits s_e7 &&& ~~~ BitVec.ofInt IntKind.u64.bits (IntKind.u64.wrap (1 * 2 ^ (Nat.min ((IntKind.u64.wrap (n2)).tmod 64).toNat IntKind.u64.bits)))).toNat))).a5),.int .u64 ((s1.set ((IntKind.i64.wrap (n2.tdiv 64)).toNat) (IntKind.u64.wrap ((BitVec.ofInt IntKind.u64.bits s_e7 &&& ~~~ BitVec.ofInt IntKind.u64.bits (IntKind.u64.wrap (1 * 2 ^ (Nat.min ((IntKind.u64.wrap (n2)).tmod 64).toNat IntKind.u64.bits)))).toNat))).a6),.int .u64 ((s1.set ((IntKind.i64.wrap (n2.tdiv 64)).toNat) (IntKind.u64.wrap ((BitVec.ofInt IntKind.u64.bits s_e7 &&& ~~~ BitVec.ofInt IntKind.u64.bits (IntKind.u64.wrap (1 * 2 ^ (Nat.min ((IntKind.u64.wrap (n2)).tmod 64).toNat IntKind.u64.bits)))).toNat))).a7)]) (by simp) r r r r r hs_o8 r r (congrArg (fun l=>D.agg (l.map SG)) (Ma s1 ((IntKind.i64.wrap (n2.tdiv 64)).toNat) (IntKind.u64.wrap ((BitVec.ofInt IntKind.u64.bits s_e7 &&& ~~~ BitVec.ofInt IntKind.u64.bits (IntKind.u64.wrap (1 * 2 ^ (Nat.min ((IntKind.u64.wrap (n2)).tmod 64).toNat IntKind.u64.bits)))).toNat))).symm) r r<|Ka (by kernel_rfl)<|bM<|Yg (b:=(s1.set ((IntKind.i64.wrap (n2.tdiv 64)).toNat) (IntKind.u64.wrap ((BitVec.ofInt IntKind.u64.bits s_e7 &&& ~~~ BitVec.ofInt IntKind.u64.bits (IntKind.u64.wrap (1 * 2 ^ (Nat.min ((IntKind.u64.wrap (n2)).tmod 64).toNat IntKind.u64.bits)))).toNat)))) r ?_ r r ?_ r (by decide)
   all_goals first|(simp;done)|(simp;omega)|rfl|(simp [JR,JO];done)

def AeC : Kb:=(.seq (.reg [P 2 (.asg (.c .top) none)] false) (.seq (.reg [P 6 (.bld [(.int .u64 0),(.int .u64 0),(.int .u64 0),(.int .u64 0),(.int .u64 0),(.int .u64 0),(.int .u64 0),(.int .u64 0)] []),P 7 (.box (T 6) 8 122),P 3 (.asg (T 7) none)] false) (.seq (.seq (.reg [M 8 0,P 9 (.len false (T 8)),P 10 (.mv (C 0))] false) (.block 0 (.loop (.seq (.reg [P 11 (.bin .lss (T 10) (T 9))] false) (.seq (.cond (T 11) .skip (.exit 0)) (.seq (.block 1 (.seq (.reg [P 12 (.ixA 1 (T 8) (T 10)),P 13 (.ld 1 false (T 12)),P 5 (.asg (T 13) none)] false) (.reg [M 14 3,M 15 5,P 16 (.call (.c (.clo 103 [])) [(T 14),(T 15),(.c (.bool true))])] false))) (.reg [P 17 (.bin .add (T 10) (C 1)),M 10 17] false))))))) (.seq (.reg [M 18 3,P 2 (.asg (T 18) none)] false) .ret))))
theorem Aia : (Tryd.f95.body.bind (Ke Tryd.prog Tryd.f95.ntmps)) = some AeC:=by kernel_rfl
theorem Aib : Tryd.f95.results.toList.mapM (Kl Tryd.prog) = some [(.t 2)]:=by kernel_rfl
def Sz (a : (List Int)) : List D:=[.sl (a.map Ed)]
def Sy (ds : List D) : (List Int):=(uL uI) (ds.getD 0 .top)
theorem LV (a : (List Int)) : Sy (Sz a) = a:=by simp [Sy,Sz,Lr (u:=uI) (en:=Ed) (fun _=>rfl)]
def XN (b : JL) : D:=Kj b
def XM (_b : JL) : List D:=[]
noncomputable def Li : Dw.Spec:=JZ [] (.ptr 8 122) Sz Sy (fun a=>Lt a) XN XM
set_option maxHeartbeats 4000000 in
theorem OA : JX Tryd.prog 95 Li:=by
 refine Kh (Kd (l:=[(103,MO)]) (by simp [TC])) Tryd.func95 (by decide) Aia Aib (np:=1) (by decide) LV (fun _=>r) (fun _=>r) (by decide)<|?_
 intro l1
 show TrE (specs [(103,MO)]) AeC (Km [] (.ptr 8 122) [(.t 2)] XN XM) ⟨[(0,.sl (l1.map Ed))],[],262144⟩ (Lt l1)
 refine Kf<|?_
 unfold AeC Lt
 refine sQ<|rG<|aS r r<|nI<|xS<|sQ<|rG<|bL (cs:=[.int .u64 0,.int .u64 0,.int .u64 0,.int .u64 0,.int .u64 0,.int .u64 0,.int .u64 0,.int .u64 0]) (ps:=[]) r r r r<|bX r r r r r<|aS r r<|nI<|xS<|sQ<|sQ<|rG<|mV r r<|lS r r<|mV r r<|nI<|xS<|bK<|lP (E:=fun (s : JL × Int) (g : Nat)=>[(3,.optr 7 g 0 0),(8,.sl (l1.map Ed)),(9,.int .i64 (l1.length : Int)),(10,.int .i64 s.2)]) (O:=fun s g=>[(7,some (g,⟨false,true,8,122,[.agg [.int .u64 s.1.a0,.int .u64 s.1.a1,.int .u64 s.1.a2,.int .u64 s.1.a3,.int .u64 s.1.a4,.int .u64 s.1.a5,.int .u64 s.1.a6,.int .u64 s.1.a7]]⟩))]) (body:=fun s=>Ql l1 s.1 s.2) (s:=((JL.mk 0 0 0 0 0 0 0 0),0)) _ ((hE ⟨rfl,r,r,r,trivial⟩ ⟨rfl,trivial⟩))<|?_
 rintro ⟨x2,x3⟩ v7x1 nn
 try dsimp only
 unfold Ql
 refine sQ<|rG<|bN (v:=.bool (decide (x3 < (l1.length : Int)))) r r r r r<|nI<|xS<|sQ<|cD (c:=(decide (x3 < (l1.length : Int)))) r ?_ ?_
 ·exact sK<|xS<|sQ<|bK<|sQ<|rG<|bD fun x_x4 hx_x4=>iS (en:=Ed) r r r hx_x4 r<|lF (v:=.int .i64 x_x4) r r r r<|aS r r<|nI<|xS<|rG<|mV r r<|mV r r<|bD fun r5 hr5=>cV (x2,x_x4,true) r r r PM r r (by simp) r hr5<|nI<|bM<|xS<|rG<|bN (v:=.int .i64 (IntKind.i64.wrap (x3 + 1))) r r r r r<|mV r r<|nI<|xL (s:=(r5,IntKind.i64.wrap (x3 + 1))) _ ((hE ⟨rfl,r,r,r,trivial⟩ ⟨rfl,trivial⟩))
 ·refine eT<|xE<|lE<|bH<|xS<|sQ<|rG<|mV r r<|aS r r<|nI<|xS<|rT<|ZZ (b:=x2) r ?_ r ?_ r r ?_ r
  all_goals first|(simp;done)|(simp;omega)|rfl|(simp [JR,JO];done)

def AeE : Kb:=(.seq (.reg [⟨(some 2),(.asg (.c .nils) (some ⟨1,3⟩)),none,[]⟩] false) (.seq (.reg [⟨(some 3),(.asg (.c .nils) (some ⟨1,3⟩)),none,[]⟩] false) (.seq (.seq (.reg [M 6 0,P 7 (.mv (C 0))] false) (.block 0 (.loop (.seq (.reg [P 8 (.bin .lss (T 7) (C 8))] false) (.seq (.cond (T 8) .skip (.exit 0)) (.seq (.block 1 (.seq (.reg [M 9 7,P 10 (.nilck (T 6)),⟨(some 11),(.ixP 1 8 (T 10) (T 7)),none,[1]⟩,⟨(some 12),(.ld 1 false (T 11)),none,[2]⟩,⟨(some 4),(.asg (T 9) none),none,[0,0]⟩,⟨(some 5),(.asg (T 12) none),none,[3,4,0,1,2,3,4]⟩] true) (.block 2 (.loop (.seq (.seq (.reg [M 13 5,P 14 (.bin .neq (T 13) (.c (.int .u64 0)))] false) (.cond (T 14) .skip (.exit 2))) (.seq (.block 3 (.reg [M 19 3,M 20 4,P 21 (.bin .mul (C 64) (T 20)),M 22 5,P 23 (.call (.c (.clo 117 [])) [(T 22)]),P 24 (.bin .add (T 21) (T 23)),⟨(some 25),(.bldS 1 3 (.int .i64 0) 1 [⟨0,(T 24)⟩]),none,[]⟩,P 26 (.app 1 3 8 (T 19) (T 25)),⟨(some 3),(.asg (T 26) (some ⟨1,3⟩)),none,[]⟩] false)) (.reg [M 15 5,M 16 5,P 17 (.bin .sub (T 16) (.c (.int .u64 1))),P 18 (.bin .and (T 15) (T 17)),P 5 (.asg (T 18) none)] false))))))) (.reg [P 27 (.bin .add (T 7) (C 1)),M 7 27] false))))))) (.seq (.reg [M 28 3,⟨(some 2),(.asg (T 28) (some ⟨1,3⟩)),none,[]⟩] false) .ret))))
theorem Aie : (Tryd.f98.body.bind (Ke Tryd.prog Tryd.f98.ntmps)) = some AeE:=by kernel_rfl
theorem Aif : Tryd.f98.results.toList.mapM (Kl Tryd.prog) = some [(.t 2)]:=by kernel_rfl
def OL (a : JL) : List D:=[Kj a]
def OK (ds : List D) : JL:=KO (ds.getD 0 .top)
theorem Mk (a : JL) : OK (OL a) = a:=by simp [OK,OL]
def TB (b : (List Int) × JL) : D:=.sl (b.1.map Ed)
def TA (b : (List Int) × JL) : List D:=[Kj b.2]
noncomputable def KL : Dw.Spec:=JZ [(0,(8,122))] (.row 1 3) OL OK (fun a=>KW a) TB TA
set_option maxHeartbeats 4000000 in
theorem Nz : JX Tryd.prog 98 KL:=by
 refine Kh (Kd (l:=[(117,AaQ)]) (by simp [AfV])) Tryd.func98 (by decide) Aie Aif (np:=1) (by decide) Mk (fun _=>r) (fun _=>r) (by decide)<|?_
 intro s1
 show TrE (specs [(117,AaQ)]) AeE (Km [(0,(8,122))] (.row 1 3) [(.t 2)] TB TA) ⟨[(0,.optr 8192 0 0 0)],[(8192,some (0,⟨false,true,8,122,[.agg [.int .u64 s1.a0,.int .u64 s1.a1,.int .u64 s1.a2,.int .u64 s1.a3,.int .u64 s1.a4,.int .u64 s1.a5,.int .u64 s1.a6,.int .u64 s1.a7]]⟩))],262144⟩ (KW s1)
 refine Kf<|?_
 unfold AeE KW
 refine sQ<|rG<|aN (α:=Int) r Ed r<|nI<|xS<|sQ<|rG<|aN (α:=Int) r Ed r<|nI<|xS<|sQ<|sQ<|rG<|mV r r<|mV r r<|nI<|xS<|bK<|lP (E:=fun (s : (List Int) × Int) (g : Nat)=>[(3,.osl 3 g 0 s.1.length),(6,.optr 8192 0 0 0),(7,.int .i64 s.2)]) (O:=fun s g=>[(3,some (g,⟨false,false,1,3,s.1.map Ed⟩)),(8192,some (0,⟨false,true,8,122,[.agg [.int .u64 s1.a0,.int .u64 s1.a1,.int .u64 s1.a2,.int .u64 s1.a3,.int .u64 s1.a4,.int .u64 s1.a5,.int .u64 s1.a6,.int .u64 s1.a7]]⟩))]) (body:=fun s=>Nx s1 s.1 s.2) (s:=(([] : List Int),0)) _ ((hE ⟨rfl,r,r,trivial⟩ ⟨rfl,r,trivial⟩))<|?_
 rintro ⟨l2,x3⟩ v3x1 nn
 try dsimp only
 unfold Nx
 refine sQ<|rG<|bN (v:=.bool (decide (x3 < 8))) r r r r r<|nI<|xS<|sQ<|cD (c:=(decide (x3 < 8))) r ?_ ?_
 ·refine sK<|xS<|sQ<|bK<|sQ<|rG<|mV r r<|nC r r r<|cK fun hq=>Qd r r r hq<|bD fun s_e4 hs_e4=>Qu (q:=s_e4) (l:=s1.toList) (en:=SG) (j:=x3.toNat) (by simp) r r r hs_e4 r (fun _=>r)<|aS r r<|aS r r<|Ka (by kernel_rfl)<|xS<|bK<|lP (E:=fun (s : (List Int) × Int) (g : Nat)=>[(3,.osl 3 g 0 s.1.length),(4,.int .i64 x3),(5,.int .u64 s.2),(6,.optr 8192 0 0 0),(7,.int .i64 x3)]) (O:=fun s g=>[(3,some (g,⟨false,false,1,3,s.1.map Ed⟩)),(8192,some (0,⟨false,true,8,122,[.agg [.int .u64 s1.a0,.int .u64 s1.a1,.int .u64 s1.a2,.int .u64 s1.a3,.int .u64 s1.a4,.int .u64 s1.a5,.int .u64 s1.a6,.int .u64 s1.a7]]⟩))]) (body:=fun s=>Ny x3 s.1 s.2) (s:=(l2,s_e4)) _ ((hE ⟨rfl,r,r,r,r,trivial⟩ ⟨rfl,r,trivial⟩))<|?_
  rintro ⟨l5,x6⟩ v3x2 nn
  try dsimp only
  unfold Ny
  refine sQ<|sQ<|rG<|mV r r<|bN (v:=.bool (x6 != 0)) r r r r r<|nI<|xS<|cD (c:=(x6 != 0)) r ?_ ?_
  ·exact sK<|xS<|sQ<|bK<|rG<|mV r r<|mV r r<|bN (v:=.int .i64 (IntKind.i64.wrap (64 * x3))) r r r r r<|mV r r<|bD fun r7 hr7=>cG x6 r r r Acs r r (by simp) r hr7 r<|bN (v:=.int .i64 (IntKind.i64.wrap ((IntKind.i64.wrap (64 * x3)) + r7))) r r r r r<|bS ([IntKind.i64.wrap ((IntKind.i64.wrap (64 * x3)) + r7)] : List Int) Ed r r r (by simp) r r r<|cK fun hq=>aP (l5) (([IntKind.i64.wrap ((IntKind.i64.wrap (64 * x3)) + r7)] : List Int)) Ed r r r r r r r (by simp) (Kq _ _ r) r r (by simp) (JT _ _ r) (fun _=>r) r hq<|aO (l:=l5 ++ ([IntKind.i64.wrap ((IntKind.i64.wrap (64 * x3)) + r7)] : List Int)) (en:=Ed) r r r r<|nI<|bM<|xS<|rG<|mV r r<|mV r r<|bN (v:=.int .u64 (IntKind.u64.wrap (x6 - 1))) r r r r r<|bN (v:=.int .u64 (IntKind.u64.wrap ((BitVec.ofInt IntKind.u64.bits x6 &&& BitVec.ofInt IntKind.u64.bits (IntKind.u64.wrap (x6 - 1))).toNat))) r r r r r<|aS r r<|nI<|xL (s:=(l5 ++ ([IntKind.i64.wrap ((IntKind.i64.wrap (64 * x3)) + r7)] : List Int),IntKind.u64.wrap ((BitVec.ofInt IntKind.u64.bits x6 &&& BitVec.ofInt IntKind.u64.bits (IntKind.u64.wrap (x6 - 1))).toNat))) _ ((hE ⟨rfl,r,r,r,r,trivial⟩ ⟨rfl,r,trivial⟩))
  ·exact eT<|xE<|lE<|bH<|bM<|xS<|rG<|bN (v:=.int .i64 (IntKind.i64.wrap (x3 + 1))) r r r r r<|mV r r<|nI<|xL (s:=(l5,IntKind.i64.wrap (x3 + 1))) _ ((hE ⟨rfl,r,r,trivial⟩ ⟨rfl,r,trivial⟩))
 ·refine eT<|xE<|lE<|bH<|xS<|sQ<|rG<|mV r r<|aO (l:=l2) (en:=Ed) r r r r<|nI<|xS<|rT<|Kr (b:=(l2,s1)) r ?_ r r ?_ r ?_ (congrArg D.sl (JT _ _ r)) r
  all_goals first|(simp;done)|(simp;omega)|rfl|(simp [JR,JO];done)

def Aep : Kb:=(.seq (.reg [⟨(some 4),(.asg (.c .nils) (some ⟨1,3⟩)),none,[]⟩] false) (.seq (.reg [M 6 0,P 7 (.call (.c (.clo 95 [])) [(T 6)]),P 5 (.asg (T 7) none)] false) (.seq (.reg [M 8 5,M 9 1,P 10 (.call (.c (.clo 103 [])) [(T 8),(T 9),(.c (.bool false))])] false) (.seq (.reg [M 11 5,P 12 (.call (.c (.clo 98 [])) [(T 11)]),⟨(some 4),(.asg (T 12) (some ⟨1,3⟩)),none,[]⟩] false) .ret))))
theorem AhA : (Tryd.f77.body.bind (Ke Tryd.prog Tryd.f77.ntmps)) = some Aep:=by kernel_rfl
theorem AhB : Tryd.f77.results.toList.mapM (Kl Tryd.prog) = some [(.t 4)]:=by kernel_rfl
def Sv (a : (List Int) × Int) : List D:=[.sl (a.1.map Ed),.int .i64 a.2]
def Su (ds : List D) : (List Int) × Int:=((uL uI) (ds.getD 0 .top),uI (ds.getD 1 .top))
theorem Tn (a : (List Int) × Int) : Su (Sv a) = a:=by simp [Su,Sv,uI,Lr (u:=uI) (en:=Ed) (fun _=>rfl)]
def TS (b : (List Int)) : D:=.sl (b.map Ed)
def XI (_b : (List Int)) : List D:=[]
noncomputable def Pa : Dw.Spec:=JZ [] .val Sv Su (fun a=>Nb a.1 a.2) TS XI
set_option maxHeartbeats 4000000 in
theorem Xb : JX Tryd.prog 77 Pa:=by
 refine Kh (Kd (l:=[(95,Li),(103,MO),(98,KL)]) (by simp [OA,TC,Nz])) Tryd.func77 (by decide) AhA AhB (np:=2) (by decide) Tn (fun _=>r) (fun _=>r) (by decide)<|?_
 rintro ⟨s1,n2⟩
 show TrE (specs [(95,Li),(103,MO),(98,KL)]) Aep (Km [] .val [(.t 4)] TS XI) ⟨[(0,.sl (s1.map Ed)),(1,.int .i64 n2)],[],262144⟩ (Nb s1 n2)
 refine Kf<|?_
 unfold Aep Nb
 refine sQ<|rG<|aN (α:=Int) r Ed r<|nI<|xS<|sQ<|rG<|mV r r<|bD fun r3 hr3=>cP s1 r r r LV r r (by simp) r hr3<|aS r r<|nI<|xS<|sQ<|rG<|mV r r<|mV r r<|bD fun r4 hr4=>cV (r3,n2,false) r r r PM r r (by simp) r hr4<|nI<|xS<|sQ<|rG<|mV r r<|bD fun r5 hr5=>cR (l:=r5.1) (en:=Ed) r4 r r r Mk r r (by simp) r hr5 r<|aO (l:=r5.1) (en:=Ed) r r r r<|nI<|xS<|rT<|KC (b:=r5.1) r ?_ r r ?_ (by first | rfl | (simp only [Kn,Ks]; rfl) | simp [TS])
 all_goals first|(simp;done)|(simp;omega)|rfl|(simp [JR,JO];done)

def Acz : Kb:=(.seq (.reg [P 1 (.box (T 0) 5 66),⟨(some 2),(.asg (.c .nils) (some ⟨1,3⟩)),none,[]⟩] false) (.seq (.seq (.reg [P 3 (.fldA 0 (T 1)),P 4 (.ld 1 false (T 3))] false) (.block 0 (.seq (.seq (.reg [P 6 (.bin .eql (T 4) (C 15)),P 5 (.asg (T 6) none)] false) (.cond (T 5) .skip (.reg [P 7 (.bin .eql (T 4) (C 17)),P 5 (.asg (T 7) none)] false))) (.cond (T 5) (.seq (.reg [P 8 (.fldA 2 (T 1)),P 9 (.ld 1 false (T 8)),⟨(some 10),(.bldS 1 3 (.int .i64 0) 1 [⟨0,(T 9)⟩]),none,[]⟩,⟨(some 2),(.asg (T 10) (some ⟨1,3⟩)),none,[]⟩] false) .ret) .skip)))) (.seq (.reg [⟨(some 2),(.asg (.c .nils) (some ⟨1,3⟩)),none,[]⟩] false) .ret)))
theorem Afe : (Tryd.f102.body.bind (Ke Tryd.prog Tryd.f102.ntmps)) = some Acz:=by kernel_rfl
theorem Aff : Tryd.f102.results.toList.mapM (Kl Tryd.prog) = some [(.t 2)]:=by kernel_rfl
def Ud (a : JK) : List D:=[JM a]
def Uc (ds : List D) : JK:=RW (ds.getD 0 .top)
theorem UO (a : JK) : Uc (Ud a) = a:=by simp [Uc,Ud]
def YT (b : (List Int)) : D:=.sl (b.map Ed)
def YS (_b : (List Int)) : List D:=[]
noncomputable def VG : Dw.Spec:=JZ [] (.row 1 3) Ud Uc (fun a=>PA a) YT YS
set_option maxHeartbeats 4000000 in
theorem AaV : JX Tryd.prog 102 VG:=by
 refine Kh (Ls) Tryd.func102 (by decide) Afe Aff (np:=1) (by decide) UO (fun _=>r) (fun _=>r) (by decide)<|?_
 intro x1
 show TrE (specs []) Acz (Km [] (.row 1 3) [(.t 2)] YT YS) ⟨[(0,.agg [.int .i64 x1.Op,.int .i64 x1.A,.int .i64 x1.B,.int .i64 x1.C,.int .u64 x1.Imm])],[],262144⟩ (PA x1)
 refine Kf<|?_
 unfold Acz PA
 refine sQ<|rG<|bX r r r r r<|aN (α:=Int) r Ed r<|nI<|xS<|sQ<|sQ<|rG<|fA r r<|lO (v:=.int .i64 x1.Op) (z:=.agg [.int .i64 x1.Op,.int .i64 x1.A,.int .i64 x1.B,.int .i64 x1.C,.int .u64 x1.Imm]) r r r r r r<|nI<|xS<|bK<|sQ<|sQ<|rG<|bN (v:=.bool (x1.Op == 15)) r r r r r<|aS r r<|nI<|xS<|cD (c:=(x1.Op == 15)) r ?_ ?_
 ·refine sK<|xS<|cD (c:=(x1.Op == 15)) r ?_ ?_
  ·refine sQ<|rG<|fA r r<|lO (v:=.int .i64 x1.B) (z:=.agg [.int .i64 x1.Op,.int .i64 x1.A,.int .i64 x1.B,.int .i64 x1.C,.int .u64 x1.Imm]) r r r r r r<|bS ([x1.B] : List Int) Ed r r r (by simp) r r r<|aO (l:=([x1.B] : List Int)) (en:=Ed) r r r r<|nI<|xS<|rT<|bR<|xR<|Kr (b:=([x1.B] : List Int)) r ?_ r r ?_ r ?_ (congrArg D.sl (JT _ _ r)) r
   all_goals first|(simp;done)|(simp;omega)|rfl|(simp [JR,JO];done)
  ·refine sK<|bM<|xS<|sQ<|rG<|aN (α:=Int) r Ed r<|nI<|xS<|rT<|Kr (b:=([] : List Int)) r ?_ r r ?_ r ?_ (congrArg D.sl (JT _ _ r)) r
   all_goals first|(simp;done)|(simp;omega)|rfl|(simp [JR,JO];done)
 ·refine rG<|bN (v:=.bool (x1.Op == 17)) r r r r r<|aS r r<|nI<|xS<|cD (c:=(x1.Op == 17)) r ?_ ?_
  ·refine sQ<|rG<|fA r r<|lO (v:=.int .i64 x1.B) (z:=.agg [.int .i64 x1.Op,.int .i64 x1.A,.int .i64 x1.B,.int .i64 x1.C,.int .u64 x1.Imm]) r r r r r r<|bS ([x1.B] : List Int) Ed r r r (by simp) r r r<|aO (l:=([x1.B] : List Int)) (en:=Ed) r r r r<|nI<|xS<|rT<|bR<|xR<|Kr (b:=([x1.B] : List Int)) r ?_ r r ?_ r ?_ (congrArg D.sl (JT _ _ r)) r
   all_goals first|(simp;done)|(simp;omega)|rfl|(simp [JR,JO];done)
  ·refine sK<|bM<|xS<|sQ<|rG<|aN (α:=Int) r Ed r<|nI<|xS<|rT<|Kr (b:=([] : List Int)) r ?_ r r ?_ r ?_ (congrArg D.sl (JT _ _ r)) r
   all_goals first|(simp;done)|(simp;omega)|rfl|(simp [JR,JO];done)

def Acy : Kb:=(.seq (.reg [⟨(some 2),(.asg (.c .nils) (some ⟨1,3⟩)),none,[]⟩] false) (.seq (.reg [M 3 0,P 4 (.call (.c (.clo 95 [])) [(T 3)]),P 5 (.call (.c (.clo 98 [])) [(T 4)]),⟨(some 2),(.asg (T 5) (some ⟨1,3⟩)),none,[]⟩] false) .ret))
theorem Afc : (Tryd.f101.body.bind (Ke Tryd.prog Tryd.f101.ntmps)) = some Acy:=by kernel_rfl
theorem Afd : Tryd.f101.results.toList.mapM (Kl Tryd.prog) = some [(.t 2)]:=by kernel_rfl
def Qy (a : (List Int)) : List D:=[.sl (a.map Ed)]
def VD (ds : List D) : (List Int):=(uL uI) (ds.getD 0 .top)
theorem Xa (a : (List Int)) : VD (Qy a) = a:=by simp [VD,Qy,Lr (u:=uI) (en:=Ed) (fun _=>rfl)]
def Aaj (b : (List Int)) : D:=.sl (b.map Ed)
def Aai (_b : (List Int)) : List D:=[]
noncomputable def XY : Dw.Spec:=JZ [] (.row 1 3) Qy VD (fun a=>Qh a) Aaj Aai
set_option maxHeartbeats 4000000 in
theorem AbF : JX Tryd.prog 101 XY:=by
 refine Kh (Kd (l:=[(95,Li),(98,KL)]) (by simp [OA,Nz])) Tryd.func101 (by decide) Afc Afd (np:=1) (by decide) Xa (fun _=>r) (fun _=>r) (by decide)<|?_
 intro l1
 show TrE (specs [(95,Li),(98,KL)]) Acy (Km [] (.row 1 3) [(.t 2)] Aaj Aai) ⟨[(0,.sl (l1.map Ed))],[],262144⟩ (Qh l1)
 refine Kf<|?_
 unfold Acy Qh
 refine sQ<|rG<|aN (α:=Int) r Ed r<|nI<|xS<|sQ<|rG<|mV r r<|bD fun r2 hr2=>cP l1 r r r LV r r (by simp) r hr2<|bD fun r3 hr3=>cR (l:=r3.1) (en:=Ed) r2 r r r Mk r r (by simp) r hr3 r<|aO (l:=r3.1) (en:=Ed) r r r r<|nI<|xS<|rT<|Kr (b:=r3.1) r ?_ r r ?_ r ?_ (congrArg D.sl (JT _ _ r)) r
 all_goals first|(simp;done)|(simp;omega)|rfl|(simp [JR,JO];done)

def AeD : Kb:=(.seq (.reg [P 4 (.asg (.c (.int .u64 0)) none)] false) (.seq (.reg [M 5 0,M 6 1,P 7 (.bin .or (T 5) (T 6)),P 4 (.asg (T 7) none)] false) .ret))
theorem Aic : (Tryd.f97.body.bind (Ke Tryd.prog Tryd.f97.ntmps)) = some AeD:=by kernel_rfl
theorem Aid : Tryd.f97.results.toList.mapM (Kl Tryd.prog) = some [(.t 4)]:=by kernel_rfl
def Rx (a : Int × Int) : List D:=[.int .u64 a.1,.int .u64 a.2]
def Rv (ds : List D) : Int × Int:=(uI (ds.getD 0 .top),uI (ds.getD 1 .top))
theorem VY (a : Int × Int) : Rv (Rx a) = a:=by simp [Rv,Rx,uI]
def Xd (b : Int) : D:=.int .u64 b
def Xc (_b : Int) : List D:=[]
noncomputable def To : Dw.Spec:=JZ [] .ground Rx Rv (fun a=>Oq a.1 a.2) Xd Xc
set_option maxHeartbeats 4000000 in
theorem Aad : JX Tryd.prog 97 To:=by
 refine Kh (Ls) Tryd.func97 (by decide) Aic Aid (np:=2) (by decide) VY (fun _=>r) (fun _=>r) (by decide)<|?_
 rintro ⟨x1,y2⟩
 show TrE (specs []) AeD (Km [] .ground [(.t 4)] Xd Xc) ⟨[(0,.int .u64 x1),(1,.int .u64 y2)],[],262144⟩ (Oq x1 y2)
 refine Kf<|?_
 unfold AeD Oq
 refine sQ<|rG<|aS r r<|nI<|xS<|sQ<|rG<|mV r r<|mV r r<|bN (v:=.int .u64 (IntKind.u64.wrap ((BitVec.ofInt IntKind.u64.bits x1 ||| BitVec.ofInt IntKind.u64.bits y2).toNat))) r r r r r<|aS r r<|nI<|xS<|rT<|JV (b:=IntKind.u64.wrap ((BitVec.ofInt IntKind.u64.bits x1 ||| BitVec.ofInt IntKind.u64.bits y2).toNat)) r ?_ r r ?_ r
 all_goals first|(simp;done)|(simp;omega)|rfl|(simp [JR,JO];done)

def AbL : Kb:=(.seq (.reg [P 6 (.asg (.c .top) none)] false) (.seq (.reg [P 9 (.bld [(.int .u64 0),(.int .u64 0),(.int .u64 0),(.int .u64 0),(.int .u64 0),(.int .u64 0),(.int .u64 0),(.int .u64 0)] []),P 10 (.box (T 9) 8 122),P 7 (.asg (T 10) none)] false) (.seq (.seq (.reg [P 11 (.mv (C 0))] false) (.block 0 (.loop (.seq (.reg [P 12 (.bin .lss (T 11) (C 8))] false) (.seq (.cond (T 12) .skip (.exit 0)) (.seq (.block 1 (.seq (.reg [M 13 11,P 8 (.asg (T 13) none)] false) (.reg [M 14 7,M 15 8,M 16 2,M 17 0,M 18 8,⟨(some 19),(.nilck (T 17)),none,[3]⟩,⟨(some 20),(.ixP 1 8 (T 19) (T 18)),none,[5,4]⟩,⟨(some 21),(.ld 1 false (T 20)),none,[6]⟩,M 22 1,M 23 8,⟨(some 24),(.nilck (T 22)),none,[8]⟩,⟨(some 25),(.ixP 1 8 (T 24) (T 23)),none,[10,9]⟩,⟨(some 26),(.ld 1 false (T 25)),none,[11]⟩,⟨(some 27),(.call (T 16) [(T 21),(T 26)]),none,[2,7,12]⟩,⟨(some 28),(.nilck (T 14)),none,[0]⟩,⟨(some 29),(.ixP 1 8 (T 28) (T 15)),none,[14,1,0,1,2,3,4,5,6,7,8,9,10,11,12,13]⟩,⟨none,(.st 1 (T 29) (T 27)),none,[15,13,13,0,1,2,3,4,5,6,7,8,9,10,11,12,13]⟩] true))) (.reg [P 30 (.bin .add (T 11) (C 1)),M 11 30] false))))))) (.seq (.reg [M 31 7,P 6 (.asg (T 31) none)] false) .ret))))
theorem Adf : (Tryd.f96.body.bind (Ke Tryd.prog Tryd.f96.ntmps)) = some AbL:=by kernel_rfl
theorem Adg : Tryd.f96.results.toList.mapM (Kl Tryd.prog) = some [(.t 6)]:=by kernel_rfl
def ML (a : JL × JL) : List D:=[Kj a.1,Kj a.2,.clo 97 []]
def MK (ds : List D) : JL × JL:=(KO (ds.getD 0 .top),KO (ds.getD 1 .top))
theorem Pc (a : JL × JL) : MK (ML a) = a:=by simp [MK,ML]
def PH (b : JL × JL × JL) : D:=Kj b.1
def PG (b : JL × JL × JL) : List D:=[Kj b.2.1,Kj b.2.2]
noncomputable def LS : Dw.Spec:=JZ [(0,(8,122)),(1,(8,122))] (.ptr 8 122) ML MK (fun a=>La a.1 a.2) PH PG
set_option maxHeartbeats 4000000 in
theorem TZ : JX Tryd.prog 96 LS:=by
 refine Kh (Kd (l:=[(97,To)]) (by simp [Aad])) Tryd.func96 (by decide) Adf Adg (np:=3) (by decide) Pc (fun _=>r) (fun _=>r) (by decide)<|?_
 rintro ⟨s1,t2⟩
 show TrE (specs [(97,To)]) AbL (Km [(0,(8,122)),(1,(8,122))] (.ptr 8 122) [(.t 6)] PH PG) ⟨[(0,.optr 8192 0 0 0),(1,.optr 8193 1 0 0),(2,.clo 97 [])],[(8192,some (0,⟨false,true,8,122,[.agg [.int .u64 s1.a0,.int .u64 s1.a1,.int .u64 s1.a2,.int .u64 s1.a3,.int .u64 s1.a4,.int .u64 s1.a5,.int .u64 s1.a6,.int .u64 s1.a7]]⟩)),(8193,some (1,⟨false,true,8,122,[.agg [.int .u64 t2.a0,.int .u64 t2.a1,.int .u64 t2.a2,.int .u64 t2.a3,.int .u64 t2.a4,.int .u64 t2.a5,.int .u64 t2.a6,.int .u64 t2.a7]]⟩))],262144⟩ (La s1 t2)
 refine Kf<|?_
 unfold AbL La
 refine sQ<|rG<|aS r r<|nI<|xS<|sQ<|rG<|bL (cs:=[.int .u64 0,.int .u64 0,.int .u64 0,.int .u64 0,.int .u64 0,.int .u64 0,.int .u64 0,.int .u64 0]) (ps:=[]) r r r r<|bX r r r r r<|aS r r<|nI<|xS<|sQ<|sQ<|rG<|mV r r<|nI<|xS<|bK<|lP (E:=fun (s : JL × Int) (g : Nat)=>[(0,.optr 8192 0 0 0),(1,.optr 8193 1 0 0),(2,.clo 97 []),(7,.optr 10 g 0 0),(11,.int .i64 s.2)]) (O:=fun s g=>[(10,some (g,⟨false,true,8,122,[.agg [.int .u64 s.1.a0,.int .u64 s.1.a1,.int .u64 s.1.a2,.int .u64 s.1.a3,.int .u64 s.1.a4,.int .u64 s.1.a5,.int .u64 s.1.a6,.int .u64 s.1.a7]]⟩)),(8192,some (0,⟨false,true,8,122,[.agg [.int .u64 s1.a0,.int .u64 s1.a1,.int .u64 s1.a2,.int .u64 s1.a3,.int .u64 s1.a4,.int .u64 s1.a5,.int .u64 s1.a6,.int .u64 s1.a7]]⟩)),(8193,some (1,⟨false,true,8,122,[.agg [.int .u64 t2.a0,.int .u64 t2.a1,.int .u64 t2.a2,.int .u64 t2.a3,.int .u64 t2.a4,.int .u64 t2.a5,.int .u64 t2.a6,.int .u64 t2.a7]]⟩))]) (body:=fun s=>Lk s1 t2 s.1 s.2) (s:=((JL.mk 0 0 0 0 0 0 0 0),0)) _ ((hE ⟨rfl,r,r,r,r,trivial⟩ ⟨rfl,r,r,trivial⟩))<|?_
 rintro ⟨x3,x4⟩ v10x1 nn
 try dsimp only
 unfold Lk
 refine sQ<|rG<|bN (v:=.bool (decide (x4 < 8))) r r r r r<|nI<|xS<|sQ<|cD (c:=(decide (x4 < 8))) r ?_ ?_
 ·exact sK<|xS<|sQ<|bK<|sQ<|rG<|mV r r<|aS r r<|nI<|xS<|rG<|mV r r<|mV r r<|mV r r<|mV r r<|mV r r<|nC r r r<|cK fun hq=>Qd r r r hq<|bD fun s_e5 hs_e5=>Qu (q:=s_e5) (l:=s1.toList) (en:=SG) (j:=x4.toNat) (by simp) r r r hs_e5 r (fun _=>r)<|mV r r<|mV r r<|nC r r r<|cK fun hq=>Qd r r r hq<|bD fun t_e6 ht_e6=>Qu (q:=t_e6) (l:=t2.toList) (en:=SG) (j:=x4.toNat) (by simp) r r r ht_e6 r (fun _=>r)<|bD fun r7 hr7=>cG (s_e5,t_e6) r r r VY r r (by simp) r hr7 r<|nC r r r<|cK fun hq=>Qd r r r hq<|bD fun x_o8 hx_o8=>AaP (q:=x_o8) (q':=r7) (l:=x3.toList) (en:=SG) (j:=x4.toNat) (z':=.agg [.int .u64 ((x3.set x4.toNat r7).a0),.int .u64 ((x3.set x4.toNat r7).a1),.int .u64 ((x3.set x4.toNat r7).a2),.int .u64 ((x3.set x4.toNat r7).a3),.int .u64 ((x3.set x4.toNat r7).a4),.int .u64 ((x3.set x4.toNat r7).a5),.int .u64 ((x3.set x4.toNat r7).a6),.int .u64 ((x3.set x4.toNat r7).a7)]) (by simp) r r r r r hx_o8 r r (congrArg (fun l=>D.agg (l.map SG)) (Ma x3 x4.toNat r7).symm)<|Ka (by kernel_rfl)<|bM<|xS<|rG<|bN (v:=.int .i64 (IntKind.i64.wrap (x4 + 1))) r r r r r<|mV r r<|nI<|xL (s:=((x3.set x4.toNat r7),IntKind.i64.wrap (x4 + 1))) _ ((hE ⟨rfl,r,r,r,r,trivial⟩ ⟨rfl,r,r,trivial⟩))
 ·refine eT<|xE<|lE<|bH<|xS<|sQ<|rG<|mV r r<|aS r r<|nI<|xS<|rT<|ZZ (b:=(x3,s1,t2)) r ?_ r ?_ r r ?_ r
  all_goals first|(simp;done)|(simp;omega)|rfl|(simp [JR,JO];done)

def Aei : Kb:=(.seq (.reg [⟨(some 4),(.asg (.c .nils) (some ⟨1,3⟩)),none,[]⟩] false) (.seq (.reg [M 5 0,P 6 (.call (.c (.clo 95 [])) [(T 5)]),M 7 1,P 8 (.call (.c (.clo 95 [])) [(T 7)]),P 9 (.call (.c (.clo 96 [])) [(T 6),(T 8),(.c (.clo 97 []))]),P 10 (.call (.c (.clo 98 [])) [(T 9)]),⟨(some 4),(.asg (T 10) (some ⟨1,3⟩)),none,[]⟩] false) .ret))
theorem Ahm : (Tryd.f69.body.bind (Ke Tryd.prog Tryd.f69.ntmps)) = some Aei:=by kernel_rfl
theorem Ahn : Tryd.f69.results.toList.mapM (Kl Tryd.prog) = some [(.t 4)]:=by kernel_rfl
def Oz (a : (List Int) × (List Int)) : List D:=[.sl (a.1.map Ed),.sl (a.2.map Ed)]
def Tp (ds : List D) : (List Int) × (List Int):=((uL uI) (ds.getD 0 .top),(uL uI) (ds.getD 1 .top))
theorem Rm (a : (List Int) × (List Int)) : Tp (Oz a) = a:=by simp [Tp,Oz,Lr (u:=uI) (en:=Ed) (fun _=>rfl)]
def UL (b : (List Int)) : D:=.sl (b.map Ed)
def Yn (_b : (List Int)) : List D:=[]
noncomputable def PL : Dw.Spec:=JZ [] .val Oz Tp (fun a=>MN a.1 a.2) UL Yn
set_option maxHeartbeats 4000000 in
theorem XJ : JX Tryd.prog 69 PL:=by
 refine Kh (Kd (l:=[(95,Li),(401504,LS),(98,KL)]) (by simp [OA,TZ,Nz])) Tryd.func69 (by decide) Ahm Ahn (np:=2) (by decide) Rm (fun _=>r) (fun _=>r) (by decide)<|?_
 rintro ⟨a1,b2⟩
 show TrE (specs [(95,Li),(401504,LS),(98,KL)]) Aei (Km [] .val [(.t 4)] UL Yn) ⟨[(0,.sl (a1.map Ed)),(1,.sl (b2.map Ed))],[],262144⟩ (MN a1 b2)
 refine Kf<|?_
 unfold Aei MN
 refine sQ<|rG<|aN (α:=Int) r Ed r<|nI<|xS<|sQ<|rG<|mV r r<|bD fun r3 hr3=>cP a1 r r r LV r r (by simp) r hr3<|mV r r<|bD fun r4 hr4=>cP b2 r r r LV r r (by simp) rfl hr4<|bD fun r5 hr5=>cP (r3,r4) rfl rfl (show _ = some LS from by kernel_rfl) Pc rfl rfl (by simp) r hr5<|bD fun r6 hr6=>cR (l:=r6.1) (en:=Ed) r5.1 r r r Mk r r (by simp) r hr6 r<|aO (l:=r6.1) (en:=Ed) r r r r<|nI<|xS<|rT<|KC (b:=r6.1) r ?_ r r ?_ (by first | rfl | (simp only [Kn,Ks]; rfl) | simp [UL])
 all_goals first|(simp;done)|(simp;omega)|rfl|(simp [JR,JO];done)

end Go.Proofs.YtcelninhkmhjkaaDoor
