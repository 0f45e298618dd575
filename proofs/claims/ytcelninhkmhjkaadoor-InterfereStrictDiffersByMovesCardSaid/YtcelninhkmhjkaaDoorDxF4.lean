/-
  Programs on typed data, and the proofs that the code does what they say; written by a program (dx.py).
-/
import Derived.Test.YtcelninhkmhjkaaDoorProg
import Derived.Test.YtcelninhkmhjkaaDoorDc
import Derived.KernelRfl
import Derived.Test.YtcelninhkmhjkaaDoorSh
import Derived.Test.YtcelninhkmhjkaaDoorDxP
import Derived.Test.YtcelninhkmhjkaaDoorDxF3
namespace Go.Proofs.YtcelninhkmhjkaaDoor
open Go Go.Dw Go.Proofs
set_option maxRecDepth 100000
open Go.Dw renaming Yl → mV,WB → bN,QO → lO,Vg → bD,WE → cK,WH → nI,WK → xS,Yn → rG,Yp → sQ,Rg → aO,WA → aS,WI → oF,WC → bL,Xv → bS,Qo → cV,Om → cG,Qn → cR,ZB → aP,QP → sV,SB → iS,SC → lS,Vh → fA,YC → fF,ZC → eX,Zv → nC,TB → lF,TQ → sP,Po → pT,OL → pF,Ym → uN,Aca → cT,WG → nW,WD → bX,Rf → aN,YB → aL,WL → cD,Vj → bK,Yo → rT,WO → sK,WM → eT,WJ → xC,Vi → xL,Ri → xR,Vl → zR,Sq → lR,TK → hE,Pp → lE,Qq → bH,OM → bM,Rh → bR,Qr → xE,Xw → cP,WN → lP,SD → sC,Acb → mF,rf → r
def Aee : Kb:=(.seq (.reg [P 2 (.asg (.c (.bool false)) none)] false) (.seq (.seq (.reg [M 5 0,P 6 (.len false (T 5)),P 7 (.mv (C 0))] false) (.block 0 (.loop (.seq (.reg [P 8 (.bin .lss (T 7) (T 6))] false) (.seq (.cond (T 8) .skip (.exit 0)) (.seq (.block 1 (.seq (.reg [M 9 7,P 10 (.ixA 1 (T 5) (T 7)),P 11 (.ld 1 false (T 10)),P 3 (.asg (T 9) none),P 4 (.asg (T 11) none)] false) (.seq (.reg [M 12 4,P 13 (.call (.c (.clo 115 [])) [(T 12)]),P 14 (.un .not (T 13)),M 15 14,⟨(some 16),(.mv (T 3)),(some ⟨15,false⟩),[]⟩,⟨(some 17),(.bin .gtr (T 16) (C 0)),(some ⟨15,false⟩),[]⟩,⟨(some 18),(.mv (T 17)),(some ⟨15,false⟩),[]⟩,⟨(some 19),(.mv (T 4)),(some ⟨18,true⟩),[]⟩,⟨(some 20),(.mv (T 0)),(some ⟨18,true⟩),[]⟩,⟨(some 21),(.mv (T 3)),(some ⟨18,true⟩),[]⟩,⟨(some 22),(.bin .sub (T 21) (C 1)),(some ⟨18,true⟩),[]⟩,⟨(some 23),(.ixA 1 (T 20) (T 22)),(some ⟨18,true⟩),[]⟩,⟨(some 24),(.ld 1 false (T 23)),(some ⟨18,true⟩),[]⟩,⟨(some 25),(.bin .leq (T 19) (T 24)),(some ⟨18,true⟩),[]⟩,⟨(some 26),(.pick (T 18) (T 25) (.c (.bool false))),(some ⟨15,false⟩),[]⟩,P 27 (.pick (T 15) (.c (.bool true)) (T 26))] false) (.cond (T 27) (.seq (.reg [P 2 (.asg (.c (.bool false)) none)] false) .ret) .skip)))) (.reg [P 28 (.bin .add (T 7) (C 1)),M 7 28] false))))))) (.seq (.reg [P 2 (.asg (.c (.bool true)) none)] false) .ret)))
theorem Ahs : (Tryd.f91.body.bind (Kc Tryd.prog Tryd.f91.ntmps)) = some Aee:=by kernel_rfl
theorem Aht : Tryd.f91.results.toList.mapM (Kp Tryd.prog) = some [(.t 2)]:=by kernel_rfl
def To (a : (List Int)) : List D:=[.sl (a.map JK)]
def Tn (ds : List D) : (List Int):=(uL uI) (ds.getD 0 .top)
theorem Xy (a : (List Int)) : Tn (To a) = a:=by simp [Tn,To,LH (u:=uI) (en:=JK) (fun _=>rfl)]
def XY (b : Bool) : D:=.bool b
def XX (_b : Bool) : List D:=[]
noncomputable def UH : Dw.Spec:=Ka [] .ground To Tn (fun a=>PX a) XY XX
set_option maxHeartbeats 4000000 in
theorem Aag : JX Tryd.prog 91 UH:=by
 refine Kl (Kg (l:=[(115,Nr)]) (by simp [Ua])) Tryd.func91 (by decide) Ahs Aht (np:=1) (by decide) Xy (fun _=>r) (fun _=>r) (by decide)<|?_
 intro s1
 show TrE (specs [(115,Nr)]) Aee (Kr [] .ground [(.t 2)] XY XX) ⟨[(0,.sl (s1.map JK))],[],262144⟩ (PX s1)
 refine Kd<|?_
 unfold Aee PX
 refine sQ<|rG<|aS r r<|nI<|xS<|sQ<|sQ<|rG<|mV r r<|lS r r<|mV r r<|nI<|xS<|bK<|lP (E:=fun (s : Int) (g : Unit)=>[(0,.sl (s1.map JK)),(5,.sl (s1.map JK)),(6,.int .i64 (s1.length : Int)),(7,.int .i64 s)]) (O:=fun s g=>[]) (body:=fun s=>Ml s1 s) (s:=0) () ((hE ⟨rfl,r,r,r,trivial⟩ trivial))<|?_
 rintro x2 ⟨⟩ nn
 try dsimp only
 unfold Ml
 refine sQ<|rG<|bN (v:=.bool (decide (x2 < (s1.length : Int)))) r r r r r<|nI<|xS<|sQ<|cD (c:=(decide (x2 < (s1.length : Int)))) r ?_ ?_
 ·refine sK<|xS<|sQ<|bK<|sQ<|rG<|mV r r<|bD fun x_x3 hx_x3=>iS (en:=JK) r r r hx_x3 r<|lF (v:=.int .i64 x_x3) r r r r<|aS r r<|aS r r<|nI<|xS<|sQ<|rG<|mV r r<|bD fun r4 hr4=>cG x_x3 r r r QA r r (by simp) r hr4 r<|uN (w:=.bool (!r4)) r r r r trivial<|mV r r<|sP 15 (b:=(!r4)) r ?_ ?_
  ·refine oF r<|oF r<|oF r<|oF r<|oF r<|oF r<|oF r<|oF r<|oF r<|oF r<|oF r<|pT r r r r<|nI<|xS<|LY r<|sQ<|rG<|aS r r<|nI<|xS<|rT<|bR<|xR<|lR<|bR<|xR<|JZ (b:=false) r ?_ r r ?_ r
   all_goals first|(simp;done)|(simp;omega)|rfl|(simp [JU,JQ];done)
  ·refine mV r r<|bN (v:=.bool (decide (x2 > 0))) r r r r r<|mV r r<|sP 18 (b:=(decide (x2 > 0))) r ?_ ?_
   ·refine mV r r<|mV r r<|mV r r<|bN (v:=.int .i64 (IntKind.i64.wrap (x2 - 1))) r r r r r<|bD fun x_x5 hx_x5=>iS (en:=JK) r r r hx_x5 r<|lF (v:=.int .i64 x_x5) r r r r<|bN (v:=.bool (decide (x_x3 ≤ x_x5))) r r r r r<|pT r r r r<|pF r r r r<|nI<|xS<|cD (c:=(decide (x_x3 ≤ x_x5))) r ?_ ?_
    ·refine sQ<|rG<|aS r r<|nI<|xS<|rT<|bR<|xR<|lR<|bR<|xR<|JZ (b:=false) r ?_ r r ?_ r
     all_goals first|(simp;done)|(simp;omega)|rfl|(simp [JU,JQ];done)
    ·exact sK<|bM<|xS<|rG<|bN (v:=.int .i64 (IntKind.i64.wrap (x2 + 1))) r r r r r<|mV r r<|nI<|xL (s:=IntKind.i64.wrap (x2 + 1)) () ((hE ⟨rfl,r,r,r,trivial⟩ trivial))
   ·exact oF r<|oF r<|oF r<|oF r<|oF r<|oF r<|oF r<|pF r r r r<|pF r r r r<|nI<|xS<|Nj r<|sK<|bM<|xS<|rG<|bN (v:=.int .i64 (IntKind.i64.wrap (x2 + 1))) r r r r r<|mV r r<|nI<|xL (s:=IntKind.i64.wrap (x2 + 1)) () ((hE ⟨rfl,r,r,r,trivial⟩ trivial))
 ·refine eT<|xE<|lE<|bH<|xS<|sQ<|rG<|aS r r<|nI<|xS<|rT<|JZ (b:=true) r ?_ r r ?_ r
  all_goals first|(simp;done)|(simp;omega)|rfl|(simp [JU,JQ];done)

def Aed : Kb:=(.seq (.reg [P 3 (.asg (.c (.bool false)) none)] false) (.seq (.reg [M 4 0,⟨(some 5),(.call (.c (.clo 91 [])) [(T 4)]),none,[0]⟩,⟨(some 6),(.un .not (T 5)),none,[1]⟩,⟨(some 7),(.mv (T 6)),none,[2,1]⟩,⟨(some 8),(.mv (T 0)),(some ⟨7,false⟩),[3]⟩,⟨(some 9),(.len false (T 8)),(some ⟨7,false⟩),[4,3]⟩,⟨(some 10),(.bin .gtr (T 9) (C 0)),(some ⟨7,false⟩),[5,3]⟩,⟨(some 11),(.mv (T 10)),(some ⟨7,false⟩),[6,3,3]⟩,⟨(some 12),(.mv (T 0)),(some ⟨11,true⟩),[7]⟩,⟨(some 13),(.mv (T 0)),(some ⟨11,true⟩),[7]⟩,⟨(some 14),(.len false (T 13)),(some ⟨11,true⟩),[9,7]⟩,⟨(some 15),(.bin .sub (T 14) (C 1)),(some ⟨11,true⟩),[10,7]⟩,⟨(some 16),(.ixA 1 (T 12) (T 15)),(some ⟨11,true⟩),[8,11,7]⟩,⟨(some 17),(.ld 1 false (T 16)),(some ⟨11,true⟩),[12,7]⟩,⟨(some 18),(.fldA 1 (T 1)),(some ⟨11,true⟩),[7]⟩,⟨(some 19),(.ld 1 false (T 18)),(some ⟨11,true⟩),[14,7]⟩,⟨(some 20),(.len false (T 19)),(some ⟨11,true⟩),[15,7]⟩,⟨(some 21),(.bin .geq (T 17) (T 20)),(some ⟨11,true⟩),[13,16,7]⟩,⟨(some 22),(.pick (T 11) (T 21) (.c (.bool false))),(some ⟨7,false⟩),[7,17,3]⟩,⟨(some 23),(.pick (T 7) (.c (.bool true)) (T 22)),none,[3,18]⟩,⟨(some 3),(.asg (T 23) none),none,[19,7,0,1,2,3,4,5,6,7,8,9,10,11,12,13,14,15,16,17,18,19]⟩] true) .ret))
theorem Ahq : (Tryd.f90.body.bind (Kc Tryd.prog Tryd.f90.ntmps)) = some Aed:=by kernel_rfl
theorem Ahr : Tryd.f90.results.toList.mapM (Kp Tryd.prog) = some [(.t 3)]:=by kernel_rfl
def OE (a : (List Int) × JO) : List D:=[.sl (a.1.map JK),.fptr (Kv a.2) 0]
def OD (ds : List D) : (List Int) × JO:=((uL uI) (ds.getD 0 .top),MP (fpD (ds.getD 1 .top)))
theorem Si (a : (List Int) × JO) : OD (OE a) = a:=by simp [OD,OE,fpD,LH (u:=uI) (en:=JK) (fun _=>rfl)]
def SG (b : Bool) : D:=.bool b
def SF (_b : Bool) : List D:=[]
noncomputable def Pg : Dw.Spec:=Ka [] .ground OE OD (fun a=>LP a.1 a.2) SG SF
set_option maxHeartbeats 4000000 in
theorem Xe : JX Tryd.prog 90 Pg:=by
 refine Kl (Kg (l:=[(91,UH)]) (by simp [Aag])) Tryd.func90 (by decide) Ahq Ahr (np:=2) (by decide) Si (fun _=>r) (fun _=>r) (by decide)<|?_
 rintro ⟨s1,cap2⟩
 show TrE (specs [(91,UH)]) Aed (Kr [] .ground [(.t 3)] SG SF) ⟨[(0,.sl (s1.map JK)),(1,.fptr (.agg [.int .i64 cap2.Params,.sl (cap2.Slots.map JP),.sl (cap2.Code.map JN)]) 0)],[],262144⟩ (LP s1 cap2)
 refine Kd<|?_
 unfold Aed LP
 refine sQ<|rG<|aS r r<|nI<|xS<|sQ<|rG<|mV r r<|bD fun r3 hr3=>cG s1 r r r Xy r r (by simp) r hr3 r<|uN (w:=.bool (!r3)) r r r r trivial<|mV r r<|sP 7 (b:=(!r3)) r ?_ ?_
 ·refine oF r<|oF r<|oF r<|oF r<|oF r<|oF r<|oF r<|oF r<|oF r<|oF r<|oF r<|oF r<|oF r<|oF r<|oF r<|pT r r r r<|aS r r<|Ki (by kernel_rfl)<|xS<|rT<|JZ (b:=true) r ?_ r r ?_ r
  all_goals first|(simp;done)|(simp;omega)|rfl|(simp [JU,JQ];done)
 ·refine mV r r<|lS r r<|bN (v:=.bool (decide ((s1.length : Int) > 0))) r r r r r<|mV r r<|sP 11 (b:=(decide ((s1.length : Int) > 0))) r ?_ ?_
  ·refine mV r r<|mV r r<|lS r r<|bN (v:=.int .i64 (IntKind.i64.wrap ((s1.length : Int) - 1))) r r r r r<|bD fun x_x4 hx_x4=>iS (en:=JK) r r r hx_x4 r<|lF (v:=.int .i64 x_x4) r r r r<|fF r r<|lF (v:=.sl (cap2.Slots.map JP)) r r r r<|lS r r<|bN (v:=.bool (decide (x_x4 ≥ (cap2.Slots.length : Int)))) r r r r r<|pT r r r r<|pF r r r r<|aS r r<|Ki (by kernel_rfl)<|xS<|rT<|JZ (b:=(decide (x_x4 ≥ (cap2.Slots.length : Int)))) r ?_ r r ?_ r
   all_goals first|(simp;done)|(simp;omega)|rfl|(simp [JU,JQ];done)
  ·refine oF r<|oF r<|oF r<|oF r<|oF r<|oF r<|oF r<|oF r<|oF r<|oF r<|pF r r r r<|pF r r r r<|aS r r<|Ki (by kernel_rfl)<|xS<|rT<|JZ (b:=false) r ?_ r r ?_ r
   all_goals first|(simp;done)|(simp;omega)|rfl|(simp [JU,JQ];done)

def Acu : Kb:=(.seq (.reg [P 4 (.asg (C 0) none)] false) (.seq (.seq (.reg [M 6 0,P 7 (.len false (T 6)),P 8 (.mv (C 0))] false) (.block 0 (.loop (.seq (.reg [P 9 (.bin .lss (T 8) (T 7))] false) (.seq (.cond (T 9) .skip (.exit 0)) (.seq (.block 1 (.seq (.reg [M 10 8,P 5 (.asg (T 10) none)] false) (.seq (.reg [M 11 1,M 12 0,M 13 5,P 14 (.ixA 1 (T 12) (T 13)),P 15 (.ld 1 false (T 14)),P 16 (.call (T 11) [(T 15)])] false) (.cond (T 16) (.seq (.reg [M 17 5,P 4 (.asg (T 17) none)] false) .ret) .skip)))) (.reg [P 18 (.bin .add (T 8) (C 1)),M 8 18] false))))))) (.seq (.reg [⟨(some 4),(.asg (.c (.int .i64 (-1))) none),none,[]⟩] false) .ret)))
theorem Aff : (Tryd.f116.body.bind (Kc Tryd.prog Tryd.f116.ntmps)) = some Acu:=by kernel_rfl
theorem Afg : Tryd.f116.results.toList.mapM (Kp Tryd.prog) = some [(.t 4)]:=by kernel_rfl
def LO (a : (List (List Int)) × JO) : List D:=[.sl (a.1.map (eL JK)),.clo 90 [.fptr (Kv a.2) 0]]
def LN (ds : List D) : (List (List Int)) × JO:=((uL (uL uI)) (ds.getD 0 .top),MP (fpD (Yt (ds.getD 1 .top) 0)))
theorem NX (a : (List (List Int)) × JO) : LN (LO a) = a:=by simp [LN,LO,fpD,Yt,LH (u:=(uL uI)) (en:=(eL JK)) (LH (u:=uI) (en:=JK) (fun _=>rfl))]
def Ol (b : Int) : D:=.int .i64 b
def Ok (_b : Int) : List D:=[]
noncomputable def Lq : Dw.Spec:=Ka [] .ground LO LN (fun a=>KH a.1 a.2) Ol Ok
set_option maxHeartbeats 4000000 in
theorem Sp : JX Tryd.prog 116 Lq:=by
 refine Kl (Kg (l:=[(90,Pg)]) (by simp [Xe])) Tryd.func116 (by decide) Aff Afg (np:=2) (by decide) NX (fun _=>r) (fun _=>r) (by decide)<|?_
 rintro ⟨s1,f2⟩
 show TrE (specs [(90,Pg)]) Acu (Kr [] .ground [(.t 4)] Ol Ok) ⟨[(0,.sl (s1.map (eL JK))),(1,.clo 90 [.fptr (.agg [.int .i64 f2.Params,.sl (f2.Slots.map JP),.sl (f2.Code.map JN)]) 0])],[],262144⟩ (KH s1 f2)
 refine Kd<|?_
 unfold Acu KH
 refine sQ<|rG<|aS r r<|nI<|xS<|sQ<|sQ<|rG<|mV r r<|lS r r<|mV r r<|nI<|xS<|bK<|lP (E:=fun (s : Int) (g : Unit)=>[(0,.sl (s1.map (eL JK))),(1,.clo 90 [.fptr (.agg [.int .i64 f2.Params,.sl (f2.Slots.map JP),.sl (f2.Code.map JN)]) 0]),(7,.int .i64 (s1.length : Int)),(8,.int .i64 s)]) (O:=fun s g=>[]) (body:=fun s=>Lo s1 f2 s) (s:=0) () ((hE ⟨rfl,r,r,r,trivial⟩ trivial))<|?_
 rintro x3 ⟨⟩ nn
 try dsimp only
 unfold Lo
 refine sQ<|rG<|bN (v:=.bool (decide (x3 < (s1.length : Int)))) r r r r r<|nI<|xS<|sQ<|cD (c:=(decide (x3 < (s1.length : Int)))) r ?_ ?_
 ·refine sK<|xS<|sQ<|bK<|sQ<|rG<|mV r r<|aS r r<|nI<|xS<|sQ<|rG<|mV r r<|mV r r<|mV r r<|bD fun x_x4 hx_x4=>iS (en:=(eL JK)) r r r hx_x4 r<|lF (v:=.sl (x_x4.map JK)) r r r r<|bD fun r5 hr5=>cG (x_x4,f2) r r r Si r r (by simp) r hr5 r<|nI<|xS<|cD (c:=r5) r ?_ ?_
  ·refine sQ<|rG<|mV r r<|aS r r<|nI<|xS<|rT<|bR<|xR<|lR<|bR<|xR<|JZ (b:=x3) r ?_ r r ?_ r
   all_goals first|(simp;done)|(simp;omega)|rfl|(simp [JU,JQ];done)
  ·exact sK<|bM<|xS<|rG<|bN (v:=.int .i64 (IntKind.i64.wrap (x3 + 1))) r r r r r<|mV r r<|nI<|xL (s:=IntKind.i64.wrap (x3 + 1)) () ((hE ⟨rfl,r,r,r,trivial⟩ trivial))
 ·refine eT<|xE<|lE<|bH<|xS<|sQ<|rG<|aS r r<|nI<|xS<|rT<|JZ (b:=(-1)) r ?_ r r ?_ r
  all_goals first|(simp;done)|(simp;omega)|rfl|(simp [JU,JQ];done)

def Aef : Kb:=(.seq (.reg [P 4 (.asg (.c (.bool false)) none)] false) (.seq (.reg [M 5 0,M 6 1,P 7 (.call (.c (.clo 116 [])) [(T 5),(T 6)]),P 8 (.bin .geq (T 7) (C 0)),P 4 (.asg (T 8) none)] false) .ret))
theorem Ahu : (Tryd.f92.body.bind (Kc Tryd.prog Tryd.f92.ntmps)) = some Aef:=by kernel_rfl
theorem Ahv : Tryd.f92.results.toList.mapM (Kp Tryd.prog) = some [(.t 4)]:=by kernel_rfl
def Ly (a : (List (List Int)) × JO) : List D:=[.sl (a.1.map (eL JK)),.clo 90 [.fptr (Kv a.2) 0]]
def Lx (ds : List D) : (List (List Int)) × JO:=((uL (uL uI)) (ds.getD 0 .top),MP (fpD (Yt (ds.getD 1 .top) 0)))
theorem Ni (a : (List (List Int)) × JO) : Lx (Ly a) = a:=by simp [Lx,Ly,fpD,Yt,LH (u:=(uL uI)) (en:=(eL JK)) (LH (u:=uI) (en:=JK) (fun _=>rfl))]
def Nw (b : Bool) : D:=.bool b
def Nv (_b : Bool) : List D:=[]
noncomputable def Lc : Dw.Spec:=Ka [] .ground Ly Lx (fun a=>KL a.1 a.2) Nw Nv
set_option maxHeartbeats 4000000 in
theorem QY : JX Tryd.prog 92 Lc:=by
 refine Kl (Kg (l:=[(372852,Lq)]) (by simp [Sp])) Tryd.func92 (by decide) Ahu Ahv (np:=2) (by decide) Ni (fun _=>r) (fun _=>r) (by decide)<|?_
 rintro ⟨s1,f2⟩
 show TrE (specs [(372852,Lq)]) Aef (Kr [] .ground [(.t 4)] Nw Nv) ⟨[(0,.sl (s1.map (eL JK))),(1,.clo 90 [.fptr (.agg [.int .i64 f2.Params,.sl (f2.Slots.map JP),.sl (f2.Code.map JN)]) 0])],[],262144⟩ (KL s1 f2)
 refine Kd<|?_
 unfold Aef KL
 refine sQ<|rG<|aS rfl rfl<|nI<|xS<|sQ<|rG<|mV rfl rfl<|mV rfl rfl<|bD fun r3 hr3=>cG (s1,f2) rfl rfl (show _ = some Lq from by kernel_rfl) NX rfl rfl (by simp) r hr3 r<|bN (v:=.bool (decide (r3 ≥ 0))) r r r r r<|aS r r<|nI<|xS<|rT<|JZ (b:=(decide (r3 ≥ 0))) r ?_ r r ?_ r
 all_goals first|(simp;done)|(simp;omega)|rfl|(simp [JU,JQ];done)

def AdK : Kb:=(.seq (.reg [P 2 (.box (T 0) 3 27),P 3 (.box (T 1) 1 30),P 4 (.asg (.c (.bool false)) none)] false) (.seq (.reg [P 6 (.mkf 90 [(T 2)]),P 5 (.asg (T 6) none)] false) (.seq (.reg [P 7 (.fldA 0 (T 3)),P 8 (.ld 1 false (T 7)),P 9 (.len false (T 8)),P 10 (.fldA 2 (T 2)),P 11 (.ld 1 false (T 10)),P 12 (.len false (T 11)),P 13 (.bin .eql (T 9) (T 12)),M 14 13,⟨(some 15),(.fldA 0 (T 3)),(some ⟨14,true⟩),[]⟩,⟨(some 16),(.ld 1 false (T 15)),(some ⟨14,true⟩),[]⟩,⟨(some 17),(.mv (T 5)),(some ⟨14,true⟩),[]⟩,⟨(some 18),(.call (.c (.clo 92 [])) [(T 16),(T 17)]),(some ⟨14,true⟩),[]⟩,⟨(some 19),(.un .not (T 18)),(some ⟨14,true⟩),[]⟩,P 20 (.pick (T 14) (T 19) (.c (.bool false))),P 4 (.asg (T 20) none)] false) .ret)))
theorem AgE : (Tryd.f63.body.bind (Kc Tryd.prog Tryd.f63.ntmps)) = some AdK:=by kernel_rfl
theorem AgF : Tryd.f63.results.toList.mapM (Kp Tryd.prog) = some [(.t 4)]:=by kernel_rfl
def QL (a : JO × JV) : List D:=[Kv a.1,Lt a.2]
def QK (ds : List D) : JO × JV:=(MP (ds.getD 0 .top),PE (ds.getD 1 .top))
theorem RH (a : JO × JV) : QK (QL a) = a:=by simp [QK,QL]
def VD (b : Bool) : D:=.bool b
def VC (_b : Bool) : List D:=[]
noncomputable def NU : Dw.Spec:=Ka [] .ground QL QK (fun a=>ME a.1 a.2) VD VC
set_option maxHeartbeats 4000000 in
theorem UE : JX Tryd.prog 63 NU:=by
 refine Kl (Kg (l:=[(372828,Lc)]) (by simp [QY])) Tryd.func63 (by decide) AgE AgF (np:=2) (by decide) RH (fun _=>r) (fun _=>r) (by decide)<|?_
 rintro ⟨f1,l2⟩
 show TrE (specs [(372828,Lc)]) AdK (Kr [] .ground [(.t 4)] VD VC) ⟨[(0,.agg [.int .i64 f1.Params,.sl (f1.Slots.map JP),.sl (f1.Code.map JN)]),(1,.agg [.sl (l2.Out.map (eL JK))])],[],262144⟩ (ME f1 l2)
 refine Kd<|?_
 unfold AdK ME
 refine sQ<|rG<|bX r r r r r<|bX r r r r r<|aS r r<|nI<|Lu (E:=[(2,.fptr (.agg [.int .i64 f1.Params,.sl (f1.Slots.map JP),.sl (f1.Code.map JN)]) 0),(3,.optr 3 _ 0 0)]) (O:=[(3,some (_,⟨false,true,1,30,[.agg [.sl (l2.Out.map (eL JK))]]⟩))]) ((Yx (g:=2) r (by first | rfl | (simp [cells,frp,LG,JU]; done)) (hE ⟨(by first | rfl | (simp [KN,lkO,frp,LG,frO]; done) | (simp [KN,lkO,frp,LG,frO]; rfl)),(by first | rfl | (simp [KN,lkO,frp,LG,frO]; done) | (simp [KN,lkO,frp,LG,frO]; rfl)),trivial⟩ ⟨(by first | rfl | (simp [KN,lkO,frp,LG,frO]; done) | (simp [KN,lkO,frp,LG,frO]; rfl)),trivial⟩))) fun nn=>sQ<|rG<|mF (caps:=[.fptr (.agg [.int .i64 f1.Params,.sl (f1.Slots.map JP),.sl (f1.Code.map JN)]) 0]) r r (by simp [Wz])<|aS r r<|nI<|xS<|sQ<|rG<|fA r r<|lO (v:=.sl (l2.Out.map (eL JK))) (z:=.agg [.sl (l2.Out.map (eL JK))]) r r r r r r<|lS r r<|fF r r<|lF (v:=.sl (f1.Code.map JN)) r r r r<|lS r r<|bN (v:=.bool ((l2.Out.length : Int) == (f1.Code.length : Int))) r r r r r<|mV r r<|sP 14 (b:=((l2.Out.length : Int) == (f1.Code.length : Int))) r ?_ ?_
 ·refine fA rfl rfl<|lO (v:=.sl (l2.Out.map (eL JK))) (z:=.agg [.sl (l2.Out.map (eL JK))]) rfl rfl rfl rfl rfl rfl<|mV rfl rfl<|bD fun r3 hr3=>cG (l2.Out,f1) rfl rfl (show _ = some Lc from by kernel_rfl) Ni rfl rfl (by simp) r hr3 r<|uN (w:=.bool (!r3)) r r r r trivial<|pT r r r r<|aS r r<|nI<|xS<|rT<|JZ (b:=(!r3)) r ?_ r r ?_ r
  all_goals first|(simp;done)|(simp;omega)|rfl|(simp [JU,JQ];done)
 ·refine oF r<|oF r<|oF r<|oF r<|oF r<|pF r r r r<|aS r r<|nI<|xS<|rT<|JZ (b:=false) r ?_ r r ?_ r
  all_goals first|(simp;done)|(simp;omega)|rfl|(simp [JU,JQ];done)

def AdM : Kb:=(.seq (.reg [P 1 (.box (T 0) 1 30),P 2 (.asg (.c .nilf) none)] false) (.seq (.reg [P 3 (.mkf 94 [(T 1)]),P 2 (.asg (T 3) none)] false) .ret))
theorem AgI : (Tryd.f67.body.bind (Kc Tryd.prog Tryd.f67.ntmps)) = some AdM:=by kernel_rfl
theorem AgJ : Tryd.f67.results.toList.mapM (Kp Tryd.prog) = some [(.t 2)]:=by kernel_rfl
def Sk (a : JV) : List D:=[Lt a]
def Sj (ds : List D) : JV:=PE (ds.getD 0 .top)
theorem Ws (a : JV) : Sj (Sk a) = a:=by simp [Sj,Sk]
def Xg (b : JV) : D:=.clo 94 [.fptr (Lt b) 0]
def Xf (_b : JV) : List D:=[]
noncomputable def Tx : Dw.Spec:=Ka [] .val Sk Sj (fun a=>Qh a) Xg Xf
set_option maxHeartbeats 4000000 in
theorem ZH : JX Tryd.prog 67 Tx:=by
 refine Kl (KM) Tryd.func67 (by decide) AgI AgJ (np:=1) (by decide) Ws (fun _=>r) (fun _=>r) (by decide)<|?_
 intro l1
 show TrE (specs []) AdM (Kr [] .val [(.t 2)] Xg Xf) ⟨[(0,.agg [.sl (l1.Out.map (eL JK))])],[],262144⟩ (Qh l1)
 refine Kd<|?_
 unfold AdM Qh
 refine sQ<|rG<|bX r r r r r<|aS r r<|nI<|Lu (E:=[(1,.fptr (.agg [.sl (l1.Out.map (eL JK))]) 0)]) (O:=[]) ((Yx (g:=1) r (by first | rfl | (simp [cells,frp,LG,JU]; done)) (hE ⟨(by first | rfl | (simp [KN,lkO,frp,LG,frO]; done) | (simp [KN,lkO,frp,LG,frO]; rfl)),trivial⟩ trivial))) fun nn=>sQ<|rG<|mF (caps:=[.fptr (.agg [.sl (l1.Out.map (eL JK))]) 0]) r r (by simp [Wz])<|aS r r<|nI<|xS<|rT<|KC (b:=l1) r ?_ r r ?_ r
 all_goals first|(simp;done)|(simp;omega)|rfl|(simp [JU,JQ];done)

def Acr : Kb:=(.seq (.reg [P 2 (.asg (.c (.bool false)) none)] false) (.seq (.reg [M 3 0,P 4 (.bin .eql (T 3) (C 20)),M 5 4,⟨(some 6),(.mv (T 0)),(some ⟨5,false⟩),[]⟩,⟨(some 7),(.bin .eql (T 6) (C 23)),(some ⟨5,false⟩),[]⟩,P 8 (.pick (T 5) (.c (.bool true)) (T 7)),M 9 8,⟨(some 10),(.mv (T 0)),(some ⟨9,false⟩),[]⟩,⟨(some 11),(.bin .eql (T 10) (C 24)),(some ⟨9,false⟩),[]⟩,P 12 (.pick (T 9) (.c (.bool true)) (T 11)),P 2 (.asg (T 12) none)] false) .ret))
theorem Afb : (Tryd.f112.body.bind (Kc Tryd.prog Tryd.f112.ntmps)) = some Acr:=by kernel_rfl
theorem Afc : Tryd.f112.results.toList.mapM (Kp Tryd.prog) = some [(.t 2)]:=by kernel_rfl
def So (a : Int) : List D:=[.int .i64 a]
def Sn (ds : List D) : Int:=uI (ds.getD 0 .top)
theorem Wv (a : Int) : Sn (So a) = a:=by simp [Sn,So,uI]
def Xu (b : Bool) : D:=.bool b
def Xt (_b : Bool) : List D:=[]
noncomputable def TA : Dw.Spec:=Ka [] .ground So Sn (fun a=>Ql a) Xu Xt
set_option maxHeartbeats 4000000 in
theorem ZI : JX Tryd.prog 112 TA:=by
 refine Kl (KM) Tryd.func112 (by decide) Afb Afc (np:=1) (by decide) Wv (fun _=>r) (fun _=>r) (by decide)<|?_
 intro op1
 show TrE (specs []) Acr (Kr [] .ground [(.t 2)] Xu Xt) ⟨[(0,.int .i64 op1)],[],262144⟩ (Ql op1)
 refine Kd<|?_
 unfold Acr Ql
 refine sQ<|rG<|aS r r<|nI<|xS<|sQ<|rG<|mV r r<|bN (v:=.bool (op1 == 20)) r r r r r<|mV r r<|sP 5 (b:=(op1 == 20)) r ?_ ?_
 ·refine oF r<|oF r<|pT r r r r<|mV r r<|oF r<|oF r<|pT r r r r<|aS r r<|nI<|xS<|rT<|JZ (b:=true) r ?_ r r ?_ r
  all_goals first|(simp;done)|(simp;omega)|rfl|(simp [JU,JQ];done)
 ·refine mV r r<|bN (v:=.bool (op1 == 23)) r r r r r<|pF r r r r<|mV r r<|sP 9 (b:=(op1 == 23)) r ?_ ?_
  ·refine oF r<|oF r<|pT r r r r<|aS r r<|nI<|xS<|rT<|JZ (b:=true) r ?_ r r ?_ r
   all_goals first|(simp;done)|(simp;omega)|rfl|(simp [JU,JQ];done)
  ·refine mV r r<|bN (v:=.bool (op1 == 24)) r r r r r<|pF r r r r<|aS r r<|nI<|xS<|rT<|JZ (b:=(op1 == 24)) r ?_ r r ?_ r
   all_goals first|(simp;done)|(simp;omega)|rfl|(simp [JU,JQ];done)

def Aeb : Kb:=(.seq (.reg [P 2 (.box (T 0) 3 27),⟨(some 4),(.asg (.c .nils) (some ⟨1,3⟩)),none,[]⟩] false) (.seq (.seq (.reg [M 7 1,P 8 (.bin .lss (T 7) (C 0)),M 9 8,⟨(some 10),(.mv (T 1)),(some ⟨9,false⟩),[]⟩,⟨(some 11),(.fldA 2 (T 2)),(some ⟨9,false⟩),[]⟩,⟨(some 12),(.ld 1 false (T 11)),(some ⟨9,false⟩),[]⟩,⟨(some 13),(.len false (T 12)),(some ⟨9,false⟩),[]⟩,⟨(some 14),(.bin .geq (T 10) (T 13)),(some ⟨9,false⟩),[]⟩,P 15 (.pick (T 9) (.c (.bool true)) (T 14))] false) (.cond (T 15) (.seq (.reg [⟨(some 4),(.asg (.c .nils) (some ⟨1,3⟩)),none,[]⟩] false) .ret) .skip)) (.seq (.reg [⟨(some 5),(.asg (.c .nils) (some ⟨1,3⟩)),none,[]⟩] false) (.seq (.reg [P 16 (.fldA 2 (T 2)),P 17 (.ld 1 false (T 16)),M 18 1,P 19 (.ixA 5 (T 17) (T 18)),P 20 (.ld 5 true (T 19)),P 6 (.new (.agg [(.int .i64 0),(.int .i64 0),(.int .i64 0),(.int .i64 0),(.int .u64 0)]) 5 66),⟨none,(.st 5 (T 6) (T 20)),none,[]⟩] false) (.seq (.seq (.reg [P 21 (.fldA 0 (T 6)),P 22 (.ld 1 false (T 21)),P 23 (.call (.c (.clo 112 [])) [(T 22)]),P 24 (.un .not (T 23))] false) (.cond (T 24) (.reg [M 25 5,M 26 1,P 27 (.bin .add (T 26) (C 1)),⟨(some 28),(.bldS 1 3 (.int .i64 0) 1 [⟨0,(T 27)⟩]),none,[]⟩,P 29 (.app 1 3 8 (T 25) (T 28)),⟨(some 5),(.asg (T 29) (some ⟨1,3⟩)),none,[]⟩] false) .skip)) (.seq (.seq (.reg [P 30 (.fldA 0 (T 6)),P 31 (.ld 1 false (T 30))] false) (.block 0 (.seq (.reg [P 33 (.bin .eql (T 31) (C 20)),P 32 (.asg (T 33) none)] false) (.cond (T 32) (.reg [M 34 5,P 35 (.fldA 1 (T 6)),P 36 (.ld 1 false (T 35)),⟨(some 37),(.bldS 1 3 (.int .i64 0) 1 [⟨0,(T 36)⟩]),none,[]⟩,P 38 (.app 1 3 8 (T 34) (T 37)),⟨(some 5),(.asg (T 38) (some ⟨1,3⟩)),none,[]⟩] false) (.seq (.reg [P 40 (.bin .eql (T 31) (C 21)),P 39 (.asg (T 40) none)] false) (.cond (T 39) (.reg [M 41 5,P 42 (.fldA 2 (T 6)),P 43 (.ld 1 false (T 42)),⟨(some 44),(.bldS 1 3 (.int .i64 0) 1 [⟨0,(T 43)⟩]),none,[]⟩,P 45 (.app 1 3 8 (T 41) (T 44)),⟨(some 5),(.asg (T 45) (some ⟨1,3⟩)),none,[]⟩] false) .skip)))))) (.seq (.reg [M 46 5,P 47 (.call (.c (.clo 113 [])) [(T 46)])] false) (.seq (.reg [M 48 5,P 49 (.call (.c (.clo 114 [])) [(T 48)]),⟨(some 4),(.asg (T 49) (some ⟨1,3⟩)),none,[]⟩] false) .ret))))))))
theorem Ahm : (Tryd.f88.body.bind (Kc Tryd.prog Tryd.f88.ntmps)) = some Aeb:=by kernel_rfl
theorem Ahn : Tryd.f88.results.toList.mapM (Kp Tryd.prog) = some [(.t 4)]:=by kernel_rfl
def VL (a : JO × Int) : List D:=[Kv a.1,.int .i64 a.2]
def VK (ds : List D) : JO × Int:=(MP (ds.getD 0 .top),uI (ds.getD 1 .top))
theorem Zf (a : JO × Int) : VK (VL a) = a:=by simp [VK,VL,uI]
def ZR (b : (List Int)) : D:=.sl (b.map JK)
def ZQ (_b : (List Int)) : List D:=[]
noncomputable def XR : Dw.Spec:=Ka [] (.row 1 3) VL VK (fun a=>TJ a.1 a.2) ZR ZQ
set_option maxHeartbeats 4000000 in
theorem Abt : JX Tryd.prog 88 XR:=by
 refine Kl (Kg (l:=[(112,TA),(113,Qm),(114,OR)]) (by simp [ZI,XU,Wx])) Tryd.func88 (by decide) Ahm Ahn (np:=2) (by decide) Zf (fun _=>r) (fun _=>r) (by decide)<|?_
 rintro ⟨f1,k2⟩
 show TrE (specs [(112,TA),(113,Qm),(114,OR)]) Aeb (Kr [] (.row 1 3) [(.t 4)] ZR ZQ) ⟨[(0,.agg [.int .i64 f1.Params,.sl (f1.Slots.map JP),.sl (f1.Code.map JN)]),(1,.int .i64 k2)],[],262144⟩ (TJ f1 k2)
 refine Kd<|?_
 unfold Aeb TJ
 refine sQ<|rG<|bX r r r r r<|aN (α:=Int) r JK r<|nI<|xS<|sC (E:=fun (s : Unit) (g : Nat)=>[(1,.int .i64 k2),(2,.optr 2 g 0 0)]) (O:=fun s g=>[(2,some (g,⟨false,true,3,27,[.agg [.int .i64 f1.Params,.sl (f1.Slots.map JP),.sl (f1.Code.map JN)]]⟩))]) (j:=fun s=>Uf f1 k2) ?_ ?_
 ·refine sQ<|rG<|mV r r<|bN (v:=.bool (decide (k2 < 0))) r r r r r<|mV r r<|sP 9 (b:=(decide (k2 < 0))) r ?_ ?_
  ·refine oF r<|oF r<|oF r<|oF r<|oF r<|pT r r r r<|nI<|xS<|LY r<|sQ<|rG<|aN (α:=Int) r JK r<|nI<|xS<|rT<|zR<|Ku (b:=([] : List Int)) r ?_ r r ?_ r ?_ (congrArg D.sl (JS _ _ r)) r
   all_goals first|(simp;done)|(simp;omega)|rfl|(simp [JU,JQ];done)
  ·refine mV r r<|fA r r<|lO (v:=.sl (f1.Code.map JN)) (z:=.agg [.int .i64 f1.Params,.sl (f1.Slots.map JP),.sl (f1.Code.map JN)]) r r r r r r<|lS r r<|bN (v:=.bool (decide (k2 ≥ (f1.Code.length : Int)))) r r r r r<|pF r r r r<|nI<|xS<|cD (c:=(decide (k2 ≥ (f1.Code.length : Int)))) r ?_ ?_
   ·refine sQ<|rG<|aN (α:=Int) r JK r<|nI<|xS<|rT<|zR<|Ku (b:=([] : List Int)) r ?_ r r ?_ r ?_ (congrArg D.sl (JS _ _ r)) r
    all_goals first|(simp;done)|(simp;omega)|rfl|(simp [JU,JQ];done)
   ·exact sK<|xC (s:=()) _ ((hE ⟨rfl,r,trivial⟩ ⟨rfl,trivial⟩))
 ·rintro ⟨⟩ v2x1 nn
  try dsimp only
  unfold Uf
  refine sQ<|rG<|aN (α:=Int) r JK r<|nI<|xS<|sQ<|rG<|fA r r<|lO (v:=.sl (f1.Code.map JN)) (z:=.agg [.int .i64 f1.Params,.sl (f1.Slots.map JP),.sl (f1.Code.map JN)]) r r r r r r<|mV r r<|bD fun x_x3 hx_x3=>iS (en:=JN) r r r hx_x3 r<|lF (v:=.agg [.int .i64 x_x3.Op,.int .i64 x_x3.A,.int .i64 x_x3.B,.int .i64 x_x3.C,.int .u64 x_x3.Imm]) r r r r<|nW r<|sV (z':=.agg [.int .i64 x_x3.Op,.int .i64 x_x3.A,.int .i64 x_x3.B,.int .i64 x_x3.C,.int .u64 x_x3.Imm]) r r r r r r r r r<|nI<|xS<|sC (E:=fun (s : (List Int)) (g : Nat × Nat)=>[(5,.osl 5 g.1 0 s.length),(6,.optr 6 g.2 0 0)]) (O:=fun s g=>[(5,some (g.1,⟨false,false,1,3,s.map JK⟩)),(6,some (g.2,⟨false,true,5,66,[.agg [.int .i64 x_x3.Op,.int .i64 x_x3.A,.int .i64 x_x3.B,.int .i64 x_x3.C,.int .u64 x_x3.Imm]]⟩))]) (j:=fun s=>Sc x_x3 s) ?_ ?_
  ·refine sQ<|rG<|fA r r<|lO (v:=.int .i64 x_x3.Op) (z:=.agg [.int .i64 x_x3.Op,.int .i64 x_x3.A,.int .i64 x_x3.B,.int .i64 x_x3.C,.int .u64 x_x3.Imm]) r r r r r r<|bD fun r5 hr5=>cG x_x3.Op r r r Wv r r (by simp) r hr5 r<|uN (w:=.bool (!r5)) r r r r trivial<|nI<|xS<|cD (c:=(!r5)) r ?_ ?_
   ·exact rG<|mV r r<|mV r r<|bN (v:=.int .i64 (IntKind.i64.wrap (k2 + 1))) r r r r r<|bS ([IntKind.i64.wrap (k2 + 1)] : List Int) JK r r r (by simp) r r r<|cK fun hq=>aP (([] : List Int)) (([IntKind.i64.wrap (k2 + 1)] : List Int)) JK r r r r r r r (by simp) (Kn _ _ r) r r (by simp) (JS _ _ r) (fun _=>r) r hq<|aO (l:=([] : List Int) ++ ([IntKind.i64.wrap (k2 + 1)] : List Int)) (en:=JK) r r r r<|nI<|xC (s:=([] : List Int) ++ ([IntKind.i64.wrap (k2 + 1)] : List Int)) (_,_) ((hE ⟨rfl,r,trivial⟩ ⟨rfl,r,trivial⟩))
   ·exact sK<|xC (s:=([] : List Int)) (_,_) ((hE ⟨rfl,r,trivial⟩ ⟨rfl,r,trivial⟩))
  ·rintro l4 ⟨v5x2,v6x2⟩ nn
   try dsimp only
   unfold Sc
   refine sQ<|sQ<|rG<|fA r r<|lO (v:=.int .i64 x_x3.Op) (z:=.agg [.int .i64 x_x3.Op,.int .i64 x_x3.A,.int .i64 x_x3.B,.int .i64 x_x3.C,.int .u64 x_x3.Imm]) r r r r r r<|nI<|xS<|bK<|sQ<|rG<|bN (v:=.bool (x_x3.Op == 20)) r r r r r<|aS r r<|nI<|xS<|cD (c:=(x_x3.Op == 20)) r ?_ ?_
   ·refine rG<|mV r r<|fA r r<|lO (v:=.int .i64 x_x3.A) (z:=.agg [.int .i64 x_x3.Op,.int .i64 x_x3.A,.int .i64 x_x3.B,.int .i64 x_x3.C,.int .u64 x_x3.Imm]) r r r r r r<|bS ([x_x3.A] : List Int) JK r r r (by simp) r r r<|cK fun hq=>aP (l4) (([x_x3.A] : List Int)) JK r r r r r r r (by simp) (Kn _ _ r) r r (by simp) (JS _ _ r) (fun _=>r) r hq<|aO (l:=l4 ++ ([x_x3.A] : List Int)) (en:=JK) r r r r<|nI<|bM<|xS<|sQ<|rG<|mV r r<|cK fun hq=>YD (l:=l4 ++ ([x_x3.A] : List Int)) (l':=LL (l4 ++ ([x_x3.A] : List Int))) r r r r r r r hq r<|nI<|xS<|sQ<|rG<|mV r r<|cK fun hq=>Xx (l:=LL (l4 ++ ([x_x3.A] : List Int))) (l':=Lib.compact (LL (l4 ++ ([x_x3.A] : List Int)))) r r r r r (by simp) r hq (UL _) r<|aO (l:=Lib.compact (LL (l4 ++ ([x_x3.A] : List Int)))) (en:=JK) r r r r<|nI<|xS<|rT<|Ku (b:=Lib.compact (LL (l4 ++ ([x_x3.A] : List Int)))) r ?_ r r ?_ r ?_ (congrArg D.sl (JS _ _ r)) r
    all_goals first|(simp;done)|(simp;omega)|rfl|(simp [JU,JQ];done)
   ·refine sQ<|rG<|bN (v:=.bool (x_x3.Op == 21)) r r r r r<|aS r r<|nI<|xS<|cD (c:=(x_x3.Op == 21)) r ?_ ?_
    ·refine rG<|mV r r<|fA r r<|lO (v:=.int .i64 x_x3.B) (z:=.agg [.int .i64 x_x3.Op,.int .i64 x_x3.A,.int .i64 x_x3.B,.int .i64 x_x3.C,.int .u64 x_x3.Imm]) r r r r r r<|bS ([x_x3.B] : List Int) JK r r r (by simp) r r r<|cK fun hq=>aP (l4) (([x_x3.B] : List Int)) JK r r r r r r r (by simp) (Kn _ _ r) r r (by simp) (JS _ _ r) (fun _=>r) r hq<|aO (l:=l4 ++ ([x_x3.B] : List Int)) (en:=JK) r r r r<|nI<|bM<|xS<|sQ<|rG<|mV r r<|cK fun hq=>YD (l:=l4 ++ ([x_x3.B] : List Int)) (l':=LL (l4 ++ ([x_x3.B] : List Int))) r r r r r r r hq r<|nI<|xS<|sQ<|rG<|mV r r<|cK fun hq=>Xx (l:=LL (l4 ++ ([x_x3.B] : List Int))) (l':=Lib.compact (LL (l4 ++ ([x_x3.B] : List Int)))) r r r r r (by simp) r hq (UL _) r<|aO (l:=Lib.compact (LL (l4 ++ ([x_x3.B] : List Int)))) (en:=JK) r r r r<|nI<|xS<|rT<|Ku (b:=Lib.compact (LL (l4 ++ ([x_x3.B] : List Int)))) r ?_ r r ?_ r ?_ (congrArg D.sl (JS _ _ r)) r
     all_goals first|(simp;done)|(simp;omega)|rfl|(simp [JU,JQ];done)
    ·refine sK<|bM<|xS<|sQ<|rG<|mV r r<|cK fun hq=>YD (l:=l4) (l':=LL l4) r r r r r r r hq r<|nI<|xS<|sQ<|rG<|mV r r<|cK fun hq=>Xx (l:=LL l4) (l':=Lib.compact (LL l4)) r r r r r (by simp) r hq (UL _) r<|aO (l:=Lib.compact (LL l4)) (en:=JK) r r r r<|nI<|xS<|rT<|Ku (b:=Lib.compact (LL l4)) r ?_ r r ?_ r ?_ (congrArg D.sl (JS _ _ r)) r
     all_goals first|(simp;done)|(simp;omega)|rfl|(simp [JU,JQ];done)

def Aeg : Kb:=(.seq (.reg [⟨(some 3),(.asg (.c .nils) (some ⟨1,3⟩)),none,[]⟩] false) (.seq (.reg [P 4 (.fldA 0 (T 1)),P 5 (.ld 1 false (T 4)),M 6 0,P 7 (.ixA 1 (T 5) (T 6)),P 8 (.ld 1 false (T 7)),⟨(some 3),(.asg (T 8) (some ⟨1,3⟩)),none,[]⟩] false) .ret))
theorem Ahw : (Tryd.f94.body.bind (Kc Tryd.prog Tryd.f94.ntmps)) = some Aeg:=by kernel_rfl
theorem Ahx : Tryd.f94.results.toList.mapM (Kp Tryd.prog) = some [(.t 3)]:=by kernel_rfl
def Pj (a : Int × JV) : List D:=[.int .i64 a.1,.fptr (Lt a.2) 0]
def Ph (ds : List D) : Int × JV:=(uI (ds.getD 0 .top),PE (fpD (ds.getD 1 .top)))
theorem Td (a : Int × JV) : Ph (Pj a) = a:=by simp [Ph,Pj,uI,fpD]
def TO (b : (List Int)) : D:=.sl (b.map JK)
def TN (_b : (List Int)) : List D:=[]
noncomputable def Qi : Dw.Spec:=Ka [] .val Pj Ph (fun a=>Nt a.1 a.2) TO TN
set_option maxHeartbeats 4000000 in
theorem XS : JX Tryd.prog 94 Qi:=by
 refine Kl (KM) Tryd.func94 (by decide) Ahw Ahx (np:=2) (by decide) Td (fun _=>r) (fun _=>r) (by decide)<|?_
 rintro ⟨j1,cap2⟩
 show TrE (specs []) Aeg (Kr [] .val [(.t 3)] TO TN) ⟨[(0,.int .i64 j1),(1,.fptr (.agg [.sl (cap2.Out.map (eL JK))]) 0)],[],262144⟩ (Nt j1 cap2)
 refine Kd<|?_
 unfold Aeg Nt
 refine sQ<|rG<|aN (α:=Int) r JK r<|nI<|xS<|sQ<|rG<|fF r r<|lF (v:=.sl (cap2.Out.map (eL JK))) r r r r<|mV r r<|bD fun x_x3 hx_x3=>iS (en:=(eL JK)) r r r hx_x3 r<|lF (v:=.sl (x_x3.map JK)) r r r r<|aL r r<|nI<|xS<|rT<|KC (b:=x_x3) r ?_ r r ?_ r
 all_goals first|(simp;done)|(simp;omega)|rfl|(simp [JU,JQ];done)

def Aci : Kb:=(.seq (.reg [P 1 (.box (T 0) 5 66),P 2 (.asg (C 0) none),P 3 (.asg (.c (.bool false)) none)] false) (.seq (.seq (.reg [P 4 (.fldA 0 (T 1)),P 5 (.ld 1 false (T 4))] false) (.block 0 (.seq (.seq (.reg [P 7 (.bin .eql (T 5) (C 16)),P 6 (.asg (T 7) none)] false) (.cond (T 6) .skip (.reg [P 8 (.bin .eql (T 5) (C 17)),P 6 (.asg (T 8) none)] false))) (.cond (T 6) (.seq (.reg [P 9 (.fldA 1 (T 1)),P 10 (.ld 1 false (T 9)),P 2 (.asg (T 10) none),P 3 (.asg (.c (.bool true)) none)] false) .ret) .skip)))) (.seq (.reg [P 2 (.asg (C 0) none),P 3 (.asg (.c (.bool false)) none)] false) .ret)))
theorem AeJ : (Tryd.f100.body.bind (Kc Tryd.prog Tryd.f100.ntmps)) = some Aci:=by kernel_rfl
theorem AeK : Tryd.f100.results.toList.mapM (Kp Tryd.prog) = some [(.t 2),(.t 3)]:=by kernel_rfl
def Sb (a : JL) : List D:=[JN a]
def Sa (ds : List D) : JL:=Qs (ds.getD 0 .top)
theorem PW (a : JL) : Sa (Sb a) = a:=by simp [Sa,Sb]
def Xd (b : Int × Bool) : D:=.tup [.int .i64 b.1,.bool b.2]
def Xc (_b : Int × Bool) : List D:=[]
noncomputable def MD : Dw.Spec:=Ka [] .ground Sb Sa (fun a=>MN a) Xd Xc
set_option maxHeartbeats 4000000 in
theorem SS : JX Tryd.prog 100 MD:=by
 refine Kl (KM) Tryd.func100 (by decide) AeJ AeK (np:=1) (by decide) PW (fun _=>r) (fun _=>r) (by decide)<|?_
 intro x1
 show TrE (specs []) Aci (Kr [] .ground [(.t 2),(.t 3)] Xd Xc) ⟨[(0,.agg [.int .i64 x1.Op,.int .i64 x1.A,.int .i64 x1.B,.int .i64 x1.C,.int .u64 x1.Imm])],[],262144⟩ (MN x1)
 refine Kd<|?_
 unfold Aci MN
 refine sQ<|rG<|bX r r r r r<|aS r r<|aS r r<|nI<|xS<|sQ<|sQ<|rG<|fA r r<|lO (v:=.int .i64 x1.Op) (z:=.agg [.int .i64 x1.Op,.int .i64 x1.A,.int .i64 x1.B,.int .i64 x1.C,.int .u64 x1.Imm]) r r r r r r<|nI<|xS<|bK<|sQ<|sQ<|rG<|bN (v:=.bool (x1.Op == 16)) r r r r r<|aS r r<|nI<|xS<|cD (c:=(x1.Op == 16)) r ?_ ?_
 ·refine sK<|xS<|cD (c:=(x1.Op == 16)) r ?_ ?_
  ·refine sQ<|rG<|fA r r<|lO (v:=.int .i64 x1.A) (z:=.agg [.int .i64 x1.Op,.int .i64 x1.A,.int .i64 x1.B,.int .i64 x1.C,.int .u64 x1.Imm]) r r r r r r<|aS r r<|aS r r<|nI<|xS<|rT<|bR<|xR<|Mh (b:=(x1.A,true)) r ?_ r r ?_ r (by decide)
   all_goals first|(simp;done)|(simp;omega)|rfl|(simp [JU,JQ];done)
  ·refine sK<|bM<|xS<|sQ<|rG<|aS r r<|aS r r<|nI<|xS<|rT<|Mh (b:=(0,false)) r ?_ r r ?_ r (by decide)
   all_goals first|(simp;done)|(simp;omega)|rfl|(simp [JU,JQ];done)
 ·refine rG<|bN (v:=.bool (x1.Op == 17)) r r r r r<|aS r r<|nI<|xS<|cD (c:=(x1.Op == 17)) r ?_ ?_
  ·refine sQ<|rG<|fA r r<|lO (v:=.int .i64 x1.A) (z:=.agg [.int .i64 x1.Op,.int .i64 x1.A,.int .i64 x1.B,.int .i64 x1.C,.int .u64 x1.Imm]) r r r r r r<|aS r r<|aS r r<|nI<|xS<|rT<|bR<|xR<|Mh (b:=(x1.A,true)) r ?_ r r ?_ r (by decide)
   all_goals first|(simp;done)|(simp;omega)|rfl|(simp [JU,JQ];done)
  ·refine sK<|bM<|xS<|sQ<|rG<|aS r r<|aS r r<|nI<|xS<|rT<|Mh (b:=(0,false)) r ?_ r r ?_ r (by decide)
   all_goals first|(simp;done)|(simp;omega)|rfl|(simp [JU,JQ];done)

def Acl : Kb:=(.seq (.reg [M 7 1,P 8 (.cvt .u64 (T 7)),P 9 (.bin .rem (T 8) (.c (.int .u64 64))),P 10 (.bin .shl (.c (.int .u64 1)) (T 9)),P 6 (.asg (T 10) none)] false) (.block 0 (.seq (.reg [M 22 1,P 23 (.call (.c (.clo 115 [])) [(T 22)]),P 24 (.un .not (T 23)),P 21 (.asg (T 24) none)] false) (.cond (T 21) .skip (.seq (.reg [M 26 2,P 25 (.asg (T 26) none)] false) (.cond (T 25) (.reg [M 27 0,M 28 1,⟨(some 29),(.bin .quo (T 28) (C 64)),none,[1]⟩,⟨(some 30),(.nilck (T 27)),none,[0]⟩,⟨(some 31),(.ixP 1 8 (T 30) (T 29)),none,[3,2]⟩,⟨(some 32),(.ld 1 false (T 31)),none,[4]⟩,M 33 6,⟨(some 34),(.bin .or (T 32) (T 33)),none,[5,6]⟩,⟨(some 35),(.nilck (T 27)),none,[0]⟩,⟨(some 36),(.ixP 1 8 (T 35) (T 29)),none,[8,2,0,1,2,3,4,5,6,7]⟩,⟨none,(.st 1 (T 36) (T 34)),none,[9,7,0,1,2,3,4,5,6,7]⟩] true) (.reg [M 11 0,M 12 1,⟨(some 13),(.bin .quo (T 12) (C 64)),none,[1]⟩,⟨(some 14),(.nilck (T 11)),none,[0]⟩,⟨(some 15),(.ixP 1 8 (T 14) (T 13)),none,[3,2]⟩,⟨(some 16),(.ld 1 false (T 15)),none,[4]⟩,M 17 6,⟨(some 18),(.bin .andNot (T 16) (T 17)),none,[5,6]⟩,⟨(some 19),(.nilck (T 11)),none,[0]⟩,⟨(some 20),(.ixP 1 8 (T 19) (T 13)),none,[8,2,0,1,2,3,4,5,6,7]⟩,⟨none,(.st 1 (T 20) (T 18)),none,[9,7,0,1,2,3,4,5,6,7]⟩] true)))))))
theorem AeP : (Tryd.f103.body.bind (Kc Tryd.prog Tryd.f103.ntmps)) = some Acl:=by kernel_rfl
theorem AeQ : Tryd.f103.results.toList.mapM (Kp Tryd.prog) = some []:=by kernel_rfl
def PH (a : JM × Int × Bool) : List D:=[Kt a.1,.int .i64 a.2.1,.bool a.2.2]
def PG (ds : List D) : JM × Int × Bool:=(LZ (ds.getD 0 .top),uI (ds.getD 1 .top),uBo (ds.getD 2 .top))
theorem PZ (a : JM × Int × Bool) : PG (PH a) = a:=by simp [PG,PH,uI,uBo]
def TX (b : JM) : D:=.tup []
def TW (b : JM) : List D:=[Kt b]
noncomputable def MW : Dw.Spec:=Ka [(0,(8,122))] .val PH PG (fun a=>LS a.1 a.2.1 a.2.2) TX TW
set_option maxHeartbeats 4000000 in
theorem TE : JX Tryd.prog 103 MW:=by
 refine Kl (Kg (l:=[(115,Nr)]) (by simp [Ua])) Tryd.func103 (by decide) AeP AeQ (np:=3) (by decide) PZ (fun _=>r) (fun _=>r) (by decide)<|?_
 rintro ⟨s1,n2,in3⟩
 show TrE (specs [(115,Nr)]) Acl (Kr [(0,(8,122))] .val [] TX TW) ⟨[(0,.optr 8192 0 0 0),(1,.int .i64 n2),(2,.bool in3)],[(8192,some (0,⟨false,true,8,122,[.agg [.int .u64 s1.a0,.int .u64 s1.a1,.int .u64 s1.a2,.int .u64 s1.a3,.int .u64 s1.a4,.int .u64 s1.a5,.int .u64 s1.a6,.int .u64 s1.a7]]⟩))],262144⟩ (LS s1 n2 in3)
 refine Kd<|?_
 unfold Acl LS
 refine sQ<|rG<|mV r r<|cT r r<|bN (v:=.int .u64 ((IntKind.u64.wrap (n2)).tmod 64)) r r r r ⟨rfl,(by decide)⟩<|cK fun hq=>bN (v:=.int .u64 (IntKind.u64.wrap (1 * 2 ^ (Nat.min ((IntKind.u64.wrap (n2)).tmod 64).toNat IntKind.u64.bits)))) r r r r hq<|aS r r<|nI<|xS<|bK<|sQ<|rG<|mV r r<|bD fun r4 hr4=>cG n2 r r r QA r r (by simp) r hr4 r<|uN (w:=.bool (!r4)) r r r r trivial<|aS r r<|nI<|xS<|cD (c:=(!r4)) r ?_ ?_
 ·refine sK<|bM<|NO (b:=s1) r ?_ r r ?_ r (by decide)
  all_goals first|(simp;done)|(simp;omega)|rfl|(simp [JU,JQ];done)
 ·refine sQ<|rG<|mV r r<|aS r r<|nI<|xS<|cD (c:=in3) r ?_ ?_
  ·refine rG<|mV r r<|mV r r<|bN (v:=.int .i64 (IntKind.i64.wrap (n2.tdiv 64))) r r r r ⟨rfl,(by decide)⟩<|nC r r r<|cK fun hq=>Qp r r r hq<|bD fun s_e5 hs_e5=>QN (q:=s_e5) (l:=s1.toList) (en:=Tw) (j:=(IntKind.i64.wrap (n2.tdiv 64)).toNat) (by simp) r r r hs_e5 r (fun _=>r)<|mV r r<|bN (v:=.int .u64 (IntKind.u64.wrap ((BitVec.ofInt IntKind.u64.bits s_e5 ||| BitVec.ofInt IntKind.u64.bits (IntKind.u64.wrap (1 * 2 ^ (Nat.min ((IntKind.u64.wrap (n2)).tmod 64).toNat IntKind.u64.bits)))).toNat))) r r r r r<|nC r r r<|cK fun hq=>Qp r r r hq<|bD fun s_o6 hs_o6=>XL (q:=s_o6) (q':=IntKind.u64.wrap ((BitVec.ofInt IntKind.u64.bits s_e5 ||| BitVec.ofInt IntKind.u64.bits (IntKind.u64.wrap (1 * 2 ^ (Nat.min ((IntKind.u64.wrap (n2)).tmod 64).toNat IntKind.u64.bits)))).toNat)) (l:=s1.toList) (en:=Tw) (j:=(IntKind.i64.wrap (n2.tdiv 64)).toNat) (z':=.agg [.int .u64 ((s1.set ((IntKind.i64.wrap (n2.tdiv 64)).toNat) (IntKind.u64.wrap ((BitVec.ofInt IntKind.u64.bits s_e5 ||| BitVec.ofInt IntKind.u64.bits (IntKind.u64.wrap (1 * 2 ^ (Nat.min ((IntKind.u64.wrap (n2)).tmod 64).toNat IntKind.u64.bits)))).toNat))).a0),.int .u64 ((s1.set ((IntKind.i64.wrap (n2.tdiv 64)).toNat) (IntKind.u64.wrap ((BitVec.ofInt IntKind.u64.bits s_e5 ||| BitVec.ofInt IntKind.u64.bits (IntKind.u64.wrap (1 * 2 ^ (Nat.min ((IntKind.u64.wrap (n2)).tmod 64).toNat IntKind.u64.bits)))).toNat))).a1),.int .u64 ((s1.set ((IntKind.i64.wrap (n2.tdiv 64)).toNat) (IntKind.u64.wrap ((BitVec.ofInt IntKind.u64.bits s_e5 ||| BitVec.ofInt IntKind.u64.bits (IntKind.u64.wrap (1 * 2 ^ (Nat.min ((IntKind.u64.wrap (n2)).tmod 64).toNat IntKind.u64.bits)))).toNat))).a2),.int .u64 ((s1.set ((IntKind.i64.wrap (n2.tdiv 64)).toNat) (IntKind.u64.wrap ((BitVec.ofInt IntKind.u64.bits s_e5 ||| BitVec.ofInt IntKind.u64.bits (IntKind.u64.wrap (1 * 2 ^ (Nat.min ((IntKind.u64.wrap (n2)).tmod 64).toNat IntKind.u64.bits)))).toNat))).a3),.int .u64 ((s1.set ((IntKind.i64.wrap (n2.tdiv 64)).toNat) (IntKind.u64.wrap ((BitVec.ofInt IntKind.u64.bits s_e5 ||| BitVec.ofInt IntKind.u64.bits (IntKind.u64.wrap (1 * 2 ^ (Nat.min ((IntKind.u64.wrap (n2)).tmod 64).toNat IntKind.u64.bits)))).toNat))).a4),.int .u64 ((s1.set ((IntKind.i64.wrap (n2.tdiv 64)).toNat) (IntKind.u64.wrap ((BitVec.ofInt IntKind.u64.bits s_e5 ||| BitVec.ofInt IntKind.u64.bits (IntKind.u64.wrap (1 * 2 ^ (Nat.min ((IntKind.u64.wrap (n2)).tmod 64).toNat IntKind.u64.bits)))).toNat))).a5),.int .u64 ((s1.set ((IntKind.i64.wrap (n2.tdiv 64)).toNat) (IntKind.u64.wrap ((BitVec.ofInt IntKind.u64.bits s_e5 ||| BitVec.ofInt IntKind.u64.bits (IntKind.u64.wrap (1 * 2 ^ (Nat.min ((IntKind.u64.wrap (n2)).tmod 64).toNat IntKind.u64.bits)))).toNat))).a6),.int .u64 ((s1.set ((IntKind.i64.wrap (n2.tdiv 64)).toNat) (IntKind.u64.wrap ((BitVec.ofInt IntKind.u64.bits s_e5 ||| BitVec.ofInt IntKind.u64.bits (IntKind.u64.wrap (1 * 2 ^ (Nat.min ((IntKind.u64.wrap (n2)).tmod 64).toNat IntKind.u64.bits)))).toNat))).a7)]) (by simp) r r r r r hs_o6 r r (congrArg (fun l=>D.agg (l.map Tw)) (Me s1 ((IntKind.i64.wrap (n2.tdiv 64)).toNat) (IntKind.u64.wrap ((BitVec.ofInt IntKind.u64.bits s_e5 ||| BitVec.ofInt IntKind.u64.bits (IntKind.u64.wrap (1 * 2 ^ (Nat.min ((IntKind.u64.wrap (n2)).tmod 64).toNat IntKind.u64.bits)))).toNat))).symm) r r<|Ki (by kernel_rfl)<|bM<|NO (b:=(s1.set ((IntKind.i64.wrap (n2.tdiv 64)).toNat) (IntKind.u64.wrap ((BitVec.ofInt IntKind.u64.bits s_e5 ||| BitVec.ofInt IntKind.u64.bits (IntKind.u64.wrap (1 * 2 ^ (Nat.min ((IntKind.u64.wrap (n2)).tmod 64).toNat IntKind.u64.bits)))).toNat)))) r ?_ r r ?_ r (by decide)
   all_goals first|(simp;done)|(simp;omega)|rfl|(simp [JU,JQ];done)
  ·refine rG<|mV r r<|mV r r<|bN (v:=.int .i64 (IntKind.i64.wrap (n2.tdiv 64))) r r r r ⟨rfl,(by decide)⟩<|nC r r r<|cK fun hq=>Qp r r r hq<|bD fun s_e7 hs_e7=>QN (q:=s_e7) (l:=s1.toList) (en:=Tw) (j:=(IntKind.i64.wrap (n2.tdiv 64)).toNat) (by simp) r r r hs_e7 r (fun _=>r)<|mV r r<|bN (v:=.int .u64 (IntKind.u64.wrap ((BitVec.ofInt IntKind.u64.bits s_e7 &&& ~~~ BitVec.ofInt IntKind.u64.bits (IntKind.u64.wrap (1 * 2 ^ (Nat.min ((IntKind.u64.wrap (n2)).tmod 64).toNat IntKind.u64.bits)))).toNat))) r r r r r<|nC r r r<|cK fun hq=>Qp r r r hq<|bD fun s_o8 hs_o8=>XL (q:=s_o8) (q':=IntKind.u64.wrap ((BitVec.ofInt IntKind.u64.bits s_e7 &&& ~~~ BitVec.ofInt IntKind.u64.bits (IntKind.u64.wrap (1 * 2 ^ (Nat.min ((IntKind.u64.wrap (n2)).tmod 64).toNat IntKind.u64.bits)))).toNat)) (l:=s1.toList) (en:=Tw) (j:=(IntKind.i64.wrap (n2.tdiv 64)).toNat) (z':=.agg [.int .u64 ((s1.set ((IntKind.i64.wrap (n2.tdiv 64)).toNat) (IntKind.u64.wrap ((BitVec.ofInt IntKind.u64.bits s_e7 &&& ~~~ BitVec.ofInt IntKind.u64.bits (IntKind.u64.wrap (1 * 2 ^ (Nat.min ((IntKind.u64.wrap (n2)).tmod 64).toNat IntKind.u64.bits)))).toNat))).a0),.int .u64 ((s1.set ((IntKind.i64.wrap (n2.tdiv 64)).toNat) (IntKind.u64.wrap ((BitVec.ofInt IntKind.u64.bits s_e7 &&& ~~~ BitVec.ofInt IntKind.u64.bits (IntKind.u64.wrap (1 * 2 ^ (Nat.min ((IntKind.u64.wrap (n2)).tmod 64).toNat IntKind.u64.bits)))).toNat))).a1),.int .u64 ((s1.set ((IntKind.i64.wrap (n2.tdiv 64)).toNat) (IntKind.u64.wrap ((BitVec.ofInt IntKind.u64.bits s_e7 &&& ~~~ BitVec.ofInt IntKind.u64.bits (IntKind.u64.wrap (1 * 2 ^ (Nat.min ((IntKind.u64.wrap (n2)).tmod 64).toNat IntKind.u64.bits)))).toNat))).a2),.int .u64 ((s1.set ((IntKind.i64.wrap (n2.tdiv 64)).toNat) (IntKind.u64.wrap ((BitVec.ofInt IntKind.u64.bits s_e7 &&& ~~~ BitVec.ofInt IntKind.u64.bits (IntKind.u64.wrap (1 * 2 ^ (Nat.min ((IntKind.u64.wrap (n2)).tmod 64).toNat IntKind.u64.bits)))).toNat))).a3),.int .u64 ((s1.set ((IntKind.i64.wrap (n2.tdiv 64)).toNat) (IntKind.u64.wrap ((BitVec.ofInt IntKind.u64.bits s_e7 &&& ~~~ BitVec.ofInt IntKind.u64.bits (IntKind.u64.wrap (1 * 2 ^ (Nat.min ((IntKind.u64.wrap (n2)).tmod 64).toNat IntKind.u64.bits)))).toNat))).a4),.int .u64 ((s1.set ((IntKind.i64.wrap (n2.tdiv 64)).toNat) (IntKind.u64.wrap ((BitVec.ofInt IntKind.u64.bits s_e7 &&& ~~~ BitVec.ofInt IntKind.u64.bits (IntKind.u64.wrap (1 * 2 ^ (Nat.min ((IntKind.u64.wrap (n2)).tmod 64).toNat IntKind.u64.bits)))).toNat))).a5),.int .u64 ((s1.set ((IntKind.i64.wrap (n2.tdiv 64)).toNat) (IntKind.u64.wrap ((BitVec.ofInt IntKind.u64.bits s_e7 &&& ~~~ BitVec.ofInt IntKind.u64.bits (IntKind.u64.wrap (1 * 2 ^ (Nat.min ((IntKind.u64.wrap (n2)).tmod 64).toNat IntKind.u64.bits)))).toNat))).a6),.int .u64 ((s1.set ((IntKind.i64.wrap (n2.tdiv 64)).toNat) (IntKind.u64.wrap ((BitVec.ofInt IntKind.u64.bits s_e7 &&& ~~~ BitVec.ofInt IntKind.u64.bits (IntKind.u64.wrap (1 * 2 ^ (Nat.min ((IntKind.u64.wrap (n2)).tmod 64).toNat IntKind.u64.bits)))).toNat))).a7)]) (by simp) r r r r r hs_o8 r r (congrArg (fun l=>D.agg (l.map Tw)) (Me s1 ((IntKind.i64.wrap (n2.tdiv 64)).toNat) (IntKind.u64.wrap ((BitVec.ofInt IntKind.u64.bits s_e7 &&& ~~~ BitVec.ofInt IntKind.u64.bits (IntKind.u64.wrap (1 * 2 ^ (Nat.min ((IntKind.u64.wrap (n2)).tmod 64).toNat IntKind.u64.bits)))).toNat))).symm) r r<|Ki (by kernel_rfl)<|bM<|NO (b:=(s1.set ((IntKind.i64.wrap (n2.tdiv 64)).toNat) (IntKind.u64.wrap ((BitVec.ofInt IntKind.u64.bits s_e7 &&& ~~~ BitVec.ofInt IntKind.u64.bits (IntKind.u64.wrap (1 * 2 ^ (Nat.min ((IntKind.u64.wrap (n2)).tmod 64).toNat IntKind.u64.bits)))).toNat)))) r ?_ r r ?_ r (by decide)
   all_goals first|(simp;done)|(simp;omega)|rfl|(simp [JU,JQ];done)

def Aeh : Kb:=(.seq (.reg [P 2 (.asg (.c .top) none)] false) (.seq (.reg [P 6 (.bld [(.int .u64 0),(.int .u64 0),(.int .u64 0),(.int .u64 0),(.int .u64 0),(.int .u64 0),(.int .u64 0),(.int .u64 0)] []),P 7 (.box (T 6) 8 122),P 3 (.asg (T 7) none)] false) (.seq (.seq (.reg [M 8 0,P 9 (.len false (T 8)),P 10 (.mv (C 0))] false) (.block 0 (.loop (.seq (.reg [P 11 (.bin .lss (T 10) (T 9))] false) (.seq (.cond (T 11) .skip (.exit 0)) (.seq (.block 1 (.seq (.reg [P 12 (.ixA 1 (T 8) (T 10)),P 13 (.ld 1 false (T 12)),P 5 (.asg (T 13) none)] false) (.reg [M 14 3,M 15 5,P 16 (.call (.c (.clo 103 [])) [(T 14),(T 15),(.c (.bool true))])] false))) (.reg [P 17 (.bin .add (T 10) (C 1)),M 10 17] false))))))) (.seq (.reg [M 18 3,P 2 (.asg (T 18) none)] false) .ret))))
theorem Ahy : (Tryd.f95.body.bind (Kc Tryd.prog Tryd.f95.ntmps)) = some Aeh:=by kernel_rfl
theorem Ahz : Tryd.f95.results.toList.mapM (Kp Tryd.prog) = some [(.t 2)]:=by kernel_rfl
def SL (a : (List Int)) : List D:=[.sl (a.map JK)]
def SK (ds : List D) : (List Int):=(uL uI) (ds.getD 0 .top)
theorem MC (a : (List Int)) : SK (SL a) = a:=by simp [SK,SL,LH (u:=uI) (en:=JK) (fun _=>rfl)]
def XD (b : JM) : D:=Kt b
def XC (_b : JM) : List D:=[]
noncomputable def LI : Dw.Spec:=Ka [] (.ptr 8 122) SL SK (fun a=>Lz a) XD XC
set_option maxHeartbeats 4000000 in
theorem Qz : JX Tryd.prog 95 LI:=by
 refine Kl (Kg (l:=[(103,MW)]) (by simp [TE])) Tryd.func95 (by decide) Ahy Ahz (np:=1) (by decide) MC (fun _=>r) (fun _=>r) (by decide)<|?_
 intro l1
 show TrE (specs [(103,MW)]) Aeh (Kr [] (.ptr 8 122) [(.t 2)] XD XC) ⟨[(0,.sl (l1.map JK))],[],262144⟩ (Lz l1)
 refine Kd<|?_
 unfold Aeh Lz
 refine sQ<|rG<|aS r r<|nI<|xS<|sQ<|rG<|bL (cs:=[.int .u64 0,.int .u64 0,.int .u64 0,.int .u64 0,.int .u64 0,.int .u64 0,.int .u64 0,.int .u64 0]) (ps:=[]) r r r r<|bX r r r r r<|aS r r<|nI<|xS<|sQ<|sQ<|rG<|mV r r<|lS r r<|mV r r<|nI<|xS<|bK<|lP (E:=fun (s : JM × Int) (g : Nat)=>[(3,.optr 7 g 0 0),(8,.sl (l1.map JK)),(9,.int .i64 (l1.length : Int)),(10,.int .i64 s.2)]) (O:=fun s g=>[(7,some (g,⟨false,true,8,122,[.agg [.int .u64 s.1.a0,.int .u64 s.1.a1,.int .u64 s.1.a2,.int .u64 s.1.a3,.int .u64 s.1.a4,.int .u64 s.1.a5,.int .u64 s.1.a6,.int .u64 s.1.a7]]⟩))]) (body:=fun s=>Qy l1 s.1 s.2) (s:=((JM.mk 0 0 0 0 0 0 0 0),0)) _ ((hE ⟨rfl,r,r,r,trivial⟩ ⟨rfl,trivial⟩))<|?_
 rintro ⟨x2,x3⟩ v7x1 nn
 try dsimp only
 unfold Qy
 refine sQ<|rG<|bN (v:=.bool (decide (x3 < (l1.length : Int)))) r r r r r<|nI<|xS<|sQ<|cD (c:=(decide (x3 < (l1.length : Int)))) r ?_ ?_
 ·exact sK<|xS<|sQ<|bK<|sQ<|rG<|bD fun x_x4 hx_x4=>iS (en:=JK) r r r hx_x4 r<|lF (v:=.int .i64 x_x4) r r r r<|aS r r<|nI<|xS<|rG<|mV r r<|mV r r<|bD fun r5 hr5=>cV (x2,x_x4,true) r r r PZ r r (by simp) r hr5<|nI<|bM<|xS<|rG<|bN (v:=.int .i64 (IntKind.i64.wrap (x3 + 1))) r r r r r<|mV r r<|nI<|xL (s:=(r5,IntKind.i64.wrap (x3 + 1))) _ ((hE ⟨rfl,r,r,r,trivial⟩ ⟨rfl,trivial⟩))
 ·refine eT<|xE<|lE<|bH<|xS<|sQ<|rG<|mV r r<|aS r r<|nI<|xS<|rT<|ZA (b:=x2) r ?_ r ?_ r r ?_ r
  all_goals first|(simp;done)|(simp;omega)|rfl|(simp [JU,JQ];done)

def Aej : Kb:=(.seq (.reg [⟨(some 2),(.asg (.c .nils) (some ⟨1,3⟩)),none,[]⟩] false) (.seq (.reg [⟨(some 3),(.asg (.c .nils) (some ⟨1,3⟩)),none,[]⟩] false) (.seq (.seq (.reg [M 6 0,P 7 (.mv (C 0))] false) (.block 0 (.loop (.seq (.reg [P 8 (.bin .lss (T 7) (C 8))] false) (.seq (.cond (T 8) .skip (.exit 0)) (.seq (.block 1 (.seq (.reg [M 9 7,P 10 (.nilck (T 6)),⟨(some 11),(.ixP 1 8 (T 10) (T 7)),none,[1]⟩,⟨(some 12),(.ld 1 false (T 11)),none,[2]⟩,⟨(some 4),(.asg (T 9) none),none,[0,0]⟩,⟨(some 5),(.asg (T 12) none),none,[3,4,0,1,2,3,4]⟩] true) (.block 2 (.loop (.seq (.seq (.reg [M 13 5,P 14 (.bin .neq (T 13) (.c (.int .u64 0)))] false) (.cond (T 14) .skip (.exit 2))) (.seq (.block 3 (.reg [M 19 3,M 20 4,P 21 (.bin .mul (C 64) (T 20)),M 22 5,P 23 (.call (.c (.clo 117 [])) [(T 22)]),P 24 (.bin .add (T 21) (T 23)),⟨(some 25),(.bldS 1 3 (.int .i64 0) 1 [⟨0,(T 24)⟩]),none,[]⟩,P 26 (.app 1 3 8 (T 19) (T 25)),⟨(some 3),(.asg (T 26) (some ⟨1,3⟩)),none,[]⟩] false)) (.reg [M 15 5,M 16 5,P 17 (.bin .sub (T 16) (.c (.int .u64 1))),P 18 (.bin .and (T 15) (T 17)),P 5 (.asg (T 18) none)] false))))))) (.reg [P 27 (.bin .add (T 7) (C 1)),M 7 27] false))))))) (.seq (.reg [M 28 3,⟨(some 2),(.asg (T 28) (some ⟨1,3⟩)),none,[]⟩] false) .ret))))
theorem AhC : (Tryd.f98.body.bind (Kc Tryd.prog Tryd.f98.ntmps)) = some Aej:=by kernel_rfl
theorem AhD : Tryd.f98.results.toList.mapM (Kp Tryd.prog) = some [(.t 2)]:=by kernel_rfl
def Pb (a : JM) : List D:=[Kt a]
def Pa (ds : List D) : JM:=LZ (ds.getD 0 .top)
theorem Mu (a : JM) : Pa (Pb a) = a:=by simp [Pa,Pb]
def TD (b : (List Int) × JM) : D:=.sl (b.1.map JK)
def TC (b : (List Int) × JM) : List D:=[Kt b.2]
noncomputable def KO : Dw.Spec:=Ka [(0,(8,122))] (.row 1 3) Pb Pa (fun a=>KV a) TD TC
set_option maxHeartbeats 4000000 in
theorem NL : JX Tryd.prog 98 KO:=by
 refine Kl (Kg (l:=[(117,Aat)]) (by simp [Afx])) Tryd.func98 (by decide) AhC AhD (np:=1) (by decide) Mu (fun _=>r) (fun _=>r) (by decide)<|?_
 intro s1
 show TrE (specs [(117,Aat)]) Aej (Kr [(0,(8,122))] (.row 1 3) [(.t 2)] TD TC) ⟨[(0,.optr 8192 0 0 0)],[(8192,some (0,⟨false,true,8,122,[.agg [.int .u64 s1.a0,.int .u64 s1.a1,.int .u64 s1.a2,.int .u64 s1.a3,.int .u64 s1.a4,.int .u64 s1.a5,.int .u64 s1.a6,.int .u64 s1.a7]]⟩))],262144⟩ (KV s1)
 refine Kd<|?_
 unfold Aej KV
 refine sQ<|rG<|aN (α:=Int) r JK r<|nI<|xS<|sQ<|rG<|aN (α:=Int) r JK r<|nI<|xS<|sQ<|sQ<|rG<|mV r r<|mV r r<|nI<|xS<|bK<|lP (E:=fun (s : (List Int) × Int) (g : Nat)=>[(3,.osl 3 g 0 s.1.length),(6,.optr 8192 0 0 0),(7,.int .i64 s.2)]) (O:=fun s g=>[(3,some (g,⟨false,false,1,3,s.1.map JK⟩)),(8192,some (0,⟨false,true,8,122,[.agg [.int .u64 s1.a0,.int .u64 s1.a1,.int .u64 s1.a2,.int .u64 s1.a3,.int .u64 s1.a4,.int .u64 s1.a5,.int .u64 s1.a6,.int .u64 s1.a7]]⟩))]) (body:=fun s=>NJ s1 s.1 s.2) (s:=(([] : List Int),0)) _ ((hE ⟨rfl,r,r,trivial⟩ ⟨rfl,r,trivial⟩))<|?_
 rintro ⟨l2,x3⟩ v3x1 nn
 try dsimp only
 unfold NJ
 refine sQ<|rG<|bN (v:=.bool (decide (x3 < 8))) r r r r r<|nI<|xS<|sQ<|cD (c:=(decide (x3 < 8))) r ?_ ?_
 ·refine sK<|xS<|sQ<|bK<|sQ<|rG<|mV r r<|nC r r r<|cK fun hq=>Qp r r r hq<|bD fun s_e4 hs_e4=>QN (q:=s_e4) (l:=s1.toList) (en:=Tw) (j:=x3.toNat) (by simp) r r r hs_e4 r (fun _=>r)<|aS r r<|aS r r<|Ki (by kernel_rfl)<|xS<|bK<|lP (E:=fun (s : (List Int) × Int) (g : Nat)=>[(3,.osl 3 g 0 s.1.length),(4,.int .i64 x3),(5,.int .u64 s.2),(6,.optr 8192 0 0 0),(7,.int .i64 x3)]) (O:=fun s g=>[(3,some (g,⟨false,false,1,3,s.1.map JK⟩)),(8192,some (0,⟨false,true,8,122,[.agg [.int .u64 s1.a0,.int .u64 s1.a1,.int .u64 s1.a2,.int .u64 s1.a3,.int .u64 s1.a4,.int .u64 s1.a5,.int .u64 s1.a6,.int .u64 s1.a7]]⟩))]) (body:=fun s=>NK x3 s.1 s.2) (s:=(l2,s_e4)) _ ((hE ⟨rfl,r,r,r,r,trivial⟩ ⟨rfl,r,trivial⟩))<|?_
  rintro ⟨l5,x6⟩ v3x2 nn
  try dsimp only
  unfold NK
  refine sQ<|sQ<|rG<|mV r r<|bN (v:=.bool (x6 != 0)) r r r r r<|nI<|xS<|cD (c:=(x6 != 0)) r ?_ ?_
  ·exact sK<|xS<|sQ<|bK<|rG<|mV r r<|mV r r<|bN (v:=.int .i64 (IntKind.i64.wrap (64 * x3))) r r r r r<|mV r r<|bD fun r7 hr7=>cG x6 r r r Acd r r (by simp) r hr7 r<|bN (v:=.int .i64 (IntKind.i64.wrap ((IntKind.i64.wrap (64 * x3)) + r7))) r r r r r<|bS ([IntKind.i64.wrap ((IntKind.i64.wrap (64 * x3)) + r7)] : List Int) JK r r r (by simp) r r r<|cK fun hq=>aP (l5) (([IntKind.i64.wrap ((IntKind.i64.wrap (64 * x3)) + r7)] : List Int)) JK r r r r r r r (by simp) (Kn _ _ r) r r (by simp) (JS _ _ r) (fun _=>r) r hq<|aO (l:=l5 ++ ([IntKind.i64.wrap ((IntKind.i64.wrap (64 * x3)) + r7)] : List Int)) (en:=JK) r r r r<|nI<|bM<|xS<|rG<|mV r r<|mV r r<|bN (v:=.int .u64 (IntKind.u64.wrap (x6 - 1))) r r r r r<|bN (v:=.int .u64 (IntKind.u64.wrap ((BitVec.ofInt IntKind.u64.bits x6 &&& BitVec.ofInt IntKind.u64.bits (IntKind.u64.wrap (x6 - 1))).toNat))) r r r r r<|aS r r<|nI<|xL (s:=(l5 ++ ([IntKind.i64.wrap ((IntKind.i64.wrap (64 * x3)) + r7)] : List Int),IntKind.u64.wrap ((BitVec.ofInt IntKind.u64.bits x6 &&& BitVec.ofInt IntKind.u64.bits (IntKind.u64.wrap (x6 - 1))).toNat))) _ ((hE ⟨rfl,r,r,r,r,trivial⟩ ⟨rfl,r,trivial⟩))
  ·exact eT<|xE<|lE<|bH<|bM<|xS<|rG<|bN (v:=.int .i64 (IntKind.i64.wrap (x3 + 1))) r r r r r<|mV r r<|nI<|xL (s:=(l5,IntKind.i64.wrap (x3 + 1))) _ ((hE ⟨rfl,r,r,trivial⟩ ⟨rfl,r,trivial⟩))
 ·refine eT<|xE<|lE<|bH<|xS<|sQ<|rG<|mV r r<|aO (l:=l2) (en:=JK) r r r r<|nI<|xS<|rT<|Ku (b:=(l2,s1)) r ?_ r r ?_ r ?_ (congrArg D.sl (JS _ _ r)) r
  all_goals first|(simp;done)|(simp;omega)|rfl|(simp [JU,JQ];done)

def AdU : Kb:=(.seq (.reg [⟨(some 4),(.asg (.c .nils) (some ⟨1,3⟩)),none,[]⟩] false) (.seq (.reg [M 6 0,P 7 (.call (.c (.clo 95 [])) [(T 6)]),P 5 (.asg (T 7) none)] false) (.seq (.reg [M 8 5,M 9 1,P 10 (.call (.c (.clo 103 [])) [(T 8),(T 9),(.c (.bool false))])] false) (.seq (.reg [M 11 5,P 12 (.call (.c (.clo 98 [])) [(T 11)]),⟨(some 4),(.asg (T 12) (some ⟨1,3⟩)),none,[]⟩] false) .ret))))
theorem AgY : (Tryd.f77.body.bind (Kc Tryd.prog Tryd.f77.ntmps)) = some AdU:=by kernel_rfl
theorem AgZ : Tryd.f77.results.toList.mapM (Kp Tryd.prog) = some [(.t 4)]:=by kernel_rfl
def SJ (a : (List Int) × Int) : List D:=[.sl (a.1.map JK),.int .i64 a.2]
def SI (ds : List D) : (List Int) × Int:=((uL uI) (ds.getD 0 .top),uI (ds.getD 1 .top))
theorem WU (a : (List Int) × Int) : SI (SJ a) = a:=by simp [SI,SJ,uI,LH (u:=uI) (en:=JK) (fun _=>rfl)]
def TU (b : (List Int)) : D:=.sl (b.map JK)
def XA (_b : (List Int)) : List D:=[]
noncomputable def TV : Dw.Spec:=Ka [] .val SJ SI (fun a=>Oq a.1 a.2) TU XA
set_option maxHeartbeats 4000000 in
theorem Aab : JX Tryd.prog 77 TV:=by
 refine Kl (Kg (l:=[(95,LI),(103,MW),(98,KO)]) (by simp [Qz,TE,NL])) Tryd.func77 (by decide) AgY AgZ (np:=2) (by decide) WU (fun _=>r) (fun _=>r) (by decide)<|?_
 rintro ⟨s1,n2⟩
 show TrE (specs [(95,LI),(103,MW),(98,KO)]) AdU (Kr [] .val [(.t 4)] TU XA) ⟨[(0,.sl (s1.map JK)),(1,.int .i64 n2)],[],262144⟩ (Oq s1 n2)
 refine Kd<|?_
 unfold AdU Oq
 refine sQ<|rG<|aN (α:=Int) r JK r<|nI<|xS<|sQ<|rG<|mV r r<|bD fun r3 hr3=>cP s1 r r r MC r r (by simp) r hr3<|aS r r<|nI<|xS<|sQ<|rG<|mV r r<|mV r r<|bD fun r4 hr4=>cV (r3,n2,false) r r r PZ r r (by simp) r hr4<|nI<|xS<|sQ<|rG<|mV r r<|bD fun r5 hr5=>cR (l:=r5.1) (en:=JK) r4 r r r Mu r r (by simp) r hr5 r<|aO (l:=r5.1) (en:=JK) r r r r<|nI<|xS<|rT<|KC (b:=r5.1) r ?_ r r ?_ (by first | rfl | (simp only [Kh,Km]; rfl) | simp [TU])
 all_goals first|(simp;done)|(simp;omega)|rfl|(simp [JU,JQ];done)

def Ack : Kb:=(.seq (.reg [P 1 (.box (T 0) 5 66),⟨(some 2),(.asg (.c .nils) (some ⟨1,3⟩)),none,[]⟩] false) (.seq (.seq (.reg [P 3 (.fldA 0 (T 1)),P 4 (.ld 1 false (T 3))] false) (.block 0 (.seq (.seq (.reg [P 6 (.bin .eql (T 4) (C 15)),P 5 (.asg (T 6) none)] false) (.cond (T 5) .skip (.reg [P 7 (.bin .eql (T 4) (C 17)),P 5 (.asg (T 7) none)] false))) (.cond (T 5) (.seq (.reg [P 8 (.fldA 2 (T 1)),P 9 (.ld 1 false (T 8)),⟨(some 10),(.bldS 1 3 (.int .i64 0) 1 [⟨0,(T 9)⟩]),none,[]⟩,⟨(some 2),(.asg (T 10) (some ⟨1,3⟩)),none,[]⟩] false) .ret) .skip)))) (.seq (.reg [⟨(some 2),(.asg (.c .nils) (some ⟨1,3⟩)),none,[]⟩] false) .ret)))
theorem AeN : (Tryd.f102.body.bind (Kc Tryd.prog Tryd.f102.ntmps)) = some Ack:=by kernel_rfl
theorem AeO : Tryd.f102.results.toList.mapM (Kp Tryd.prog) = some [(.t 2)]:=by kernel_rfl
def Ue (a : JL) : List D:=[JN a]
def Ud (ds : List D) : JL:=Qs (ds.getD 0 .top)
theorem UN (a : JL) : Ud (Ue a) = a:=by simp [Ud,Ue]
def YG (b : (List Int)) : D:=.sl (b.map JK)
def YF (_b : (List Int)) : List D:=[]
noncomputable def VJ : Dw.Spec:=Ka [] (.row 1 3) Ue Ud (fun a=>PK a) YG YF
set_option maxHeartbeats 4000000 in
theorem Aay : JX Tryd.prog 102 VJ:=by
 refine Kl (KM) Tryd.func102 (by decide) AeN AeO (np:=1) (by decide) UN (fun _=>r) (fun _=>r) (by decide)<|?_
 intro x1
 show TrE (specs []) Ack (Kr [] (.row 1 3) [(.t 2)] YG YF) ⟨[(0,.agg [.int .i64 x1.Op,.int .i64 x1.A,.int .i64 x1.B,.int .i64 x1.C,.int .u64 x1.Imm])],[],262144⟩ (PK x1)
 refine Kd<|?_
 unfold Ack PK
 refine sQ<|rG<|bX r r r r r<|aN (α:=Int) r JK r<|nI<|xS<|sQ<|sQ<|rG<|fA r r<|lO (v:=.int .i64 x1.Op) (z:=.agg [.int .i64 x1.Op,.int .i64 x1.A,.int .i64 x1.B,.int .i64 x1.C,.int .u64 x1.Imm]) r r r r r r<|nI<|xS<|bK<|sQ<|sQ<|rG<|bN (v:=.bool (x1.Op == 15)) r r r r r<|aS r r<|nI<|xS<|cD (c:=(x1.Op == 15)) r ?_ ?_
 ·refine sK<|xS<|cD (c:=(x1.Op == 15)) r ?_ ?_
  ·refine sQ<|rG<|fA r r<|lO (v:=.int .i64 x1.B) (z:=.agg [.int .i64 x1.Op,.int .i64 x1.A,.int .i64 x1.B,.int .i64 x1.C,.int .u64 x1.Imm]) r r r r r r<|bS ([x1.B] : List Int) JK r r r (by simp) r r r<|aO (l:=([x1.B] : List Int)) (en:=JK) r r r r<|nI<|xS<|rT<|bR<|xR<|Ku (b:=([x1.B] : List Int)) r ?_ r r ?_ r ?_ (congrArg D.sl (JS _ _ r)) r
   all_goals first|(simp;done)|(simp;omega)|rfl|(simp [JU,JQ];done)
  ·refine sK<|bM<|xS<|sQ<|rG<|aN (α:=Int) r JK r<|nI<|xS<|rT<|Ku (b:=([] : List Int)) r ?_ r r ?_ r ?_ (congrArg D.sl (JS _ _ r)) r
   all_goals first|(simp;done)|(simp;omega)|rfl|(simp [JU,JQ];done)
 ·refine rG<|bN (v:=.bool (x1.Op == 17)) r r r r r<|aS r r<|nI<|xS<|cD (c:=(x1.Op == 17)) r ?_ ?_
  ·refine sQ<|rG<|fA r r<|lO (v:=.int .i64 x1.B) (z:=.agg [.int .i64 x1.Op,.int .i64 x1.A,.int .i64 x1.B,.int .i64 x1.C,.int .u64 x1.Imm]) r r r r r r<|bS ([x1.B] : List Int) JK r r r (by simp) r r r<|aO (l:=([x1.B] : List Int)) (en:=JK) r r r r<|nI<|xS<|rT<|bR<|xR<|Ku (b:=([x1.B] : List Int)) r ?_ r r ?_ r ?_ (congrArg D.sl (JS _ _ r)) r
   all_goals first|(simp;done)|(simp;omega)|rfl|(simp [JU,JQ];done)
  ·refine sK<|bM<|xS<|sQ<|rG<|aN (α:=Int) r JK r<|nI<|xS<|rT<|Ku (b:=([] : List Int)) r ?_ r r ?_ r ?_ (congrArg D.sl (JS _ _ r)) r
   all_goals first|(simp;done)|(simp;omega)|rfl|(simp [JU,JQ];done)

def Acj : Kb:=(.seq (.reg [⟨(some 2),(.asg (.c .nils) (some ⟨1,3⟩)),none,[]⟩] false) (.seq (.reg [M 3 0,P 4 (.call (.c (.clo 95 [])) [(T 3)]),P 5 (.call (.c (.clo 98 [])) [(T 4)]),⟨(some 2),(.asg (T 5) (some ⟨1,3⟩)),none,[]⟩] false) .ret))
theorem AeL : (Tryd.f101.body.bind (Kc Tryd.prog Tryd.f101.ntmps)) = some Acj:=by kernel_rfl
theorem AeM : Tryd.f101.results.toList.mapM (Kp Tryd.prog) = some [(.t 2)]:=by kernel_rfl
def QS (a : (List Int)) : List D:=[.sl (a.map JK)]
def VG (ds : List D) : (List Int):=(uL uI) (ds.getD 0 .top)
theorem WT (a : (List Int)) : VG (QS a) = a:=by simp [VG,QS,LH (u:=uI) (en:=JK) (fun _=>rfl)]
def ZK (b : (List Int)) : D:=.sl (b.map JK)
def ZJ (_b : (List Int)) : List D:=[]
noncomputable def XM : Dw.Spec:=Ka [] (.row 1 3) QS VG (fun a=>Qt a) ZK ZJ
set_option maxHeartbeats 4000000 in
theorem Abj : JX Tryd.prog 101 XM:=by
 refine Kl (Kg (l:=[(95,LI),(98,KO)]) (by simp [Qz,NL])) Tryd.func101 (by decide) AeL AeM (np:=1) (by decide) WT (fun _=>r) (fun _=>r) (by decide)<|?_
 intro l1
 show TrE (specs [(95,LI),(98,KO)]) Acj (Kr [] (.row 1 3) [(.t 2)] ZK ZJ) ⟨[(0,.sl (l1.map JK))],[],262144⟩ (Qt l1)
 refine Kd<|?_
 unfold Acj Qt
 refine sQ<|rG<|aN (α:=Int) r JK r<|nI<|xS<|sQ<|rG<|mV r r<|bD fun r2 hr2=>cP l1 r r r MC r r (by simp) r hr2<|bD fun r3 hr3=>cR (l:=r3.1) (en:=JK) r2 r r r Mu r r (by simp) r hr3 r<|aO (l:=r3.1) (en:=JK) r r r r<|nI<|xS<|rT<|Ku (b:=r3.1) r ?_ r r ?_ r ?_ (congrArg D.sl (JS _ _ r)) r
 all_goals first|(simp;done)|(simp;omega)|rfl|(simp [JU,JQ];done)

def Aei : Kb:=(.seq (.reg [P 4 (.asg (.c (.int .u64 0)) none)] false) (.seq (.reg [M 5 0,M 6 1,P 7 (.bin .or (T 5) (T 6)),P 4 (.asg (T 7) none)] false) .ret))
theorem AhA : (Tryd.f97.body.bind (Kc Tryd.prog Tryd.f97.ntmps)) = some Aei:=by kernel_rfl
theorem AhB : Tryd.f97.results.toList.mapM (Kp Tryd.prog) = some [(.t 4)]:=by kernel_rfl
def RT (a : Int × Int) : List D:=[.int .u64 a.1,.int .u64 a.2]
def RS (ds : List D) : Int × Int:=(uI (ds.getD 0 .top),uI (ds.getD 1 .top))
theorem VU (a : Int × Int) : RS (RT a) = a:=by simp [RS,RT,uI]
def WX (b : Int) : D:=.int .u64 b
def WV (_b : Int) : List D:=[]
noncomputable def Tt : Dw.Spec:=Ka [] .ground RT RS (fun a=>OJ a.1 a.2) WX WV
set_option maxHeartbeats 4000000 in
theorem ZF : JX Tryd.prog 97 Tt:=by
 refine Kl (KM) Tryd.func97 (by decide) AhA AhB (np:=2) (by decide) VU (fun _=>r) (fun _=>r) (by decide)<|?_
 rintro ⟨x1,y2⟩
 show TrE (specs []) Aei (Kr [] .ground [(.t 4)] WX WV) ⟨[(0,.int .u64 x1),(1,.int .u64 y2)],[],262144⟩ (OJ x1 y2)
 refine Kd<|?_
 unfold Aei OJ
 refine sQ<|rG<|aS r r<|nI<|xS<|sQ<|rG<|mV r r<|mV r r<|bN (v:=.int .u64 (IntKind.u64.wrap ((BitVec.ofInt IntKind.u64.bits x1 ||| BitVec.ofInt IntKind.u64.bits y2).toNat))) r r r r r<|aS r r<|nI<|xS<|rT<|JZ (b:=IntKind.u64.wrap ((BitVec.ofInt IntKind.u64.bits x1 ||| BitVec.ofInt IntKind.u64.bits y2).toNat)) r ?_ r r ?_ r
 all_goals first|(simp;done)|(simp;omega)|rfl|(simp [JU,JQ];done)

def Abq : Kb:=(.seq (.reg [P 6 (.asg (.c .top) none)] false) (.seq (.reg [P 9 (.bld [(.int .u64 0),(.int .u64 0),(.int .u64 0),(.int .u64 0),(.int .u64 0),(.int .u64 0),(.int .u64 0),(.int .u64 0)] []),P 10 (.box (T 9) 8 122),P 7 (.asg (T 10) none)] false) (.seq (.seq (.reg [P 11 (.mv (C 0))] false) (.block 0 (.loop (.seq (.reg [P 12 (.bin .lss (T 11) (C 8))] false) (.seq (.cond (T 12) .skip (.exit 0)) (.seq (.block 1 (.seq (.reg [M 13 11,P 8 (.asg (T 13) none)] false) (.reg [M 14 7,M 15 8,M 16 2,M 17 0,M 18 8,⟨(some 19),(.nilck (T 17)),none,[3]⟩,⟨(some 20),(.ixP 1 8 (T 19) (T 18)),none,[5,4]⟩,⟨(some 21),(.ld 1 false (T 20)),none,[6]⟩,M 22 1,M 23 8,⟨(some 24),(.nilck (T 22)),none,[8]⟩,⟨(some 25),(.ixP 1 8 (T 24) (T 23)),none,[10,9]⟩,⟨(some 26),(.ld 1 false (T 25)),none,[11]⟩,⟨(some 27),(.call (T 16) [(T 21),(T 26)]),none,[2,7,12]⟩,⟨(some 28),(.nilck (T 14)),none,[0]⟩,⟨(some 29),(.ixP 1 8 (T 28) (T 15)),none,[14,1,0,1,2,3,4,5,6,7,8,9,10,11,12,13]⟩,⟨none,(.st 1 (T 29) (T 27)),none,[15,13,13,0,1,2,3,4,5,6,7,8,9,10,11,12,13]⟩] true))) (.reg [P 30 (.bin .add (T 11) (C 1)),M 11 30] false))))))) (.seq (.reg [M 31 7,P 6 (.asg (T 31) none)] false) .ret))))
theorem AcO : (Tryd.f96.body.bind (Kc Tryd.prog Tryd.f96.ntmps)) = some Abq:=by kernel_rfl
theorem AcP : Tryd.f96.results.toList.mapM (Kp Tryd.prog) = some [(.t 6)]:=by kernel_rfl
def MT (a : JM × JM) : List D:=[Kt a.1,Kt a.2,.clo 97 []]
def MS (ds : List D) : JM × JM:=(LZ (ds.getD 0 .top),LZ (ds.getD 1 .top))
theorem Pr (a : JM × JM) : MS (MT a) = a:=by simp [MS,MT]
def PT (b : JM × JM × JM) : D:=Kt b.1
def PS (b : JM × JM × JM) : List D:=[Kt b.2.1,Kt b.2.2]
noncomputable def LR : Dw.Spec:=Ka [(0,(8,122)),(1,(8,122))] (.ptr 8 122) MT MS (fun a=>Le a.1 a.2) PT PS
set_option maxHeartbeats 4000000 in
theorem TZ : JX Tryd.prog 96 LR:=by
 refine Kl (Kg (l:=[(97,Tt)]) (by simp [ZF])) Tryd.func96 (by decide) AcO AcP (np:=3) (by decide) Pr (fun _=>r) (fun _=>r) (by decide)<|?_
 rintro ⟨s1,t2⟩
 show TrE (specs [(97,Tt)]) Abq (Kr [(0,(8,122)),(1,(8,122))] (.ptr 8 122) [(.t 6)] PT PS) ⟨[(0,.optr 8192 0 0 0),(1,.optr 8193 1 0 0),(2,.clo 97 [])],[(8192,some (0,⟨false,true,8,122,[.agg [.int .u64 s1.a0,.int .u64 s1.a1,.int .u64 s1.a2,.int .u64 s1.a3,.int .u64 s1.a4,.int .u64 s1.a5,.int .u64 s1.a6,.int .u64 s1.a7]]⟩)),(8193,some (1,⟨false,true,8,122,[.agg [.int .u64 t2.a0,.int .u64 t2.a1,.int .u64 t2.a2,.int .u64 t2.a3,.int .u64 t2.a4,.int .u64 t2.a5,.int .u64 t2.a6,.int .u64 t2.a7]]⟩))],262144⟩ (Le s1 t2)
 refine Kd<|?_
 unfold Abq Le
 refine sQ<|rG<|aS r r<|nI<|xS<|sQ<|rG<|bL (cs:=[.int .u64 0,.int .u64 0,.int .u64 0,.int .u64 0,.int .u64 0,.int .u64 0,.int .u64 0,.int .u64 0]) (ps:=[]) r r r r<|bX r r r r r<|aS r r<|nI<|xS<|sQ<|sQ<|rG<|mV r r<|nI<|xS<|bK<|lP (E:=fun (s : JM × Int) (g : Nat)=>[(0,.optr 8192 0 0 0),(1,.optr 8193 1 0 0),(2,.clo 97 []),(7,.optr 10 g 0 0),(11,.int .i64 s.2)]) (O:=fun s g=>[(10,some (g,⟨false,true,8,122,[.agg [.int .u64 s.1.a0,.int .u64 s.1.a1,.int .u64 s.1.a2,.int .u64 s.1.a3,.int .u64 s.1.a4,.int .u64 s.1.a5,.int .u64 s.1.a6,.int .u64 s.1.a7]]⟩)),(8192,some (0,⟨false,true,8,122,[.agg [.int .u64 s1.a0,.int .u64 s1.a1,.int .u64 s1.a2,.int .u64 s1.a3,.int .u64 s1.a4,.int .u64 s1.a5,.int .u64 s1.a6,.int .u64 s1.a7]]⟩)),(8193,some (1,⟨false,true,8,122,[.agg [.int .u64 t2.a0,.int .u64 t2.a1,.int .u64 t2.a2,.int .u64 t2.a3,.int .u64 t2.a4,.int .u64 t2.a5,.int .u64 t2.a6,.int .u64 t2.a7]]⟩))]) (body:=fun s=>Lm s1 t2 s.1 s.2) (s:=((JM.mk 0 0 0 0 0 0 0 0),0)) _ ((hE ⟨rfl,r,r,r,r,trivial⟩ ⟨rfl,r,r,trivial⟩))<|?_
 rintro ⟨x3,x4⟩ v10x1 nn
 try dsimp only
 unfold Lm
 refine sQ<|rG<|bN (v:=.bool (decide (x4 < 8))) r r r r r<|nI<|xS<|sQ<|cD (c:=(decide (x4 < 8))) r ?_ ?_
 ·exact sK<|xS<|sQ<|bK<|sQ<|rG<|mV r r<|aS r r<|nI<|xS<|rG<|mV r r<|mV r r<|mV r r<|mV r r<|mV r r<|nC r r r<|cK fun hq=>Qp r r r hq<|bD fun s_e5 hs_e5=>QN (q:=s_e5) (l:=s1.toList) (en:=Tw) (j:=x4.toNat) (by simp) r r r hs_e5 r (fun _=>r)<|mV r r<|mV r r<|nC r r r<|cK fun hq=>Qp r r r hq<|bD fun t_e6 ht_e6=>QN (q:=t_e6) (l:=t2.toList) (en:=Tw) (j:=x4.toNat) (by simp) r r r ht_e6 r (fun _=>r)<|bD fun r7 hr7=>cG (s_e5,t_e6) r r r VU r r (by simp) r hr7 r<|nC r r r<|cK fun hq=>Qp r r r hq<|bD fun x_o8 hx_o8=>Aas (q:=x_o8) (q':=r7) (l:=x3.toList) (en:=Tw) (j:=x4.toNat) (z':=.agg [.int .u64 ((x3.set x4.toNat r7).a0),.int .u64 ((x3.set x4.toNat r7).a1),.int .u64 ((x3.set x4.toNat r7).a2),.int .u64 ((x3.set x4.toNat r7).a3),.int .u64 ((x3.set x4.toNat r7).a4),.int .u64 ((x3.set x4.toNat r7).a5),.int .u64 ((x3.set x4.toNat r7).a6),.int .u64 ((x3.set x4.toNat r7).a7)]) (by simp) r r r r r hx_o8 r r (congrArg (fun l=>D.agg (l.map Tw)) (Me x3 x4.toNat r7).symm)<|Ki (by kernel_rfl)<|bM<|xS<|rG<|bN (v:=.int .i64 (IntKind.i64.wrap (x4 + 1))) r r r r r<|mV r r<|nI<|xL (s:=((x3.set x4.toNat r7),IntKind.i64.wrap (x4 + 1))) _ ((hE ⟨rfl,r,r,r,r,trivial⟩ ⟨rfl,r,r,trivial⟩))
 ·refine eT<|xE<|lE<|bH<|xS<|sQ<|rG<|mV r r<|aS r r<|nI<|xS<|rT<|ZA (b:=(x3,s1,t2)) r ?_ r ?_ r r ?_ r
  all_goals first|(simp;done)|(simp;omega)|rfl|(simp [JU,JQ];done)

def AdO : Kb:=(.seq (.reg [⟨(some 4),(.asg (.c .nils) (some ⟨1,3⟩)),none,[]⟩] false) (.seq (.reg [M 5 0,P 6 (.call (.c (.clo 95 [])) [(T 5)]),M 7 1,P 8 (.call (.c (.clo 95 [])) [(T 7)]),P 9 (.call (.c (.clo 96 [])) [(T 6),(T 8),(.c (.clo 97 []))]),P 10 (.call (.c (.clo 98 [])) [(T 9)]),⟨(some 4),(.asg (T 10) (some ⟨1,3⟩)),none,[]⟩] false) .ret))
theorem AgM : (Tryd.f69.body.bind (Kc Tryd.prog Tryd.f69.ntmps)) = some AdO:=by kernel_rfl
theorem AgN : Tryd.f69.results.toList.mapM (Kp Tryd.prog) = some [(.t 4)]:=by kernel_rfl
def OO (a : (List Int) × (List Int)) : List D:=[.sl (a.1.map JK),.sl (a.2.map JK)]
def Tu (ds : List D) : (List Int) × (List Int):=((uL uI) (ds.getD 0 .top),(uL uI) (ds.getD 1 .top))
theorem RK (a : (List Int) × (List Int)) : Tu (OO a) = a:=by simp [Tu,OO,LH (u:=uI) (en:=JK) (fun _=>rfl)]
def UK (b : (List Int)) : D:=.sl (b.map JK)
def Ya (_b : (List Int)) : List D:=[]
noncomputable def PY : Dw.Spec:=Ka [] .val OO Tu (fun a=>MV a.1 a.2) UK Ya
set_option maxHeartbeats 4000000 in
theorem XB : JX Tryd.prog 69 PY:=by
 refine Kl (Kg (l:=[(95,LI),(401504,LR),(98,KO)]) (by simp [Qz,TZ,NL])) Tryd.func69 (by decide) AgM AgN (np:=2) (by decide) RK (fun _=>r) (fun _=>r) (by decide)<|?_
 rintro ⟨a1,b2⟩
 show TrE (specs [(95,LI),(401504,LR),(98,KO)]) AdO (Kr [] .val [(.t 4)] UK Ya) ⟨[(0,.sl (a1.map JK)),(1,.sl (b2.map JK))],[],262144⟩ (MV a1 b2)
 refine Kd<|?_
 unfold AdO MV
 refine sQ<|rG<|aN (α:=Int) r JK r<|nI<|xS<|sQ<|rG<|mV r r<|bD fun r3 hr3=>cP a1 r r r MC r r (by simp) r hr3<|mV r r<|bD fun r4 hr4=>cP b2 r r r MC r r (by simp) rfl hr4<|bD fun r5 hr5=>cP (r3,r4) rfl rfl (show _ = some LR from by kernel_rfl) Pr rfl rfl (by simp) r hr5<|bD fun r6 hr6=>cR (l:=r6.1) (en:=JK) r5.1 r r r Mu r r (by simp) r hr6 r<|aO (l:=r6.1) (en:=JK) r r r r<|nI<|xS<|rT<|KC (b:=r6.1) r ?_ r r ?_ (by first | rfl | (simp only [Kh,Km]; rfl) | simp [UK])
 all_goals first|(simp;done)|(simp;omega)|rfl|(simp [JU,JQ];done)

def AdS : Kb:=(.seq (.reg [P 2 (.box (T 0) 5 66),⟨(some 4),(.asg (.c .nils) (some ⟨1,3⟩)),none,[]⟩] false) (.seq (.seq (.reg [P 8 (.ld 5 true (T 2)),P 9 (.call (.c (.clo 100 [])) [(T 8)]),M 7 9,P 10 (.ext (T 7) 0),P 11 (.ext (T 7) 1),P 5 (.asg (T 10) none),P 6 (.asg (T 11) none)] false) (.seq (.reg [M 12 6] false) (.cond (T 12) (.reg [M 13 1,M 14 5,P 15 (.call (.c (.clo 77 [])) [(T 13),(T 14)]),⟨(some 1),(.asg (T 15) (some ⟨1,3⟩)),none,[]⟩] false) .skip))) (.seq (.reg [M 16 1,P 17 (.ld 5 true (T 2)),P 18 (.call (.c (.clo 102 [])) [(T 17)]),P 19 (.call (.c (.clo 101 [])) [(T 18)]),P 20 (.call (.c (.clo 69 [])) [(T 16),(T 19)]),⟨(some 4),(.asg (T 20) (some ⟨1,3⟩)),none,[]⟩] false) .ret)))
theorem AgU : (Tryd.f74.body.bind (Kc Tryd.prog Tryd.f74.ntmps)) = some AdS:=by kernel_rfl
theorem AgV : Tryd.f74.results.toList.mapM (Kp Tryd.prog) = some [(.t 4)]:=by kernel_rfl
def VI (a : JL × (List Int)) : List D:=[JN a.1,.sl (a.2.map JK)]
def VH (ds : List D) : JL × (List Int):=(Qs (ds.getD 0 .top),(uL uI) (ds.getD 1 .top))
theorem Ze (a : JL × (List Int)) : VH (VI a) = a:=by simp [VH,VI,LH (u:=uI) (en:=JK) (fun _=>rfl)]
def ZP (b : (List Int)) : D:=.sl (b.map JK)
def ZO (_b : (List Int)) : List D:=[]
noncomputable def XQ : Dw.Spec:=Ka [] .val VI VH (fun a=>TI a.1 a.2) ZP ZO
set_option maxHeartbeats 4000000 in
theorem Abs : JX Tryd.prog 74 XQ:=by
 refine Kl (Kg (l:=[(100,MD),(77,TV),(102,VJ),(101,XM),(69,PY)]) (by simp [SS,Aab,Aay,Abj,XB])) Tryd.func74 (by decide) AgU AgV (np:=2) (by decide) Ze (fun _=>r) (fun _=>r) (by decide)<|?_
 rintro ⟨x1,out2⟩
 show TrE (specs [(100,MD),(77,TV),(102,VJ),(101,XM),(69,PY)]) AdS (Kr [] .val [(.t 4)] ZP ZO) ⟨[(0,.agg [.int .i64 x1.Op,.int .i64 x1.A,.int .i64 x1.B,.int .i64 x1.C,.int .u64 x1.Imm]),(1,.sl (out2.map JK))],[],262144⟩ (TI x1 out2)
 refine Kd<|?_
 unfold AdS TI
 refine sQ<|rG<|bX r r r r r<|aN (α:=Int) r JK r<|nI<|xS<|sQ<|sQ<|rG<|lO (v:=.agg [.int .i64 x1.Op,.int .i64 x1.A,.int .i64 x1.B,.int .i64 x1.C,.int .u64 x1.Imm]) (z:=.agg [.int .i64 x1.Op,.int .i64 x1.A,.int .i64 x1.B,.int .i64 x1.C,.int .u64 x1.Imm]) r r r r r r<|bD fun r3 hr3=>cG x1 r r r PW r r (by simp) r hr3 r<|mV r r<|eX (v:=.int .i64 r3.1) r r r<|eX (v:=.bool r3.2) r r r<|aS r r<|aS r r<|nI<|xS<|sQ<|rG<|mV r r<|nI<|xS<|cD (c:=r3.2) r ?_ ?_
 ·refine rG<|mV r r<|mV r r<|bD fun r4 hr4=>cV (out2,r3.1) r r r WU r r (by simp) r hr4<|aL r r<|nI<|xS<|sQ<|rG<|mV r r<|lO (v:=.agg [.int .i64 x1.Op,.int .i64 x1.A,.int .i64 x1.B,.int .i64 x1.C,.int .u64 x1.Imm]) (z:=.agg [.int .i64 x1.Op,.int .i64 x1.A,.int .i64 x1.B,.int .i64 x1.C,.int .u64 x1.Imm]) r r r r r r<|bD fun r5 hr5=>cR (l:=r5) (en:=JK) x1 r r r UN r r (by simp) r hr5 r<|bD fun r6 hr6=>cR (l:=r6) (en:=JK) r5 r r r WT r r (by simp) (by first | rfl | (simp only [Kh,Km]; rfl) | simp [QS]) hr6 r<|bD fun r7 hr7=>cV (r4,r6) r r r RK r r (by simp) (by first | rfl | (simp only [Kh,Km]; rfl) | simp [OO]) hr7<|aL r r<|nI<|xS<|rT<|KC (b:=r7) r ?_ r r ?_ r
  all_goals first|(simp;done)|(simp;omega)|rfl|(simp [JU,JQ];done)
 ·refine sK<|xS<|sQ<|rG<|mV r r<|lO (v:=.agg [.int .i64 x1.Op,.int .i64 x1.A,.int .i64 x1.B,.int .i64 x1.C,.int .u64 x1.Imm]) (z:=.agg [.int .i64 x1.Op,.int .i64 x1.A,.int .i64 x1.B,.int .i64 x1.C,.int .u64 x1.Imm]) r r r r r r<|bD fun r8 hr8=>cR (l:=r8) (en:=JK) x1 r r r UN r r (by simp) r hr8 r<|bD fun r9 hr9=>cR (l:=r9) (en:=JK) r8 r r r WT r r (by simp) (by first | rfl | (simp only [Kh,Km]; rfl) | simp [QS]) hr9 r<|bD fun r10 hr10=>cV (out2,r9) r r r RK r r (by simp) (by first | rfl | (simp only [Kh,Km]; rfl) | simp [OO]) hr10<|aL r r<|nI<|xS<|rT<|KC (b:=r10) r ?_ r r ?_ r
  all_goals first|(simp;done)|(simp;omega)|rfl|(simp [JU,JQ];done)

end Go.Proofs.YtcelninhkmhjkaaDoor
