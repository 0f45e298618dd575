/-
  Programs on typed data, and the proofs that the code does what they say; written by a program (dx.py).
-/
import Derived.Test.YtcelninhkmhjkaaDoorProg
import Derived.Test.YtcelninhkmhjkaaDoorDc
import Derived.KernelRfl
import Derived.Test.YtcelninhkmhjkaaDoorDxP
import Derived.Test.YtcelninhkmhjkaaDoorDxF2
import Derived.Test.YtcelninhkmhjkaaDoorDxF4
namespace Go.Proofs.YtcelninhkmhjkaaDoor
open Go Go.Dw Go.Proofs
set_option maxRecDepth 100000
open Go.Dw renaming Ym → mV,VP → bN,PJ → lO,TU → bD,VS → cK,VU → nI,VX → xS,Yo → rG,Yq → sQ,Ru → aO,VO → aS,VV → oF,VQ → bS,OZ → cV,Nj → cG,Qz → cR,Zu → aP,PK → sV,SP → iS,Rv → iO,QY → lS,Rx → lW,TV → fA,Zv → eX,TW → lF,SE → sP,OA → pT,NL → pF,Yn → uN,VT → nW,VR → bX,Rt → aN,XE → aL,JG → mS,VY → cD,TY → bK,Yp → rT,Wc → sK,VZ → eT,VW → xC,TX → xL,PY → xR,SF → lR,So → hE,OB → lE,Pa → bH,NM → bM,PX → bR,Pb → xE,Wa → lP,QZ → sC,Adx → mF,rf → r
def Afm : Ka:=(.seq (.reg [P 4 (.box (T 0) 3 27),P 8 (.asg (.c (.bool false)) none)] false) (.seq (.seq (.reg [P 11 (.ld 3 true (T 4)),M 12 1,P 13 (.call (.c (.clo 88 [])) [(T 11),(T 12)]),P 14 (.len false (T 13)),P 15 (.mv (C 0))] false) (.block 0 (.loop (.seq (.reg [P 16 (.bin .lss (T 15) (T 14))] false) (.seq (.cond (T 16) .skip (.exit 0)) (.seq (.block 1 (.seq (.reg [P 17 (.ixA 1 (T 13) (T 15)),P 18 (.ld 1 false (T 17)),P 10 (.asg (T 18) none)] false) (.seq (.reg [M 19 3,P 20 (.fldA 2 (T 4)),⟨(some 21),(.ld 1 false (T 20)),none,[1]⟩,M 22 10,⟨(some 23),(.ixA 5 (T 21) (T 22)),none,[2,3]⟩,⟨(some 24),(.ld 5 true (T 23)),none,[4]⟩,M 25 2,M 26 10,⟨(some 27),(.call (T 25) [(T 26)]),none,[6,7]⟩,⟨(some 28),(.call (.c (.clo 74 [])) [(T 24),(T 27)]),none,[5,8,8]⟩,⟨(some 29),(.call (T 19) [(T 28)]),none,[0,9,9]⟩,⟨(some 30),(.un .not (T 29)),none,[10]⟩] true) (.cond (T 30) (.seq (.reg [P 8 (.asg (.c (.bool false)) none)] false) .ret) .skip)))) (.reg [P 31 (.bin .add (T 15) (C 1)),M 15 31] false))))))) (.seq (.reg [P 8 (.asg (.c (.bool true)) none)] false) .ret)))
theorem Aio : (Tryd.f66.body.bind (Kb Tryd.prog Tryd.f66.ntmps)) = some Afm:=by kernel_rfl
theorem Aip : Tryd.f66.results.toList.mapM (Kn Tryd.prog) = some [(.t 8)]:=by kernel_rfl
def Lc (a : JO × Int × JR × (List Int) × JR × Int) : List D:=[Kv a.1,.int .i64 a.2.1,.clo 94 [.fptr (KJ a.2.2.1) 0],.clo 68 [.sl (a.2.2.2.1.map JJ),.fptr (KJ a.2.2.2.2.1) 0,.fptr (.int .i64 a.2.2.2.2.2) 0]]
def LN (ds : List D) : JO × Int × JR × (List Int) × JR × Int:=(LA (ds.getD 0 .top),uI (ds.getD 1 .top),MA (fpD (Zz (ds.getD 2 .top) 0)),(uL uI) (Zz (ds.getD 3 .top) 0),MA (fpD (Zz (ds.getD 3 .top) 1)),uI (fpD (Zz (ds.getD 3 .top) 2)))
theorem NX (a : JO × Int × JR × (List Int) × JR × Int) : LN (Lc a) = a:=by simp [LN,Lc,uI,fpD,Zz,Lw (u:=uI) (en:=JJ) (fun _=>rfl)]
def Om (b : Bool × (List Int)) : D:=.bool b.1
def Ol (b : Bool × (List Int)) : List D:=[.sl (b.2.map JJ)]
noncomputable def Ln : Dw.Spec:=JZ [(256,(1,36))] .val Lc LN (fun a=>KE a.1 a.2.1 a.2.2.1 a.2.2.2.1 a.2.2.2.2.1 a.2.2.2.2.2) Om Ol
set_option maxHeartbeats 4000000 in
theorem Ss : JY Tryd.prog 66 Ln:=by
 refine Ki (Ke (l:=[(88,YQ),(94,Qr),(74,YP),(68,NW)]) (by simp [AcN,YS,AcM,Vw])) Tryd.func66 (by decide) Aio Aip (np:=4) (by decide) NX (fun _=>r) (fun _=>r) (by decide)<|?_
 rintro ⟨f1,k2,set3,visit4,visit5,visit6⟩
 show TrE (specs [(88,YQ),(94,Qr),(74,YP),(68,NW)]) Afm (Kp [(256,(1,36))] .val [(.t 8)] Om Ol) ⟨[(0,.agg [.int .i64 f1.Params,.sl (f1.Slots.map JP),.sl (f1.Code.map JM)]),(1,.int .i64 k2),(2,.clo 94 [.fptr (.agg [.sl (set3.Out.map (eL JJ))]) 0]),(3,.clo 68 [.optr 8448 256 0 0,.fptr (.agg [.sl (visit5.Out.map (eL JJ))]) 0,.fptr (.int .i64 visit6) 0])],[(8448,some (256,⟨false,true,1,36,[.sl (visit4.map JJ)]⟩))],262144⟩ (KE f1 k2 set3 visit4 visit5 visit6)
 refine Kc<|?_
 unfold Afm KE
 refine sQ<|rG<|bX r r r r r<|aS r r<|nI<|xS<|sQ<|sQ<|rG<|lO (v:=.agg [.int .i64 f1.Params,.sl (f1.Slots.map JP),.sl (f1.Code.map JM)]) (z:=.agg [.int .i64 f1.Params,.sl (f1.Slots.map JP),.sl (f1.Code.map JM)]) r r r r r r<|mV r r<|bD fun r7 hr7=>cR (l:=r7) (en:=JJ) (f1,k2) r r r Aav r r (by simp) r hr7 r<|lW r r<|mV r r<|nI<|xS<|bK<|lP (E:=fun (s : (List Int) × Int) (g : Nat × Nat)=>[(2,.clo 94 [.fptr (.agg [.sl (set3.Out.map (eL JJ))]) 0]),(3,.clo 68 [.optr 8448 256 0 0,.fptr (.agg [.sl (visit5.Out.map (eL JJ))]) 0,.fptr (.int .i64 visit6) 0]),(4,.optr 4 g.1 0 0),(13,.osl 13 g.2 0 r7.length),(14,.int .i64 (r7.length : Int)),(15,.int .i64 s.2)]) (O:=fun s g=>[(4,some (g.1,⟨false,true,3,27,[.agg [.int .i64 f1.Params,.sl (f1.Slots.map JP),.sl (f1.Code.map JM)]]⟩)),(13,some (g.2,⟨false,false,1,3,r7.map JJ⟩)),(8448,some (256,⟨false,true,1,36,[.sl (s.1.map JJ)]⟩))]) (body:=fun s=>Ky r7 f1 set3 visit5 visit6 s.1 s.2) (s:=(visit4,0)) (_,_) ((hE ⟨rfl,r,r,r,r,r,trivial⟩ ⟨rfl,r,r,trivial⟩))<|?_
 rintro ⟨x8,x9⟩ ⟨v4x1,v13x1⟩ nn
 try dsimp only
 unfold Ky
 refine sQ<|rG<|bN (v:=.bool (decide (x9 < (r7.length : Int)))) r r r r r<|nI<|xS<|sQ<|cD (c:=(decide (x9 < (r7.length : Int)))) r ?_ ?_
 ·refine sK<|xS<|sQ<|bK<|sQ<|rG<|cK fun hq=>iO (l:=r7) (en:=JJ) r r r r r hq<|bD fun x_e10 hx_e10=>lO (v:=.int .i64 x_e10) (z:=JJ x_e10) r r r (LR hx_e10) r r<|aS r r<|nI<|xS<|sQ<|rG<|mV r r<|fA r r<|lO (v:=.sl (f1.Code.map JM)) (z:=.agg [.int .i64 f1.Params,.sl (f1.Slots.map JP),.sl (f1.Code.map JM)]) r r r r r r<|mV r r<|bD fun x_x11 hx_x11=>iS (en:=JM) r r r hx_x11 r<|lF (v:=.agg [.int .i64 x_x11.Op,.int .i64 x_x11.A,.int .i64 x_x11.B,.int .i64 x_x11.C,.int .u64 x_x11.Imm]) r r r r<|mV r r<|mV r r<|bD fun r12 hr12=>cV (x_e10,set3) r r r Tv r r (by simp) r hr12<|bD fun r13 hr13=>cV (x_x11,r12) r r r Aau r r (by simp) r hr13<|bD fun r14 hr14=>cV (r13,x8,visit5,visit6) r r r Qp r r (by simp) r hr14<|uN (w:=.bool (!r14.1)) r r r r trivial<|Kf (by kernel_rfl)<|xS<|cD (c:=(!r14.1)) r ?_ ?_
  ·refine sQ<|rG<|aS r r<|nI<|xS<|rT<|bR<|xR<|lR<|bR<|xR<|KG (b:=(false,r14.2)) r ?_ r r ?_ r
   all_goals first|(simp;done)|(simp;omega)|rfl|(simp [JT,JQ];done)
  ·exact sK<|bM<|xS<|rG<|bN (v:=.int .i64 (IntKind.i64.wrap (x9 + 1))) r r r r r<|mV r r<|nI<|xL (s:=(r14.2,IntKind.i64.wrap (x9 + 1))) (_,_) ((hE ⟨rfl,r,r,r,r,r,trivial⟩ ⟨rfl,r,r,trivial⟩))
 ·refine eT<|xE<|lE<|bH<|xS<|sQ<|rG<|aS r r<|nI<|xS<|rT<|KG (b:=(true,x8)) r ?_ r r ?_ r
  all_goals first|(simp;done)|(simp;omega)|rfl|(simp [JT,JQ];done)

def AeP : Ka:=(.seq (.reg [P 2 (.box (T 0) 3 27),P 3 (.box (T 1) 1 30),P 4 (.asg (C 0) none),P 5 (.asg (C 0) none),P 6 (.asg (.c (.bool false)) none)] false) (.seq (.seq (.reg [P 9 (.ld 3 true (T 2)),P 10 (.ld 1 true (T 3)),P 11 (.call (.c (.clo 63 [])) [(T 9),(T 10)]),P 12 (.un .not (T 11))] false) (.cond (T 12) (.seq (.reg [P 4 (.asg (C 0) none),P 5 (.asg (C 0) none),P 6 (.asg (.c (.bool false)) none)] false) .ret) .skip)) (.seq (.seq (.reg [P 13 (.fldA 2 (T 2)),P 14 (.ld 1 false (T 13)),P 15 (.len false (T 14)),P 16 (.mv (C 0))] false) (.block 0 (.loop (.seq (.reg [P 17 (.bin .lss (T 16) (T 15))] false) (.seq (.cond (T 17) .skip (.exit 0)) (.seq (.block 1 (.seq (.reg [M 18 16,P 7 (.new (.int .i64 0) 1 3),⟨none,(.st 1 (T 7) (T 18)),none,[]⟩] false) (.seq (.reg [P 8 (.new .nils 1 36)] false) (.seq (.reg [P 19 (.ld 3 true (T 2)),P 20 (.ld 1 false (T 7)),P 21 (.ld 1 true (T 3)),⟨(some 22),(.call (.c (.clo 67 [])) [(T 21)]),none,[2]⟩,P 23 (.mkf 68 [(T 8),(T 3),(T 7)]),⟨(some 24),(.call (.c (.clo 66 [])) [(T 19),(T 20),(T 22),(T 23)]),none,[0,1,3,4,3]⟩] true) (.seq (.reg [P 25 (.ld 1 false (T 8)),P 26 (.len false (T 25)),P 27 (.bin .gtr (T 26) (C 0))] false) (.cond (T 27) (.seq (.reg [P 28 (.ld 1 false (T 7)),P 29 (.ld 1 false (T 8)),⟨(some 30),(.ixA 1 (T 29) (C 0)),none,[1]⟩,⟨(some 31),(.ld 1 false (T 30)),none,[2]⟩,⟨(some 4),(.asg (T 28) none),none,[0,0]⟩,⟨(some 5),(.asg (T 31) none),none,[3,4,0,1,2,3,4]⟩,⟨(some 6),(.asg (.c (.bool true)) none),none,[5,0,1,2,3,4,5]⟩] true) .ret) .skip)))))) (.reg [P 32 (.bin .add (T 16) (C 1)),M 16 32] false))))))) (.seq (.reg [P 4 (.asg (C 0) none),P 5 (.asg (C 0) none),P 6 (.asg (.c (.bool false)) none)] false) .ret))))
theorem Ahu : (Tryd.f30.body.bind (Kb Tryd.prog Tryd.f30.ntmps)) = some AeP:=by kernel_rfl
theorem Ahv : Tryd.f30.results.toList.mapM (Kn Tryd.prog) = some [(.t 4),(.t 5),(.t 6)]:=by kernel_rfl
def RT (a : JO × JR) : List D:=[Kv a.1,KJ a.2]
def RS (ds : List D) : JO × JR:=(LA (ds.getD 0 .top),MA (ds.getD 1 .top))
theorem Ww (a : JO × JR) : RS (RT a) = a:=by simp [RS,RT]
def Xw (b : Int × Int × Bool) : D:=.tup [.int .i64 b.1,.int .i64 b.2.1,.bool b.2.2]
def Xv (_b : Int × Int × Bool) : List D:=[]
noncomputable def Tj : Dw.Spec:=JZ [] .ground RT RS (fun a=>Ok a.1 a.2) Xw Xv
set_option maxHeartbeats 4000000 in
theorem AaA : JY Tryd.prog 30 Tj:=by
 refine Ki (Ke (l:=[(63,NY),(67,TM),(1158017090,Ln)]) (by simp [Vl,AaZ,Ss])) Tryd.func30 (by decide) Ahu Ahv (np:=2) (by decide) Ww (fun _=>r) (fun _=>r) (by decide)<|?_
 rintro ⟨f1,l2⟩
 show TrE (specs [(63,NY),(67,TM),(1158017090,Ln)]) AeP (Kp [] .ground [(.t 4),(.t 5),(.t 6)] Xw Xv) ⟨[(0,.agg [.int .i64 f1.Params,.sl (f1.Slots.map JP),.sl (f1.Code.map JM)]),(1,.agg [.sl (l2.Out.map (eL JJ))])],[],262144⟩ (Ok f1 l2)
 refine Kc<|?_
 unfold AeP Ok
 refine sQ<|rG<|bX r r r r r<|bX r r r r r<|aS r r<|aS r r<|aS r r<|nI<|Ll (E:=[(2,.optr 2 _ 0 0),(3,.fptr (.agg [.sl (l2.Out.map (eL JJ))]) 0)]) (O:=[(2,some (_,⟨false,true,3,27,[.agg [.int .i64 f1.Params,.sl (f1.Slots.map JP),.sl (f1.Code.map JM)]]⟩))]) ((ZE (g:=3) r (by first | rfl | (simp [cells,frp,LF,JT]; done)) (hE ⟨(by first | rfl | (simp [KL,lkO,frp,LF,frO]; done) | (simp [KL,lkO,frp,LF,frO]; rfl)),(by first | rfl | (simp [KL,lkO,frp,LF,frO]; done) | (simp [KL,lkO,frp,LF,frO]; rfl)),trivial⟩ ⟨(by first | rfl | (simp [KL,lkO,frp,LF,frO]; done) | (simp [KL,lkO,frp,LF,frO]; rfl)),trivial⟩))) fun nn=>sQ<|sQ<|rG<|lO (v:=.agg [.int .i64 f1.Params,.sl (f1.Slots.map JP),.sl (f1.Code.map JM)]) (z:=.agg [.int .i64 f1.Params,.sl (f1.Slots.map JP),.sl (f1.Code.map JM)]) r r r r r r<|lF (v:=.agg [.sl (l2.Out.map (eL JJ))]) r r r r<|bD fun r3 hr3=>cG (f1,l2) r r r RU r r (by simp) r hr3 r<|uN (w:=.bool (!r3)) r r r r trivial<|nI<|xS<|cD (c:=(!r3)) r ?_ ?_
 ·refine sQ<|rG<|aS r r<|aS r r<|aS r r<|nI<|xS<|rT<|xR<|Le (b:=(0,0,false)) r ?_ r r ?_ r (by decide)
  all_goals first|(simp;done)|(simp;omega)|rfl|(simp [JT,JQ];done)
 ·refine sK<|xS<|sQ<|sQ<|rG<|fA r r<|lO (v:=.sl (f1.Code.map JM)) (z:=.agg [.int .i64 f1.Params,.sl (f1.Slots.map JP),.sl (f1.Code.map JM)]) r r r r r r<|lS r r<|mV r r<|nI<|xS<|bK<|lP (E:=fun (s : Int) (g : Nat)=>[(2,.optr 2 g 0 0),(3,.fptr (.agg [.sl (l2.Out.map (eL JJ))]) 0),(15,.int .i64 (f1.Code.length : Int)),(16,.int .i64 s)]) (O:=fun s g=>[(2,some (g,⟨false,true,3,27,[.agg [.int .i64 f1.Params,.sl (f1.Slots.map JP),.sl (f1.Code.map JM)]]⟩))]) (body:=fun s=>PF f1 l2 s) (s:=0) _ ((hE ⟨rfl,r,r,r,trivial⟩ ⟨rfl,trivial⟩))<|?_
  rintro x4 v2x1 nn
  try dsimp only
  unfold PF
  refine sQ<|rG<|bN (v:=.bool (decide (x4 < (f1.Code.length : Int)))) r r r r r<|nI<|xS<|sQ<|cD (c:=(decide (x4 < (f1.Code.length : Int)))) r ?_ ?_
  ·refine sK<|xS<|sQ<|bK<|sQ<|rG<|mV r r<|nW r<|sV (z':=.int .i64 x4) r r r r r r r r r<|nI<|Ll (E:=[(2,.optr 2 _ 0 0),(3,.fptr (.agg [.sl (l2.Out.map (eL JJ))]) 0),(7,.fptr (.int .i64 x4) 0),(15,.int .i64 (f1.Code.length : Int)),(16,.int .i64 x4)]) (O:=[(2,some (_,⟨false,true,3,27,[.agg [.int .i64 f1.Params,.sl (f1.Slots.map JP),.sl (f1.Code.map JM)]]⟩))]) ((ZE (g:=7) r (by first | rfl | (simp [cells,frp,LF,JT]; done)) (hE ⟨(by first | rfl | (simp [KL,lkO,frp,LF,frO]; done) | (simp [KL,lkO,frp,LF,frO]; rfl)),(by first | rfl | (simp [KL,lkO,frp,LF,frO]; done) | (simp [KL,lkO,frp,LF,frO]; rfl)),(by first | rfl | (simp [KL,lkO,frp,LF,frO]; done) | (simp [KL,lkO,frp,LF,frO]; rfl)),(by first | rfl | (simp [KL,lkO,frp,LF,frO]; done) | (simp [KL,lkO,frp,LF,frO]; rfl)),(by first | rfl | (simp [KL,lkO,frp,LF,frO]; done) | (simp [KL,lkO,frp,LF,frO]; rfl)),trivial⟩ ⟨(by first | rfl | (simp [KL,lkO,frp,LF,frO]; done) | (simp [KL,lkO,frp,LF,frO]; rfl)),trivial⟩))) fun nn=>sQ<|rG<|nW r<|nI<|xS<|sQ<|rG<|lO (v:=.agg [.int .i64 f1.Params,.sl (f1.Slots.map JP),.sl (f1.Code.map JM)]) (z:=.agg [.int .i64 f1.Params,.sl (f1.Slots.map JP),.sl (f1.Code.map JM)]) r r r r r r<|lF (v:=.int .i64 x4) r r r r<|lF (v:=.agg [.sl (l2.Out.map (eL JJ))]) r r r r<|bD fun r5 hr5=>cV l2 r r r Xx r r (by simp) r hr5<|mF (caps:=[.optr 8 _ 0 0,.fptr (.agg [.sl (l2.Out.map (eL JJ))]) 0,.fptr (.int .i64 x4) 0]) r r (by simp [XH])<|bD fun r6 hr6=>cV (f1,x4,r5,[],l2,x4) rfl rfl (show _ = some Ln from by kernel_rfl) NX rfl rfl (by simp) (by first | rfl | (simp only [Kg,Kk]; rfl) | simp [Lc,Kv,KJ,KJ]) hr6<|Kf (by kernel_rfl)<|xS<|sQ<|rG<|lO (v:=.sl (r6.2.map JJ)) (z:=.sl (r6.2.map JJ)) r r r r r r<|lS r r<|bN (v:=.bool (decide ((r6.2.length : Int) > 0))) r r r r r<|nI<|xS<|cD (c:=(decide ((r6.2.length : Int) > 0))) r ?_ ?_
   ·refine sQ<|rG<|lF (v:=.int .i64 x4) r r r r<|lO (v:=.sl (r6.2.map JJ)) (z:=.sl (r6.2.map JJ)) r r r r r r<|bD fun x_x7 hx_x7=>iS (en:=JJ) r r r hx_x7 r<|lF (v:=.int .i64 x_x7) r r r r<|aS r r<|aS r r<|aS r r<|Kf (by kernel_rfl)<|xS<|rT<|bR<|xR<|lR<|bR<|xR<|Le (b:=(x4,x_x7,true)) r ?_ r r ?_ r (by decide)
    all_goals first|(simp;done)|(simp;omega)|rfl|(simp [JT,JQ];done)
   ·exact sK<|bM<|xS<|rG<|bN (v:=.int .i64 (IntKind.i64.wrap (x4 + 1))) r r r r r<|mV r r<|nI<|xL (s:=IntKind.i64.wrap (x4 + 1)) _ ((hE ⟨rfl,r,r,r,trivial⟩ ⟨rfl,trivial⟩))
  ·refine eT<|xE<|lE<|bH<|xS<|sQ<|rG<|aS r r<|aS r r<|aS r r<|nI<|xS<|rT<|Le (b:=(0,0,false)) r ?_ r r ?_ r (by decide)
   all_goals first|(simp;done)|(simp;omega)|rfl|(simp [JT,JQ];done)

def AeK : Ka:=(.seq (.reg [P 2 (.box (T 0) 3 27),P 3 (.box (T 1) 1 30),P 4 (.asg (C 0) none)] false) (.seq (.seq (.reg [P 8 (.ld 3 true (T 2)),P 9 (.ld 1 true (T 3)),P 10 (.call (.c (.clo 63 [])) [(T 8),(T 9)]),P 11 (.un .not (T 10))] false) (.cond (T 11) (.seq (.reg [P 4 (.asg (C 11) none)] false) .ret) .skip)) (.seq (.seq (.reg [P 13 (.ld 3 true (T 2)),P 14 (.ld 1 true (T 3)),P 15 (.call (.c (.clo 30 [])) [(T 13),(T 14)]),M 12 15,P 16 (.ext (T 12) 0),P 17 (.ext (T 12) 1),P 18 (.ext (T 12) 2),P 5 (.asg (T 16) none),P 6 (.asg (T 17) none),P 7 (.asg (T 18) none)] false) (.seq (.reg [M 19 7] false) (.cond (T 19) (.seq (.reg [P 4 (.asg (C 11) none)] false) .ret) .skip))) (.seq (.reg [P 4 (.asg (C 0) none)] false) .ret))))
theorem Ahk : (Tryd.f22.body.bind (Kb Tryd.prog Tryd.f22.ntmps)) = some AeK:=by kernel_rfl
theorem Ahl : Tryd.f22.results.toList.mapM (Kn Tryd.prog) = some [(.t 4)]:=by kernel_rfl
def RR (a : JO × JR) : List D:=[Kv a.1,KJ a.2]
def RQ (ds : List D) : JO × JR:=(LA (ds.getD 0 .top),MA (ds.getD 1 .top))
theorem Sr (a : JO × JR) : RQ (RR a) = a:=by simp [RQ,RR]
def Xu (b : Int) : D:=.int .i64 b
def Xt (_b : Int) : List D:=[]
noncomputable def OE : Dw.Spec:=JZ [] .ground RR RQ (fun a=>Nd a.1 a.2) Xu Xt
set_option maxHeartbeats 4000000 in
theorem Wv : JY Tryd.prog 22 OE:=by
 refine Ki (Ke (l:=[(63,NY),(30,Tj)]) (by simp [Vl,AaA])) Tryd.func22 (by decide) Ahk Ahl (np:=2) (by decide) Sr (fun _=>r) (fun _=>r) (by decide)<|?_
 rintro ⟨f1,l2⟩
 show TrE (specs [(63,NY),(30,Tj)]) AeK (Kp [] .ground [(.t 4)] Xu Xt) ⟨[(0,.agg [.int .i64 f1.Params,.sl (f1.Slots.map JP),.sl (f1.Code.map JM)]),(1,.agg [.sl (l2.Out.map (eL JJ))])],[],262144⟩ (Nd f1 l2)
 refine Kc<|?_
 unfold AeK Nd
 refine sQ<|rG<|bX r r r r r<|bX r r r r r<|aS r r<|nI<|xS<|sQ<|sQ<|rG<|lO (v:=.agg [.int .i64 f1.Params,.sl (f1.Slots.map JP),.sl (f1.Code.map JM)]) (z:=.agg [.int .i64 f1.Params,.sl (f1.Slots.map JP),.sl (f1.Code.map JM)]) r r r r r r<|lO (v:=.agg [.sl (l2.Out.map (eL JJ))]) (z:=.agg [.sl (l2.Out.map (eL JJ))]) r r r r r r<|bD fun r3 hr3=>cG (f1,l2) r r r RU r r (by simp) r hr3 r<|uN (w:=.bool (!r3)) r r r r trivial<|nI<|xS<|cD (c:=(!r3)) r ?_ ?_
 ·refine sQ<|rG<|aS r r<|nI<|xS<|rT<|xR<|JX (b:=11) r ?_ r r ?_ r
  all_goals first|(simp;done)|(simp;omega)|rfl|(simp [JT,JQ];done)
 ·refine sK<|xS<|sQ<|sQ<|rG<|lO (v:=.agg [.int .i64 f1.Params,.sl (f1.Slots.map JP),.sl (f1.Code.map JM)]) (z:=.agg [.int .i64 f1.Params,.sl (f1.Slots.map JP),.sl (f1.Code.map JM)]) r r r r r r<|lO (v:=.agg [.sl (l2.Out.map (eL JJ))]) (z:=.agg [.sl (l2.Out.map (eL JJ))]) r r r r r r<|bD fun r4 hr4=>cG (f1,l2) r r r Ww r r (by simp) r hr4 r<|mV r r<|eX (v:=.int .i64 r4.1) r r r<|eX (v:=.int .i64 r4.2.1) r r r<|eX (v:=.bool r4.2.2) r r r<|aS r r<|aS r r<|aS r r<|nI<|xS<|sQ<|rG<|mV r r<|nI<|xS<|cD (c:=r4.2.2) r ?_ ?_
  ·refine sQ<|rG<|aS r r<|nI<|xS<|rT<|xR<|JX (b:=11) r ?_ r r ?_ r
   all_goals first|(simp;done)|(simp;omega)|rfl|(simp [JT,JQ];done)
  ·refine sK<|xS<|sQ<|rG<|aS r r<|nI<|xS<|rT<|JX (b:=0) r ?_ r r ?_ r
   all_goals first|(simp;done)|(simp;omega)|rfl|(simp [JT,JQ];done)

def Afy : Ka:=(.seq (.reg [P 2 (.box (T 0) 5 66),P 4 (.asg (.c (.bool false)) none)] false) (.seq (.reg [P 5 (.fldA 0 (T 2)),P 6 (.ld 1 false (T 5)),P 7 (.bin .eql (T 6) (C 17)),M 8 7,⟨(some 9),(.fldA 2 (T 2)),(some ⟨8,true⟩),[]⟩,⟨(some 10),(.ld 1 false (T 9)),(some ⟨8,true⟩),[]⟩,⟨(some 11),(.mv (T 1)),(some ⟨8,true⟩),[]⟩,⟨(some 12),(.bin .eql (T 10) (T 11)),(some ⟨8,true⟩),[]⟩,P 13 (.pick (T 8) (T 12) (.c (.bool false))),P 4 (.asg (T 13) none)] false) .ret))
theorem AiM : (Tryd.f82.body.bind (Kb Tryd.prog Tryd.f82.ntmps)) = some Afy:=by kernel_rfl
theorem AiN : Tryd.f82.results.toList.mapM (Kn Tryd.prog) = some [(.t 4)]:=by kernel_rfl
def Qo (a : JL × Int) : List D:=[JM a.1,.int .i64 a.2]
def Qn (ds : List D) : JL × Int:=(QB (ds.getD 0 .top),uI (ds.getD 1 .top))
theorem UA (a : JL × Int) : Qn (Qo a) = a:=by simp [Qn,Qo,uI]
def Vj (b : Bool) : D:=.bool b
def Vi (_b : Bool) : List D:=[]
noncomputable def RM : Dw.Spec:=JZ [] .ground Qo Qn (fun a=>Nk a.1 a.2) Vj Vi
set_option maxHeartbeats 4000000 in
theorem ZF : JY Tryd.prog 82 RM:=by
 refine Ki (KI) Tryd.func82 (by decide) AiM AiN (np:=2) (by decide) UA (fun _=>r) (fun _=>r) (by decide)<|?_
 rintro ⟨x1,y2⟩
 show TrE (specs []) Afy (Kp [] .ground [(.t 4)] Vj Vi) ⟨[(0,.agg [.int .i64 x1.Op,.int .i64 x1.A,.int .i64 x1.B,.int .i64 x1.C,.int .u64 x1.Imm]),(1,.int .i64 y2)],[],262144⟩ (Nk x1 y2)
 refine Kc<|?_
 unfold Afy Nk
 refine sQ<|rG<|bX r r r r r<|aS r r<|nI<|xS<|sQ<|rG<|fA r r<|lO (v:=.int .i64 x1.Op) (z:=.agg [.int .i64 x1.Op,.int .i64 x1.A,.int .i64 x1.B,.int .i64 x1.C,.int .u64 x1.Imm]) r r r r r r<|bN (v:=.bool (x1.Op == 17)) r r r r r<|mV r r<|sP 8 (b:=(x1.Op == 17)) r ?_ ?_
 ·refine fA r r<|lO (v:=.int .i64 x1.B) (z:=.agg [.int .i64 x1.Op,.int .i64 x1.A,.int .i64 x1.B,.int .i64 x1.C,.int .u64 x1.Imm]) r r r r r r<|mV r r<|bN (v:=.bool (x1.B == y2)) r r r r r<|pT r r r r<|aS r r<|nI<|xS<|rT<|JX (b:=(x1.B == y2)) r ?_ r r ?_ r
  all_goals first|(simp;done)|(simp;omega)|rfl|(simp [JT,JQ];done)
 ·refine oF r<|oF r<|oF r<|oF r<|pF r r r r<|aS r r<|nI<|xS<|rT<|JX (b:=false) r ?_ r r ?_ r
  all_goals first|(simp;done)|(simp;omega)|rfl|(simp [JT,JQ];done)

def AdH : Ka:=(.seq (.reg [⟨(some 2),(.asg (.c .nils) (some ⟨1,36⟩)),none,[]⟩] false) (.seq (.reg [M 8 0,P 9 (.len false (T 8)),P 10 (.mkS 1 36 24 .nils (T 9) (T 9)),⟨(some 3),(.asg (T 10) (some ⟨1,36⟩)),none,[]⟩] false) (.seq (.seq (.reg [M 11 0,P 12 (.len false (T 11)),P 13 (.mv (C 0))] false) (.block 0 (.loop (.seq (.reg [P 14 (.bin .lss (T 13) (T 12))] false) (.seq (.cond (T 14) .skip (.exit 0)) (.seq (.block 1 (.seq (.reg [M 15 13,P 16 (.ixA 1 (T 11) (T 13)),P 17 (.ld 1 false (T 16)),P 4 (.asg (T 15) none),⟨(some 5),(.asg (T 17) (some ⟨1,4⟩)),none,[]⟩] false) (.seq (.reg [M 18 5,P 19 (.len false (T 18)),P 20 (.mv (C 0))] false) (.block 2 (.loop (.seq (.reg [P 21 (.bin .lss (T 20) (T 19))] false) (.seq (.cond (T 21) .skip (.exit 2)) (.seq (.block 3 (.seq (.reg [M 22 20,P 23 (.ixA 1 (T 18) (T 20)),P 24 (.ld 1 false (T 23)),P 6 (.asg (T 22) none),P 7 (.asg (T 24) none)] false) (.seq (.reg [M 25 7] false) (.cond (T 25) (.reg [M 26 3,M 27 4,M 28 3,M 29 4,P 30 (.ixA 1 (T 28) (T 29)),P 31 (.ld 1 false (T 30)),M 32 6,⟨(some 33),(.bldS 1 3 (.int .i64 0) 1 [⟨0,(T 32)⟩]),none,[]⟩,P 34 (.app 1 3 8 (T 31) (T 33)),P 35 (.ixA 1 (T 26) (T 27)),⟨none,(.st 1 (T 35) (T 34)),none,[]⟩] false) .skip)))) (.reg [P 36 (.bin .add (T 20) (C 1)),M 20 36] false))))))))) (.reg [P 37 (.bin .add (T 13) (C 1)),M 13 37] false))))))) (.seq (.reg [M 38 3,⟨(some 2),(.asg (T 38) (some ⟨1,36⟩)),none,[]⟩] false) .ret))))
theorem Agt : (Tryd.f107.body.bind (Kb Tryd.prog Tryd.f107.ntmps)) = some AdH:=by kernel_rfl
theorem Agu : Tryd.f107.results.toList.mapM (Kn Tryd.prog) = some [(.t 2)]:=by kernel_rfl
def LJ (a : (List (List Bool))) : List D:=[.sl (a.map (eL D.bool))]
def OI (ds : List D) : (List (List Bool)):=(uL (uL uBo)) (ds.getD 0 .top)
theorem OU (a : (List (List Bool))) : OI (LJ a) = a:=by simp [OI,LJ,Lw (u:=(uL uBo)) (en:=(eL D.bool)) (Lw (u:=uBo) (en:=D.bool) (fun _=>rfl))]
def Po (b : (List (List Int))) : D:=.sl (b.map (eL JJ))
def SQ (_b : (List (List Int))) : List D:=[]
noncomputable def Mi : Dw.Spec:=JZ [] .val LJ OI (fun a=>Lq a) Po SQ
set_option maxHeartbeats 4000000 in
theorem Sq : JY Tryd.prog 107 Mi:=by
 refine Ki (KI) Tryd.func107 (by decide) Agt Agu (np:=1) (by decide) OU (fun _=>r) (fun _=>r) (by decide)<|?_
 intro m1
 show TrE (specs []) AdH (Kp [] .val [(.t 2)] Po SQ) ⟨[(0,.sl (m1.map (eL D.bool)))],[],262144⟩ (Lq m1)
 refine Kc<|?_
 unfold AdH Lq
 refine sQ<|rG<|aN (α:=(List Int)) r (eL JJ) r<|nI<|xS<|sQ<|rG<|mV r r<|lS r r<|cK fun hq=>Ry (α:=Int) r r r hq r<|aO (l:=List.replicate (m1.length : Int).toNat ([] : (List Int))) (en:=(fun _=>D.nils)) r r r r<|nI<|Ll (E:=[(0,.sl (m1.map (eL D.bool))),(3,.osl 4099 _ 0 ((List.replicate (m1.length : Int).toNat ([] : (List Int))).length))]) (O:=[(4099,some (_,⟨false,false,1,36,(List.replicate (m1.length : Int).toNat ([] : (List Int))).map (eR 1 3 JJ)⟩))]) ((Jo (g:=3) (g2:=4099) r r r (Jv (l:=List.replicate (m1.length : Int).toNat ([] : (List Int))) (s':=1) (ty':=3) JJ (by decide) (fun _ h=>List.eq_of_mem_replicate h)) (hE ⟨rfl,r,trivial⟩ ⟨rfl,trivial⟩))) fun nn=>sQ<|sQ<|rG<|mV r r<|lS r r<|mV r r<|nI<|xS<|bK<|lP (E:=fun (s : (List (List Int)) × Int) (g : Nat)=>[(3,.osl 4099 g 0 s.1.length),(11,.sl (m1.map (eL D.bool))),(12,.int .i64 (m1.length : Int)),(13,.int .i64 s.2)]) (O:=fun s g=>[(4099,some (g,⟨false,false,1,36,s.1.map (eR 1 3 JJ)⟩))]) (body:=fun s=>Nb m1 s.1 s.2) (s:=(List.replicate (m1.length : Int).toNat ([] : (List Int)),0)) _ ((hE ⟨rfl,r,r,r,trivial⟩ ⟨rfl,trivial⟩))<|?_
 rintro ⟨out2,x3⟩ v4099x1 nn
 try dsimp only
 unfold Nb
 refine sQ<|rG<|bN (v:=.bool (decide (x3 < (m1.length : Int)))) r r r r r<|nI<|xS<|sQ<|cD (c:=(decide (x3 < (m1.length : Int)))) r ?_ ?_
 ·refine sK<|xS<|sQ<|bK<|sQ<|rG<|mV r r<|bD fun x_x4 hx_x4=>iS (en:=(eL D.bool)) r r r hx_x4 r<|lF (v:=.sl (x_x4.map D.bool)) r r r r<|aS r r<|aL r r<|nI<|xS<|sQ<|rG<|mV r r<|lS r r<|mV r r<|nI<|xS<|bK<|lP (E:=fun (s : (List (List Int)) × Int) (g : Nat)=>[(3,.osl 4099 g 0 s.1.length),(4,.int .i64 x3),(11,.sl (m1.map (eL D.bool))),(12,.int .i64 (m1.length : Int)),(13,.int .i64 x3),(18,.sl (x_x4.map D.bool)),(19,.int .i64 (x_x4.length : Int)),(20,.int .i64 s.2)]) (O:=fun s g=>[(4099,some (g,⟨false,false,1,36,s.1.map (eR 1 3 JJ)⟩))]) (body:=fun s=>Nc x_x4 x3 s.1 s.2) (s:=(out2,0)) _ ((hE ⟨rfl,r,r,r,r,r,r,r,trivial⟩ ⟨rfl,trivial⟩))<|?_
  rintro ⟨out5,x6⟩ v4099x2 nn
  try dsimp only
  unfold Nc
  refine sQ<|rG<|bN (v:=.bool (decide (x6 < (x_x4.length : Int)))) r r r r r<|nI<|xS<|sQ<|cD (c:=(decide (x6 < (x_x4.length : Int)))) r ?_ ?_
  ·refine sK<|xS<|sQ<|bK<|sQ<|rG<|mV r r<|bD fun x_x7 hx_x7=>iS (en:=D.bool) r r r hx_x7 r<|lF (v:=.bool x_x7) r r r r<|aS r r<|aS r r<|nI<|xS<|sQ<|rG<|mV r r<|nI<|xS<|cD (c:=x_x7) r ?_ ?_
   ·exact rG<|mV r r<|mV r r<|mV r r<|mV r r<|cK fun hq=>iO (l:=out5) (en:=(eR 1 3 JJ)) r r r r r hq<|bD fun out_e8 hout_e8=>Ju (q:=out_e8) JJ r r r hout_e8<|mV r r<|bS ([x6] : List Int) JJ r r r (by simp) r r r<|cK fun hq=>Jt (out_e8) (([x6] : List Int)) JJ r r r r r r r (by simp) (Ko _ _ r) r r (by simp) (JS _ _ r) (fun _=>r) r hq (fun _=>r)<|cK fun hq=>Jk (by simp) r r r r (by simpa using hq)<|Jm (l:=out5) (q:=out_e8) (q':=out_e8 ++ ([x6] : List Int)) JJ rfl rfl rfl rfl (.inr ⟨_,_,_,rfl⟩) hout_e8 rfl rfl ⟨⟨rfl,rfl,by simp,Js fun _=>rfl⟩,trivial,rfl⟩ (congrArg (fun z=>[D.row _ _ z]) (JS _ _ rfl)) rfl<|nI<|bM<|xS<|rG<|bN (v:=.int .i64 (IntKind.i64.wrap (x6 + 1))) rfl rfl rfl rfl rfl<|mV rfl rfl<|nI<|xL (s:=(out5.set x3.toNat (out_e8 ++ ([x6] : List Int)),IntKind.i64.wrap (x6 + 1))) _ ((hE ⟨(Rm (q:=out5.length) rfl (by simp)),r,r,r,r,r,r,r,trivial⟩ ⟨rfl,trivial⟩))
   ·exact sK<|bM<|xS<|rG<|bN (v:=.int .i64 (IntKind.i64.wrap (x6 + 1))) r r r r r<|mV r r<|nI<|xL (s:=(out5,IntKind.i64.wrap (x6 + 1))) _ ((hE ⟨rfl,r,r,r,r,r,r,r,trivial⟩ ⟨rfl,trivial⟩))
  ·exact eT<|xE<|lE<|bH<|bM<|xS<|rG<|bN (v:=.int .i64 (IntKind.i64.wrap (x3 + 1))) r r r r r<|mV r r<|nI<|xL (s:=(out5,IntKind.i64.wrap (x3 + 1))) _ ((hE ⟨rfl,r,r,r,trivial⟩ ⟨rfl,trivial⟩))
 ·refine eT<|xE<|lE<|bH<|Ll (E:=[(3,.osl 4099 _ 0 out2.length)]) (O:=[(4099,some (_,⟨false,false,1,36,out2.map (eL JJ)⟩))]) ((Jq (g:=4099) r (Jw (l:=out2) JJ (fun _=>r)) (hE ⟨rfl,trivial⟩ ⟨rfl,trivial⟩))) fun nn=>sQ<|rG<|mV r r<|Ji r r r<|nI<|xS<|rT<|KG (b:=out2) r ?_ r r ?_ (by first | rfl | (simp only [Kg,Kk]; rfl) | simp [Po])
  all_goals first|(simp;done)|(simp;omega)|rfl|(simp [JT,JQ];done)

def AbA : Ka:=(.seq (.reg [⟨(some 2),(.asg (.c .nils) (some ⟨1,81⟩)),none,[]⟩] false) (.seq (.reg [M 5 0,P 6 (.mkS 1 81 24 .nils (T 5) (T 5)),⟨(some 3),(.asg (T 6) (some ⟨1,81⟩)),none,[]⟩] false) (.seq (.seq (.reg [M 7 3,P 8 (.len false (T 7)),P 9 (.mv (C 0))] false) (.block 0 (.loop (.seq (.reg [P 10 (.bin .lss (T 9) (T 8))] false) (.seq (.cond (T 10) .skip (.exit 0)) (.seq (.block 1 (.seq (.reg [M 11 9,P 4 (.asg (T 11) none)] false) (.reg [M 12 3,M 13 4,M 14 0,P 15 (.mkS 1 4 1 (.bool false) (T 14) (T 14)),P 16 (.ixA 1 (T 12) (T 13)),⟨none,(.st 1 (T 16) (T 15)),none,[]⟩] false))) (.reg [P 17 (.bin .add (T 9) (C 1)),M 9 17] false))))))) (.seq (.reg [M 18 3,⟨(some 2),(.asg (T 18) (some ⟨1,81⟩)),none,[]⟩] false) .ret))))
theorem Ads : (Tryd.f106.body.bind (Kb Tryd.prog Tryd.f106.ntmps)) = some AbA:=by kernel_rfl
theorem Adt : Tryd.f106.results.toList.mapM (Kn Tryd.prog) = some [(.t 2)]:=by kernel_rfl

def AcJ : Ka:=(.seq (.reg [P 3 (.box (T 0) 3 27),P 4 (.box (T 1) 1 30),⟨(some 6),(.asg (.c .nils) (some ⟨1,36⟩)),none,[]⟩,P 7 (.asg (C 0) none)] false) (.seq (.seq (.reg [P 16 (.ld 3 true (T 3)),P 17 (.ld 1 true (T 4)),P 18 (.call (.c (.clo 22 [])) [(T 16),(T 17)]),P 8 (.asg (T 18) none)] false) (.seq (.reg [M 19 8,P 20 (.bin .neq (T 19) (C 0))] false) (.cond (T 20) (.seq (.reg [M 21 8,⟨(some 6),(.asg (.c .nils) (some ⟨1,36⟩)),none,[]⟩,P 7 (.asg (T 21) none)] false) .ret) .skip))) (.seq (.reg [P 22 (.fldA 1 (T 3)),P 23 (.ld 1 false (T 22)),P 24 (.len false (T 23)),P 25 (.call (.c (.clo 106 [])) [(T 24)]),⟨(some 9),(.asg (T 25) (some ⟨1,81⟩)),none,[]⟩] false) (.seq (.seq (.reg [P 26 (.fldA 2 (T 3)),P 27 (.ld 1 false (T 26)),P 28 (.len false (T 27)),P 29 (.mv (C 0))] false) (.block 0 (.loop (.seq (.reg [P 30 (.bin .lss (T 29) (T 28))] false) (.seq (.cond (T 30) .skip (.exit 0)) (.seq (.block 1 (.seq (.reg [M 31 29,P 32 (.ixA 5 (T 27) (T 29)),P 33 (.ld 5 true (T 32)),P 11 (.new (.agg [(.int .i64 0),(.int .i64 0),(.int .i64 0),(.int .i64 0),(.int .u64 0)]) 5 66),P 10 (.asg (T 31) none),⟨none,(.st 5 (T 11) (T 33)),none,[]⟩] false) (.seq (.reg [P 35 (.ld 5 true (T 11)),P 36 (.call (.c (.clo 100 [])) [(T 35)]),M 34 36,P 37 (.ext (T 34) 0),P 38 (.ext (T 34) 1),P 12 (.asg (T 37) none),P 13 (.asg (T 38) none)] false) (.seq (.seq (.reg [M 39 13,P 40 (.un .not (T 39)),M 41 40,⟨(some 42),(.fldA 0 (T 11)),(some ⟨41,false⟩),[]⟩,⟨(some 43),(.ld 1 false (T 42)),(some ⟨41,false⟩),[]⟩,⟨(some 44),(.bin .eql (T 43) (C 17)),(some ⟨41,false⟩),[]⟩,⟨(some 45),(.mv (T 44)),(some ⟨41,false⟩),[]⟩,⟨(some 46),(.fldA 1 (T 11)),(some ⟨45,true⟩),[]⟩,⟨(some 47),(.ld 1 false (T 46)),(some ⟨45,true⟩),[]⟩,⟨(some 48),(.fldA 2 (T 11)),(some ⟨45,true⟩),[]⟩,⟨(some 49),(.ld 1 false (T 48)),(some ⟨45,true⟩),[]⟩,⟨(some 50),(.bin .eql (T 47) (T 49)),(some ⟨45,true⟩),[]⟩,⟨(some 51),(.pick (T 45) (T 50) (.c (.bool false))),(some ⟨41,false⟩),[]⟩,P 52 (.pick (T 41) (.c (.bool true)) (T 51))] false) (.cond (T 52) (.exit 1) .skip)) (.seq (.reg [P 53 (.fldA 0 (T 4)),P 54 (.ld 1 false (T 53)),M 55 10,P 56 (.ixA 1 (T 54) (T 55)),P 57 (.ld 1 false (T 56)),P 58 (.len false (T 57)),P 59 (.mv (C 0))] false) (.block 2 (.loop (.seq (.reg [P 60 (.bin .lss (T 59) (T 58))] false) (.seq (.cond (T 60) .skip (.exit 2)) (.seq (.block 3 (.seq (.reg [P 61 (.ixA 1 (T 57) (T 59)),P 62 (.ld 1 false (T 61)),P 15 (.asg (T 62) none)] false) (.seq (.reg [M 63 15,M 64 12,P 65 (.bin .neq (T 63) (T 64)),M 66 65,⟨(some 67),(.mv (T 2)),(some ⟨66,true⟩),[]⟩,⟨(some 68),(.ld 5 true (T 11)),(some ⟨66,true⟩),[]⟩,⟨(some 69),(.mv (T 15)),(some ⟨66,true⟩),[]⟩,⟨(some 70),(.call (T 67) [(T 68),(T 69)]),(some ⟨66,true⟩),[]⟩,⟨(some 71),(.un .not (T 70)),(some ⟨66,true⟩),[]⟩,P 72 (.pick (T 66) (T 71) (.c (.bool false)))] false) (.cond (T 72) (.reg [M 73 9,M 74 12,⟨(some 75),(.ixA 1 (T 73) (T 74)),none,[0,1]⟩,⟨(some 76),(.ld 1 false (T 75)),none,[2]⟩,M 77 15,M 78 9,M 79 15,⟨(some 80),(.ixA 1 (T 78) (T 79)),none,[5,6]⟩,⟨(some 81),(.ld 1 false (T 80)),none,[7]⟩,M 82 12,⟨(some 83),(.ixA 1 (T 76) (T 77)),none,[3,4,0,1,2,3,4,8]⟩,⟨none,(.st 1 (T 83) (.c (.bool true))),none,[10,0,1,2,3,4,8]⟩,⟨(some 84),(.ixA 1 (T 81) (T 82)),none,[8,9,0,1,2,3,4,5,6,7,8,9,10,11]⟩,⟨none,(.st 1 (T 84) (.c (.bool true))),none,[12,11,0,1,2,3,4,5,6,7,8,9,10,11]⟩] true) .skip)))) (.reg [P 85 (.bin .add (T 59) (C 1)),M 59 85] false))))))))))) (.reg [P 86 (.bin .add (T 29) (C 1)),M 29 86] false))))))) (.seq (.reg [M 87 9,P 88 (.call (.c (.clo 107 [])) [(T 87)]),⟨(some 6),(.asg (T 88) (some ⟨1,36⟩)),none,[]⟩,P 7 (.asg (C 0) none)] false) .ret)))))
theorem Aee : (Tryd.f81.body.bind (Kb Tryd.prog Tryd.f81.ntmps)) = some AcJ:=by kernel_rfl
theorem Aef : Tryd.f81.results.toList.mapM (Kn Tryd.prog) = some [(.t 6),(.t 7)]:=by kernel_rfl
def NV (a : JO × JR) : List D:=[Kv a.1,KJ a.2,.clo 82 []]
def NU (ds : List D) : JO × JR:=(LA (ds.getD 0 .top),MA (ds.getD 1 .top))
theorem Rc (a : JO × JR) : NU (NV a) = a:=by simp [NU,NV]
def OH (b : (List (List Int)) × Int) : D:=.tup [.sl (b.1.map (eL JJ)),.int .i64 b.2]
def RY (_b : (List (List Int)) × Int) : List D:=[]
noncomputable def MR : Dw.Spec:=JZ [] .val NV NU (fun a=>Mh a.1 a.2) OH RY
noncomputable def NC : Dw.Spec:=Jg (specs []) 1 [(.t 2)] AbA
theorem Ve : JY Tryd.prog 106 NC:=Jz (KI) Tryd.func106 (by decide) Ads Adt (by decide)
set_option maxHeartbeats 4000000 in
theorem WJ : JY Tryd.prog 81 MR:=by
 refine Ki (Ke (l:=[(22,OE),(106,NC),(100,MC),(82,RM),(107,Mi)]) (by simp [Wv,Ve,Tg,ZF,Sq])) Tryd.func81 (by decide) Aee Aef (np:=3) (by decide) Rc (fun _=>r) (fun _=>r) (by decide)<|?_
 rintro ⟨f1,l2⟩
 show TrE (specs [(22,OE),(106,NC),(100,MC),(82,RM),(107,Mi)]) AcJ (Kp [] .val [(.t 6),(.t 7)] OH RY) ⟨[(0,.agg [.int .i64 f1.Params,.sl (f1.Slots.map JP),.sl (f1.Code.map JM)]),(1,.agg [.sl (l2.Out.map (eL JJ))]),(2,.clo 82 [])],[],262144⟩ (Mh f1 l2)
 refine Kc<|?_
 unfold AcJ Mh
 refine sQ<|rG<|bX r r r r r<|bX r r r r r<|aN (α:=(List Int)) r (eL JJ) r<|aS r r<|nI<|xS<|sQ<|sQ<|rG<|lO (v:=.agg [.int .i64 f1.Params,.sl (f1.Slots.map JP),.sl (f1.Code.map JM)]) (z:=.agg [.int .i64 f1.Params,.sl (f1.Slots.map JP),.sl (f1.Code.map JM)]) r r r r r r<|lO (v:=.agg [.sl (l2.Out.map (eL JJ))]) (z:=.agg [.sl (l2.Out.map (eL JJ))]) r r r r r r<|bD fun r3 hr3=>cG (f1,l2) r r r Sr r r (by simp) r hr3 r<|aS r r<|nI<|xS<|sQ<|rG<|mV r r<|bN (v:=.bool (r3 != 0)) r r r r r<|nI<|xS<|cD (c:=(r3 != 0)) r ?_ ?_
 ·refine sQ<|rG<|mV r r<|aN (α:=(List Int)) r (eL JJ) r<|aS r r<|nI<|xS<|rT<|xR<|LC (b:=(([] : List (List Int)),r3)) r ?_ r r ?_ (by first | rfl | (simp only [Kg,Kk]; rfl) | simp [OH]) (by decide)
  all_goals first|(simp;done)|(simp;omega)|rfl|(simp [JT,JQ];done)
 ·refine sK<|xS<|sQ<|rG<|fA r r<|lO (v:=.sl (f1.Slots.map JP)) (z:=.agg [.int .i64 f1.Params,.sl (f1.Slots.map JP),.sl (f1.Code.map JM)]) r r r r r r<|lS r r<|JF (E:=fun (g : Nat × Nat)=>[(2,.clo 82 []),(3,.optr 1003 g.1 0 0),(4,.optr 1004 g.2 0 0),(24,.int .i64 (f1.Slots.length : Int))]) (O:=fun g=>[(1003,some (g.1,⟨false,true,3,27,[.agg [.int .i64 f1.Params,.sl (f1.Slots.map JP),.sl (f1.Code.map JM)]]⟩)),(1004,some (g.2,⟨false,true,1,30,[.agg [.sl (l2.Out.map (eL JJ))]]⟩))]) (_,_) ((Jx (fun g=>bif Nat.ble 4096 g then g + 20000 else g + 1000) (by rfl) (hE ⟨rfl,r,r,r,trivial⟩ ⟨rfl,r,trivial⟩)))<|?_
  rintro ⟨v1003x1,v1004x1⟩ nn
  try dsimp only
  refine JD (ES:=fun (s : (List (List Bool))) (g : Nat × Nat × Nat)=>[(2,.clo 82 []),(3,.optr 3 g.1 0 0),(4,.optr 4 g.2.1 0 0),(25,.osl 4697 g.2.2 0 s.length)]) (OS:=fun s g=>[(3,some (g.1,⟨false,true,3,27,[.agg [.int .i64 f1.Params,.sl (f1.Slots.map JP),.sl (f1.Code.map JM)]]⟩)),(4,some (g.2.1,⟨false,true,1,30,[.agg [.sl (l2.Out.map (eL JJ))]]⟩)),(4697,some (g.2.2,⟨false,false,1,81,s.map (eR 1 4 D.bool)⟩))]) (j:=fun s=>Ly f1 l2 s) (ds:=[.int .i64 (f1.Slots.length : Int)]) (caps:=[]) (E:=[(0,.int .i64 (f1.Slots.length : Int))]) r r r r r r r r ?_ ?_
  ·unfold AbA
   refine sQ<|rG<|aN (α:=(List Bool)) r (eL D.bool) r<|nI<|xS<|sQ<|rG<|mV r r<|cK fun hq=>Ry (α:=Bool) r r r hq r<|aO (l:=List.replicate (f1.Slots.length : Int).toNat ([] : (List Bool))) (en:=(fun _=>D.nils)) r r r r<|nI<|Ll (E:=[(0,.int .i64 (f1.Slots.length : Int)),(3,.osl 4099 _ 0 ((List.replicate (f1.Slots.length : Int).toNat ([] : (List Bool))).length))]) (O:=[(1003,some (v1003x1,⟨false,true,3,27,[.agg [.int .i64 f1.Params,.sl (f1.Slots.map JP),.sl (f1.Code.map JM)]]⟩)),(1004,some (v1004x1,⟨false,true,1,30,[.agg [.sl (l2.Out.map (eL JJ))]]⟩)),(4099,some (_,⟨false,false,1,81,(List.replicate (f1.Slots.length : Int).toNat ([] : (List Bool))).map (eR 1 4 D.bool)⟩))]) ((Jo (g:=3) (g2:=4099) r r r (Jv (l:=List.replicate (f1.Slots.length : Int).toNat ([] : (List Bool))) (s':=1) (ty':=4) D.bool (by decide) (fun _ h=>List.eq_of_mem_replicate h)) (hE ⟨rfl,r,trivial⟩ ⟨rfl,r,r,trivial⟩))) fun nn=>sQ<|sQ<|rG<|mV r r<|lW r r<|mV r r<|nI<|xS<|bK<|lP (E:=fun (s : (List (List Bool)) × Int) (g : Nat)=>[(0,.int .i64 (f1.Slots.length : Int)),(3,.osl 4099 g 0 s.1.length),(8,.int .i64 ((List.replicate (f1.Slots.length : Int).toNat ([] : (List Bool))).length : Int)),(9,.int .i64 s.2)]) (O:=fun s g=>[(1003,some (v1003x1,⟨false,true,3,27,[.agg [.int .i64 f1.Params,.sl (f1.Slots.map JP),.sl (f1.Code.map JM)]]⟩)),(1004,some (v1004x1,⟨false,true,1,30,[.agg [.sl (l2.Out.map (eL JJ))]]⟩)),(4099,some (g,⟨false,false,1,81,s.1.map (eR 1 4 D.bool)⟩))]) (body:=fun s=>Mw f1 l2 s.1 s.2) (s:=(List.replicate (f1.Slots.length : Int).toNat ([] : (List Bool)),0)) _ ((hE ⟨rfl,r,r,r,trivial⟩ ⟨rfl,r,r,trivial⟩))<|?_
   rintro ⟨m5,x6⟩ v4099x2 nn
   try dsimp only
   unfold Mw
   refine sQ<|rG<|bN (v:=.bool (decide (x6 < ((List.replicate (f1.Slots.length : Int).toNat ([] : (List Bool))).length : Int)))) r r r r r<|nI<|xS<|sQ<|cD (c:=(decide (x6 < ((List.replicate (f1.Slots.length : Int).toNat ([] : (List Bool))).length : Int)))) r ?_ ?_
   ·exact sK<|xS<|sQ<|bK<|sQ<|rG<|mV rfl rfl<|aS rfl rfl<|nI<|xS<|rG<|mV rfl rfl<|mV rfl rfl<|mV rfl rfl<|cK fun hq=>mS (q:=false) D.bool rfl rfl rfl rfl hq rfl<|cK fun hq=>iO (l:=m5) (en:=(eR 1 4 D.bool)) rfl rfl rfl rfl rfl hq<|bD fun o7 ho7=>Jm (l:=m5) (q:=o7) (q':=List.replicate (f1.Slots.length : Int).toNat false) D.bool rfl rfl rfl rfl (.inl rfl) ho7 rfl rfl ⟨⟨rfl,rfl,by simp,Js fun _=>rfl⟩,trivial,rfl⟩ (congrArg (fun z=>[D.row _ _ z]) (JS _ _ rfl)) rfl<|nI<|bM<|xS<|rG<|bN (v:=.int .i64 (IntKind.i64.wrap (x6 + 1))) rfl rfl rfl rfl rfl<|mV rfl rfl<|nI<|xL (s:=(m5.set x6.toNat (List.replicate (f1.Slots.length : Int).toNat false),IntKind.i64.wrap (x6 + 1))) _ ((hE ⟨rfl,(Rm (q:=m5.length) rfl (by simp)),r,r,trivial⟩ ⟨rfl,r,r,trivial⟩))
   ·exact eT<|xE<|lE<|bH<|xS<|sQ<|rG<|mV r r<|Ji r r r<|nI<|xS<|rT<|JA (d:=.osl 4099 _ 0 m5.length) (s:=m5) (_,_,_) r (by first | rfl | (simp [Jf,Jc,rdA,raw,strip,Jd,S.ge,S.go,look,Jj,cells,Je]; done)) r ((Jy (E1:=[(2,.clo 82 []),(3,.optr 1003 v1003x1 0 0),(4,.optr 1004 v1004x1 0 0),(25,.osl 4099 _ 0 m5.length)]) (O1:=[(1003,some (v1003x1,⟨false,true,3,27,[.agg [.int .i64 f1.Params,.sl (f1.Slots.map JP),.sl (f1.Code.map JM)]]⟩)),(1004,some (v1004x1,⟨false,true,1,30,[.agg [.sl (l2.Out.map (eL JJ))]]⟩)),(4099,some (_,⟨false,false,1,81,m5.map (eR 1 4 D.bool)⟩))]) (hE ⟨rfl,r,r,r,trivial⟩ ⟨rfl,r,r,trivial⟩) (fun _=>Jx (fun g=>bif Nat.ble 24096 g then g - 20000 else bif (Nat.ble 1000 g && Nat.blt g 4096) then g - 1000 else bif Nat.beq g 4099 then 4697 else g) (by rfl) (hE ⟨rfl,r,r,r,trivial⟩ ⟨rfl,r,r,trivial⟩))))
  ·rintro x4 ⟨v3x3,v4x3,v4697x3⟩ nn
   try dsimp only
   unfold Ly
   refine Ji r r r<|nI<|xS<|sQ<|sQ<|rG<|fA r r<|lO (v:=.sl (f1.Code.map JM)) (z:=.agg [.int .i64 f1.Params,.sl (f1.Slots.map JP),.sl (f1.Code.map JM)]) r r r r r r<|lS r r<|mV r r<|nI<|xS<|bK<|lP (E:=fun (s : (List (List Bool)) × Int) (g : Nat × Nat)=>[(2,.clo 82 []),(4,.optr 4 g.1 0 0),(9,.osl 4697 g.2 0 s.1.length),(27,.sl (f1.Code.map JM)),(28,.int .i64 (f1.Code.length : Int)),(29,.int .i64 s.2)]) (O:=fun s g=>[(4,some (g.1,⟨false,true,1,30,[.agg [.sl (l2.Out.map (eL JJ))]]⟩)),(4697,some (g.2,⟨false,false,1,81,s.1.map (eR 1 4 D.bool)⟩))]) (body:=fun s=>Mx f1 l2 s.1 s.2) (s:=(x4,0)) (_,_) ((hE ⟨rfl,r,r,r,r,r,trivial⟩ ⟨rfl,r,trivial⟩))<|?_
   rintro ⟨x8,x9⟩ ⟨v4x4,v4697x4⟩ nn
   try dsimp only
   unfold Mx
   refine sQ<|rG<|bN (v:=.bool (decide (x9 < (f1.Code.length : Int)))) r r r r r<|nI<|xS<|sQ<|cD (c:=(decide (x9 < (f1.Code.length : Int)))) r ?_ ?_
   ·refine sK<|xS<|sQ<|bK<|sQ<|rG<|mV r r<|bD fun x_x10 hx_x10=>iS (en:=JM) r r r hx_x10 r<|lF (v:=.agg [.int .i64 x_x10.Op,.int .i64 x_x10.A,.int .i64 x_x10.B,.int .i64 x_x10.C,.int .u64 x_x10.Imm]) r r r r<|nW r<|aS r r<|sV (z':=.agg [.int .i64 x_x10.Op,.int .i64 x_x10.A,.int .i64 x_x10.B,.int .i64 x_x10.C,.int .u64 x_x10.Imm]) r r r r r r r r r<|nI<|xS<|sQ<|rG<|lO (v:=.agg [.int .i64 x_x10.Op,.int .i64 x_x10.A,.int .i64 x_x10.B,.int .i64 x_x10.C,.int .u64 x_x10.Imm]) (z:=.agg [.int .i64 x_x10.Op,.int .i64 x_x10.A,.int .i64 x_x10.B,.int .i64 x_x10.C,.int .u64 x_x10.Imm]) r r r r r r<|bD fun r11 hr11=>cG x_x10 r r r Qf r r (by simp) r hr11 r<|mV r r<|eX (v:=.int .i64 r11.1) r r r<|eX (v:=.bool r11.2) r r r<|aS r r<|aS r r<|nI<|xS<|sC (E:=fun (s : Bool × Bool) (g : Nat × Nat × Nat)=>[(2,.clo 82 []),(4,.optr 4 g.1 0 0),(9,.osl 4697 g.2.2 0 x8.length),(10,.int .i64 x9),(11,.optr 11 g.2.1 0 0),(12,.int .i64 r11.1),(27,.sl (f1.Code.map JM)),(28,.int .i64 (f1.Code.length : Int)),(29,.int .i64 x9),(42,.optr 11 g.2.1 0 0),(43,.int .i64 x_x10.Op),(44,.bool (x_x10.Op == 17)),(45,.bool s.1),(51,.bool s.2)]) (O:=fun s g=>[(4,some (g.1,⟨false,true,1,30,[.agg [.sl (l2.Out.map (eL JJ))]]⟩)),(11,some (g.2.1,⟨false,true,5,66,[.agg [.int .i64 x_x10.Op,.int .i64 x_x10.A,.int .i64 x_x10.B,.int .i64 x_x10.C,.int .u64 x_x10.Imm]]⟩)),(4697,some (g.2.2,⟨false,false,1,81,x8.map (eR 1 4 D.bool)⟩))]) (j:=fun s=>Ld l2 x9 r11 x_x10 x8 s.1 s.2) ?_ ?_
    ·refine sQ<|rG<|mV r r<|uN (w:=.bool (!r11.2)) r r r r trivial<|mV r r<|sP 41 (b:=(!r11.2)) r ?_ ?_
     ·exact oF r<|oF r<|oF r<|oF r<|oF r<|oF r<|oF r<|oF r<|oF r<|oF r<|pT r r r r<|nI<|xS<|KT r<|eT<|Ma<|bH<|xS<|rG<|bN (v:=.int .i64 (IntKind.i64.wrap (x9 + 1))) r r r r r<|mV r r<|nI<|xL (s:=(x8,IntKind.i64.wrap (x9 + 1))) (_,_) ((hE ⟨rfl,r,r,r,r,r,trivial⟩ ⟨rfl,r,trivial⟩))
     ·refine fA r r<|lO (v:=.int .i64 x_x10.Op) (z:=.agg [.int .i64 x_x10.Op,.int .i64 x_x10.A,.int .i64 x_x10.B,.int .i64 x_x10.C,.int .u64 x_x10.Imm]) r r r r r r<|bN (v:=.bool (x_x10.Op == 17)) r r r r r<|mV r r<|sP 45 (b:=(x_x10.Op == 17)) r ?_ ?_
      ·refine fA r r<|lO (v:=.int .i64 x_x10.A) (z:=.agg [.int .i64 x_x10.Op,.int .i64 x_x10.A,.int .i64 x_x10.B,.int .i64 x_x10.C,.int .u64 x_x10.Imm]) r r r r r r<|fA r r<|lO (v:=.int .i64 x_x10.B) (z:=.agg [.int .i64 x_x10.Op,.int .i64 x_x10.A,.int .i64 x_x10.B,.int .i64 x_x10.C,.int .u64 x_x10.Imm]) r r r r r r<|bN (v:=.bool (x_x10.A == x_x10.B)) r r r r r<|pT r r r r<|pF r r r r<|nI<|xS<|cD (c:=(x_x10.A == x_x10.B)) r ?_ ?_
       ·exact eT<|Ma<|bH<|xS<|rG<|bN (v:=.int .i64 (IntKind.i64.wrap (x9 + 1))) r r r r r<|mV r r<|nI<|xL (s:=(x8,IntKind.i64.wrap (x9 + 1))) (_,_) ((hE ⟨rfl,r,r,r,r,r,trivial⟩ ⟨rfl,r,trivial⟩))
       ·exact sK<|xC (s:=(true,(x_x10.A == x_x10.B))) (_,_,_) ((hE ⟨rfl,r,r,r,r,r,r,r,r,r,r,r,r,r,trivial⟩ ⟨rfl,r,r,trivial⟩))
      ·exact oF r<|oF r<|oF r<|oF r<|oF r<|pF r r r r<|pF r r r r<|nI<|xS<|Lf r<|sK<|xC (s:=(false,false)) (_,_,_) ((hE ⟨rfl,r,r,r,r,r,r,r,r,r,r,r,r,r,trivial⟩ ⟨rfl,r,r,trivial⟩))
    ·rintro ⟨x12,x13⟩ ⟨v4x5,v11x5,v4697x5⟩ nn
     try dsimp only
     unfold Ld
     refine sQ<|rG<|fA r r<|lO (v:=.sl (l2.Out.map (eL JJ))) (z:=.agg [.sl (l2.Out.map (eL JJ))]) r r r r r r<|mV r r<|bD fun x_x14 hx_x14=>iS (en:=(eL JJ)) r r r hx_x14 r<|lF (v:=.sl (x_x14.map JJ)) r r r r<|lS r r<|mV r r<|nI<|xS<|bK<|lP (E:=fun (s : (List (List Bool)) × Int) (g : Nat × Nat × Nat)=>[(2,.clo 82 []),(4,.optr 4 g.1 0 0),(9,.osl 4697 g.2.2 0 s.1.length),(11,.optr 11 g.2.1 0 0),(12,.int .i64 r11.1),(27,.sl (f1.Code.map JM)),(28,.int .i64 (f1.Code.length : Int)),(29,.int .i64 x9),(42,.optr 11 g.2.1 0 0),(43,.int .i64 x_x10.Op),(44,.bool (x_x10.Op == 17)),(45,.bool x12),(51,.bool x13),(57,.sl (x_x14.map JJ)),(58,.int .i64 (x_x14.length : Int)),(59,.int .i64 s.2)]) (O:=fun s g=>[(4,some (g.1,⟨false,true,1,30,[.agg [.sl (l2.Out.map (eL JJ))]]⟩)),(11,some (g.2.1,⟨false,true,5,66,[.agg [.int .i64 x_x10.Op,.int .i64 x_x10.A,.int .i64 x_x10.B,.int .i64 x_x10.C,.int .u64 x_x10.Imm]]⟩)),(4697,some (g.2.2,⟨false,false,1,81,s.1.map (eR 1 4 D.bool)⟩))]) (body:=fun s=>My x_x14 r11 x_x10 x9 s.1 s.2) (s:=(x8,0)) (_,_,_) ((hE ⟨rfl,r,r,r,r,r,r,r,r,r,r,r,r,r,r,r,trivial⟩ ⟨rfl,r,r,trivial⟩))<|?_
     rintro ⟨x15,x16⟩ ⟨v4x6,v11x6,v4697x6⟩ nn
     try dsimp only
     unfold My
     refine sQ<|rG<|bN (v:=.bool (decide (x16 < (x_x14.length : Int)))) r r r r r<|nI<|xS<|sQ<|cD (c:=(decide (x16 < (x_x14.length : Int)))) r ?_ ?_
     ·refine sK<|xS<|sQ<|bK<|sQ<|rG<|bD fun x_x17 hx_x17=>iS (en:=JJ) r r r hx_x17 r<|lF (v:=.int .i64 x_x17) r r r r<|aS r r<|nI<|xS<|sC (E:=fun (s : Bool) (g : Nat × Nat × Nat)=>[(2,.clo 82 []),(4,.optr 4 g.1 0 0),(9,.osl 4697 g.2.2 0 x15.length),(11,.optr 11 g.2.1 0 0),(12,.int .i64 r11.1),(15,.int .i64 x_x17),(27,.sl (f1.Code.map JM)),(28,.int .i64 (f1.Code.length : Int)),(29,.int .i64 x9),(42,.optr 11 g.2.1 0 0),(43,.int .i64 x_x10.Op),(44,.bool (x_x10.Op == 17)),(45,.bool x12),(51,.bool x13),(57,.sl (x_x14.map JJ)),(58,.int .i64 (x_x14.length : Int)),(59,.int .i64 x16),(72,.bool s)]) (O:=fun s g=>[(4,some (g.1,⟨false,true,1,30,[.agg [.sl (l2.Out.map (eL JJ))]]⟩)),(11,some (g.2.1,⟨false,true,5,66,[.agg [.int .i64 x_x10.Op,.int .i64 x_x10.A,.int .i64 x_x10.B,.int .i64 x_x10.C,.int .u64 x_x10.Imm]]⟩)),(4697,some (g.2.2,⟨false,false,1,81,x15.map (eR 1 4 D.bool)⟩))]) (j:=fun s=>KC x15 r11 x_x17 x16 s) ?_ ?_
      ·refine rG<|mV r r<|mV r r<|bN (v:=.bool (x_x17 != r11.1)) r r r r r<|mV r r<|sP 66 (b:=(x_x17 != r11.1)) r ?_ ?_
       ·exact mV r r<|lO (v:=.agg [.int .i64 x_x10.Op,.int .i64 x_x10.A,.int .i64 x_x10.B,.int .i64 x_x10.C,.int .u64 x_x10.Imm]) (z:=.agg [.int .i64 x_x10.Op,.int .i64 x_x10.A,.int .i64 x_x10.B,.int .i64 x_x10.C,.int .u64 x_x10.Imm]) r r r r r r<|mV r r<|bD fun r19 hr19=>cG (x_x10,x_x17) r r r UA r r (by simp) r hr19 r<|uN (w:=.bool (!r19)) r r r r trivial<|pT r r r r<|nI<|xC (s:=(!r19)) (_,_,_) ((hE ⟨rfl,r,r,r,r,r,r,r,r,r,r,r,r,r,r,r,r,r,trivial⟩ ⟨rfl,r,r,trivial⟩))
       ·exact oF r<|oF r<|oF r<|oF r<|oF r<|pF r r r r<|nI<|xC (s:=false) (_,_,_) ((hE ⟨rfl,r,r,r,r,r,r,r,r,r,r,r,r,r,r,r,r,r,trivial⟩ ⟨rfl,r,r,trivial⟩))
      ·rintro x18 ⟨v4x7,v11x7,v4697x7⟩ nn
       try dsimp only
       unfold KC
       refine cD (c:=x18) r ?_ ?_
       ·exact JH fun row20 hrow20=>JH fun row21 hrow21=>JI fun hnrow20=>Jp (E:=[(2,.clo 82 []),(4,.optr 4 _ 0 0),(9,.osl 4697 _ 0 x15.length),(11,.optr 11 _ 0 0),(12,.int .i64 r11.1),(15,.int .i64 x_x17),(27,.sl (f1.Code.map JM)),(28,.int .i64 (f1.Code.length : Int)),(29,.int .i64 x9),(42,.optr 11 _ 0 0),(43,.int .i64 x_x10.Op),(44,.bool (x_x10.Op == 17)),(45,.bool x12),(51,.bool x13),(57,.sl (x_x14.map JJ)),(58,.int .i64 (x_x14.length : Int)),(59,.int .i64 x16)]) (O:=[(4,some (_,⟨false,true,1,30,[.agg [.sl (l2.Out.map (eL JJ))]]⟩)),(11,some (_,⟨false,true,5,66,[.agg [.int .i64 x_x10.Op,.int .i64 x_x10.A,.int .i64 x_x10.B,.int .i64 x_x10.C,.int .u64 x_x10.Imm]]⟩)),(4697,some (_,⟨false,false,1,81,((x15.map (eR 1 4 D.bool)).set r11.1.toNat (.hole 4718 _ row20.length)).set x_x17.toNat (.hole 4719 _ row21.length)⟩)),(4718,some (_,⟨false,false,1,4,row20.map D.bool⟩)),(4719,some (_,⟨false,false,1,4,row21.map D.bool⟩))]) (Jr (g:=4697) (i:=r11.1.toNat) (j:=x_x17.toNat) (t1:=622) (t2:=623) D.bool r hrow20 hrow21 hnrow20 (hE ⟨rfl,r,r,r,r,r,r,r,r,r,r,r,r,r,r,r,r,trivial⟩ ⟨rfl,r,r,r,r,trivial⟩)) fun nn=>mV r r<|mV r r<|cK fun hq=>Jk (by simp) r r r r (by simpa using hq)<|Jl (nm:=4718) (q:=row20.length) r r r (JB hrow20 hnrow20)<|mV r r<|mV r r<|mV r r<|cK fun hq=>Jk (by simp) r r r r (by simpa using hq)<|Jl (nm:=4719) (q:=row21.length) r r r (JC hrow21)<|mV r r<|cK fun hq=>iO (l:=row20) (en:=D.bool) r r r r r hq<|bD fun x_o22 hx_o22=>Jh (l:=row20) (en:=D.bool) (q:=x_o22) (q':=true) r r r r r hx_o22 r (fun _=>r) r r r ⟨trivial,trivial,r⟩<|cK fun hq=>iO (l:=row21) (en:=D.bool) r r r r r hq<|bD fun x_o23 hx_o23=>Jh (l:=row21) (en:=D.bool) (q:=x_o23) (q':=true) r r r r r hx_o23 r (fun _=>r) r r r ⟨trivial,trivial,r⟩<|Kf (by kernel_rfl)<|bM<|Ll (E:=[(2,.clo 82 []),(4,.optr 4 _ 0 0),(9,.osl 4697 _ 0 x15.length),(11,.optr 11 _ 0 0),(12,.int .i64 r11.1),(27,.sl (f1.Code.map JM)),(28,.int .i64 (f1.Code.length : Int)),(29,.int .i64 x9),(42,.optr 11 _ 0 0),(43,.int .i64 x_x10.Op),(44,.bool (x_x10.Op == 17)),(45,.bool x12),(51,.bool x13),(57,.sl (x_x14.map JJ)),(58,.int .i64 (x_x14.length : Int)),(59,.int .i64 x16)]) (O:=[(4,some (_,⟨false,true,1,30,[.agg [.sl (l2.Out.map (eL JJ))]]⟩)),(11,some (_,⟨false,true,5,66,[.agg [.int .i64 x_x10.Op,.int .i64 x_x10.A,.int .i64 x_x10.B,.int .i64 x_x10.C,.int .u64 x_x10.Imm]]⟩)),(4697,some (_,⟨false,false,1,81,((x15.set r11.1.toNat (row20.set x_x17.toNat true)).set x_x17.toNat (row21.set r11.1.toNat true)).map (eR 1 4 D.bool)⟩))]) ((Jn (g:=4697) (g1:=4718) (g2:=4719) (l:=x15) (en:=D.bool) (i:=r11.1.toNat) (j:=x_x17.toNat) (q1:=row20) (q2:=row21) (q1':=row20.set x_x17.toNat true) (q2':=row21.set r11.1.toNat true) hrow20 hrow21 hnrow20 r r r (by simp) (by simp) (fun _=>r) (hE ⟨rfl,r,(Rm (q:=x15.length) r (by simp)),r,r,r,r,r,r,r,r,r,r,r,r,r,trivial⟩ ⟨rfl,r,r,trivial⟩))) fun nn=>rG<|bN (v:=.int .i64 (IntKind.i64.wrap (x16 + 1))) r r r r r<|mV r r<|nI<|xL (s:=((x15.set r11.1.toNat (row20.set x_x17.toNat true)).set x_x17.toNat (row21.set r11.1.toNat true),IntKind.i64.wrap (x16 + 1))) (_,_,_) ((hE ⟨rfl,r,(Rm (q:=x15.length) r (by simp)),r,r,r,r,r,r,r,r,r,r,r,r,r,trivial⟩ ⟨rfl,r,r,trivial⟩))
       ·exact sK<|bM<|xS<|rG<|bN (v:=.int .i64 (IntKind.i64.wrap (x16 + 1))) r r r r r<|mV r r<|nI<|xL (s:=(x15,IntKind.i64.wrap (x16 + 1))) (_,_,_) ((hE ⟨rfl,r,r,r,r,r,r,r,r,r,r,r,r,r,r,r,trivial⟩ ⟨rfl,r,r,trivial⟩))
     ·exact eT<|xE<|lE<|bH<|bM<|xS<|rG<|bN (v:=.int .i64 (IntKind.i64.wrap (x9 + 1))) r r r r r<|mV r r<|nI<|xL (s:=(x15,IntKind.i64.wrap (x9 + 1))) (_,_) ((hE ⟨rfl,r,r,r,r,r,trivial⟩ ⟨rfl,r,trivial⟩))
   ·refine eT<|xE<|lE<|bH<|Ll (E:=[(9,.osl 4697 _ 0 x8.length)]) (O:=[(4697,some (_,⟨false,false,1,81,x8.map (eL D.bool)⟩))]) ((Jq (g:=4697) r (Jw (l:=x8) D.bool (fun _=>r)) (hE ⟨rfl,trivial⟩ ⟨rfl,trivial⟩))) fun nn=>sQ<|rG<|mV r r<|bD fun r24 hr24=>cV x8 r r r OU r r (by simp) (by first | rfl | (simp only [Kg,Kk]; rfl) | simp [LJ]) hr24<|aL r r<|aS r r<|nI<|xS<|rT<|LC (b:=(r24,0)) r ?_ r r ?_ r (by decide)
    all_goals first|(simp;done)|(simp;omega)|rfl|(simp [JT,JQ];done)

def AeY : Ka:=(.seq (.reg [P 2 (.box (T 0) 3 27),P 3 (.box (T 1) 1 30),⟨(some 4),(.asg (.c .nils) (some ⟨1,36⟩)),none,[]⟩,P 5 (.asg (C 0) none)] false) (.seq (.reg [P 6 (.ld 3 true (T 2)),P 7 (.ld 1 true (T 3)),P 8 (.call (.c (.clo 81 [])) [(T 6),(T 7),(.c (.clo 82 []))]),P 9 (.ext (T 8) 0),P 10 (.ext (T 8) 1),⟨(some 4),(.asg (T 9) (some ⟨1,36⟩)),none,[]⟩,P 5 (.asg (T 10) none)] false) .ret))
theorem AhM : (Tryd.f47.body.bind (Kb Tryd.prog Tryd.f47.ntmps)) = some AeY:=by kernel_rfl
theorem AhN : Tryd.f47.results.toList.mapM (Kn Tryd.prog) = some [(.t 4),(.t 5)]:=by kernel_rfl
def RO (a : JO × JR) : List D:=[Kv a.1,KJ a.2]
def RN (ds : List D) : JO × JR:=(LA (ds.getD 0 .top),MA (ds.getD 1 .top))
theorem Wp (a : JO × JR) : RN (RO a) = a:=by simp [RN,RO]
def Xq (b : (List (List Int)) × Int) : D:=.tup [.sl (b.1.map (eL JJ)),.int .i64 b.2]
def Xp (_b : (List (List Int)) × Int) : List D:=[]
noncomputable def Th : Dw.Spec:=JZ [] .val RO RN (fun a=>Oi a.1 a.2) Xq Xp
set_option maxHeartbeats 4000000 in
theorem Aay : JY Tryd.prog 47 Th:=by
 refine Ki (Ke (l:=[(340049,MR)]) (by simp [WJ])) Tryd.func47 (by decide) AhM AhN (np:=2) (by decide) Wp (fun _=>r) (fun _=>r) (by decide)<|?_
 rintro ⟨f1,l2⟩
 show TrE (specs [(340049,MR)]) AeY (Kp [] .val [(.t 4),(.t 5)] Xq Xp) ⟨[(0,.agg [.int .i64 f1.Params,.sl (f1.Slots.map JP),.sl (f1.Code.map JM)]),(1,.agg [.sl (l2.Out.map (eL JJ))])],[],262144⟩ (Oi f1 l2)
 refine Kc<|?_
 unfold AeY Oi
 refine sQ<|rG<|bX rfl rfl rfl rfl rfl<|bX rfl rfl rfl rfl rfl<|aN (α:=(List Int)) rfl (eL JJ) rfl<|aS rfl rfl<|nI<|xS<|sQ<|rG<|lO (v:=.agg [.int .i64 f1.Params,.sl (f1.Slots.map JP),.sl (f1.Code.map JM)]) (z:=.agg [.int .i64 f1.Params,.sl (f1.Slots.map JP),.sl (f1.Code.map JM)]) rfl rfl rfl rfl rfl rfl<|lO (v:=.agg [.sl (l2.Out.map (eL JJ))]) (z:=.agg [.sl (l2.Out.map (eL JJ))]) rfl rfl rfl rfl rfl rfl<|bD fun r3 hr3=>cV (f1,l2) rfl rfl (show _ = some MR from by kernel_rfl) Rc rfl rfl (by simp) r hr3<|eX (v:=.sl (r3.1.map (eL JJ))) r r r<|eX (v:=.int .i64 r3.2) r r r<|aL r r<|aS r r<|nI<|xS<|rT<|LC (b:=(r3.1,r3.2)) r ?_ r r ?_ r (by decide)
 all_goals first|(simp;done)|(simp;omega)|rfl|(simp [JT,JQ];done)

def AfJ : Ka:=(.seq (.reg [P 2 (.asg (.c (.bool false)) none)] false) (.seq (.seq (.reg [P 3 (.asg (C 0) none)] false) (.block 0 (.loop (.seq (.seq (.reg [M 4 3,M 5 0,P 6 (.len false (T 5)),P 7 (.bin .lss (T 4) (T 6))] false) (.cond (T 7) .skip (.exit 0))) (.seq (.block 1 (.seq (.reg [M 10 0,M 11 3,⟨(some 12),(.ixA 1 (T 10) (T 11)),none,[0,1]⟩,⟨(some 13),(.ld 1 false (T 12)),none,[2]⟩,⟨(some 14),(.call (.c (.clo 80 [])) [(T 13)]),none,[3]⟩,⟨(some 15),(.un .not (T 14)),none,[4]⟩,⟨(some 16),(.mv (T 15)),none,[5,4]⟩,⟨(some 17),(.mv (T 3)),(some ⟨16,false⟩),[6]⟩,⟨(some 18),(.bin .gtr (T 17) (C 0)),(some ⟨16,false⟩),[7,6]⟩,⟨(some 19),(.mv (T 18)),(some ⟨16,false⟩),[8,6,6]⟩,⟨(some 20),(.mv (T 0)),(some ⟨19,true⟩),[9]⟩,⟨(some 21),(.mv (T 3)),(some ⟨19,true⟩),[9]⟩,⟨(some 22),(.ixA 1 (T 20) (T 21)),(some ⟨19,true⟩),[10,11,9]⟩,⟨(some 23),(.ld 1 false (T 22)),(some ⟨19,true⟩),[12,9]⟩,⟨(some 24),(.mv (T 0)),(some ⟨19,true⟩),[9]⟩,⟨(some 25),(.mv (T 3)),(some ⟨19,true⟩),[9]⟩,⟨(some 26),(.bin .sub (T 25) (C 1)),(some ⟨19,true⟩),[15,9]⟩,⟨(some 27),(.ixA 1 (T 24) (T 26)),(some ⟨19,true⟩),[14,16,9]⟩,⟨(some 28),(.ld 1 false (T 27)),(some ⟨19,true⟩),[17,9]⟩,⟨(some 29),(.bin .leq (T 23) (T 28)),(some ⟨19,true⟩),[13,18,9]⟩,⟨(some 30),(.pick (T 19) (T 29) (.c (.bool false))),(some ⟨16,false⟩),[9,19,6]⟩,⟨(some 31),(.pick (T 16) (.c (.bool true)) (T 30)),none,[6,20]⟩] true) (.cond (T 31) (.seq (.reg [P 2 (.asg (.c (.bool false)) none)] false) .ret) .skip))) (.reg [M 8 3,P 9 (.bin .add (T 8) (C 1)),P 3 (.asg (T 9) none)] false)))))) (.seq (.reg [P 2 (.asg (.c (.bool true)) none)] false) .ret)))
theorem Aji : (Tryd.f93.body.bind (Kb Tryd.prog Tryd.f93.ntmps)) = some AfJ:=by kernel_rfl
theorem Ajj : Tryd.f93.results.toList.mapM (Kn Tryd.prog) = some [(.t 2)]:=by kernel_rfl
def UK (a : (List Int)) : List D:=[.sl (a.map JJ)]
def UJ (ds : List D) : (List Int):=(uL uI) (ds.getD 0 .top)
theorem Zi (a : (List Int)) : UJ (UK a) = a:=by simp [UJ,UK,Lw (u:=uI) (en:=JJ) (fun _=>rfl)]
def ZR (b : Bool) : D:=.bool b
def ZQ (_b : Bool) : List D:=[]
noncomputable def WN : Dw.Spec:=JZ [] .ground UK UJ (fun a=>Rn a) ZR ZQ
set_option maxHeartbeats 4000000 in
theorem AbU : JY Tryd.prog 93 WN:=by
 refine Ki (Ke (l:=[(80,Sy)]) (by simp [ZX])) Tryd.func93 (by decide) Aji Ajj (np:=1) (by decide) Zi (fun _=>r) (fun _=>r) (by decide)<|?_
 intro s1
 show TrE (specs [(80,Sy)]) AfJ (Kp [] .ground [(.t 2)] ZR ZQ) ⟨[(0,.sl (s1.map JJ))],[],262144⟩ (Rn s1)
 refine Kc<|?_
 unfold AfJ Rn
 refine sQ<|rG<|aS r r<|nI<|xS<|sQ<|sQ<|rG<|aS r r<|nI<|xS<|bK<|lP (E:=fun (s : Int) (g : Unit)=>[(0,.sl (s1.map JJ)),(3,.int .i64 s)]) (O:=fun s g=>[]) (body:=fun s=>MP s1 s) (s:=0) () ((hE ⟨rfl,r,trivial⟩ trivial))<|?_
 rintro i2 ⟨⟩ nn
 try dsimp only
 unfold MP
 refine sQ<|sQ<|rG<|mV r r<|mV r r<|lS r r<|bN (v:=.bool (decide (i2 < (s1.length : Int)))) r r r r r<|nI<|xS<|cD (c:=(decide (i2 < (s1.length : Int)))) r ?_ ?_
 ·refine sK<|xS<|sQ<|bK<|sQ<|rG<|mV r r<|mV r r<|bD fun x_x3 hx_x3=>iS (en:=JJ) r r r hx_x3 r<|lF (v:=.int .i64 x_x3) r r r r<|bD fun r4 hr4=>cG x_x3 r r r WS r r (by simp) r hr4 r<|uN (w:=.bool (!r4)) r r r r trivial<|mV r r<|sP 16 (b:=(!r4)) r ?_ ?_
  ·refine oF r<|oF r<|oF r<|oF r<|oF r<|oF r<|oF r<|oF r<|oF r<|oF r<|oF r<|oF r<|oF r<|oF r<|pT r r r r<|Kf (by kernel_rfl)<|xS<|KT r<|sQ<|rG<|aS r r<|nI<|xS<|rT<|bR<|xR<|lR<|bR<|xR<|JX (b:=false) r ?_ r r ?_ r
   all_goals first|(simp;done)|(simp;omega)|rfl|(simp [JT,JQ];done)
  ·refine mV r r<|bN (v:=.bool (decide (i2 > 0))) r r r r r<|mV r r<|sP 19 (b:=(decide (i2 > 0))) r ?_ ?_
   ·refine mV r r<|mV r r<|bD fun x_x5 hx_x5=>iS (en:=JJ) r r r hx_x5 r<|lF (v:=.int .i64 x_x5) r r r r<|mV r r<|mV r r<|bN (v:=.int .i64 (IntKind.i64.wrap (i2 - 1))) r r r r r<|bD fun x_x6 hx_x6=>iS (en:=JJ) r r r hx_x6 r<|lF (v:=.int .i64 x_x6) r r r r<|bN (v:=.bool (decide (x_x5 ≤ x_x6))) r r r r r<|pT r r r r<|pF r r r r<|Kf (by kernel_rfl)<|xS<|cD (c:=(decide (x_x5 ≤ x_x6))) r ?_ ?_
    ·refine sQ<|rG<|aS r r<|nI<|xS<|rT<|bR<|xR<|lR<|bR<|xR<|JX (b:=false) r ?_ r r ?_ r
     all_goals first|(simp;done)|(simp;omega)|rfl|(simp [JT,JQ];done)
    ·exact sK<|bM<|xS<|rG<|mV r r<|bN (v:=.int .i64 (IntKind.i64.wrap (i2 + 1))) r r r r r<|aS r r<|nI<|xL (s:=IntKind.i64.wrap (i2 + 1)) () ((hE ⟨rfl,r,trivial⟩ trivial))
   ·exact oF r<|oF r<|oF r<|oF r<|oF r<|oF r<|oF r<|oF r<|oF r<|oF r<|pF r r r r<|pF r r r r<|Kf (by kernel_rfl)<|xS<|Lf r<|sK<|bM<|xS<|rG<|mV r r<|bN (v:=.int .i64 (IntKind.i64.wrap (i2 + 1))) r r r r r<|aS r r<|nI<|xL (s:=IntKind.i64.wrap (i2 + 1)) () ((hE ⟨rfl,r,trivial⟩ trivial))
 ·refine eT<|xE<|lE<|bH<|xS<|sQ<|rG<|aS r r<|nI<|xS<|rT<|JX (b:=true) r ?_ r r ?_ r
  all_goals first|(simp;done)|(simp;omega)|rfl|(simp [JT,JQ];done)

def Afk : Ka:=(.seq (.reg [P 2 (.box (T 0) 3 27),P 3 (.box (T 1) 1 30),P 4 (.asg (.c (.bool false)) none)] false) (.seq (.seq (.reg [P 7 (.fldA 0 (T 3)),P 8 (.ld 1 false (T 7)),P 9 (.len false (T 8)),P 10 (.fldA 2 (T 2)),P 11 (.ld 1 false (T 10)),P 12 (.len false (T 11)),P 13 (.bin .neq (T 9) (T 12))] false) (.cond (T 13) (.seq (.reg [P 4 (.asg (.c (.bool false)) none)] false) .ret) .skip)) (.seq (.seq (.reg [P 5 (.asg (C 0) none)] false) (.block 0 (.loop (.seq (.seq (.reg [M 14 5,P 15 (.fldA 0 (T 3)),P 16 (.ld 1 false (T 15)),P 17 (.len false (T 16)),P 18 (.bin .lss (T 14) (T 17))] false) (.cond (T 18) .skip (.exit 0))) (.seq (.block 1 (.seq (.seq (.reg [P 21 (.fldA 0 (T 3)),P 22 (.ld 1 false (T 21)),M 23 5,P 24 (.ixA 1 (T 22) (T 23)),P 25 (.ld 1 false (T 24)),P 26 (.call (.c (.clo 93 [])) [(T 25)]),P 27 (.un .not (T 26))] false) (.cond (T 27) (.seq (.reg [P 4 (.asg (.c (.bool false)) none)] false) .ret) .skip)) (.seq (.reg [P 28 (.fldA 0 (T 3)),P 29 (.ld 1 false (T 28)),M 30 5,P 31 (.ixA 1 (T 29) (T 30)),P 32 (.ld 1 false (T 31)),P 33 (.len false (T 32)),P 6 (.asg (T 33) none)] false) (.seq (.reg [M 34 6,⟨(some 35),(.bin .gtr (T 34) (C 0)),none,[0]⟩,⟨(some 36),(.mv (T 35)),none,[1]⟩,⟨(some 37),(.fldA 0 (T 3)),(some ⟨36,true⟩),[2]⟩,⟨(some 38),(.ld 1 false (T 37)),(some ⟨36,true⟩),[3,2]⟩,⟨(some 39),(.mv (T 5)),(some ⟨36,true⟩),[2]⟩,⟨(some 40),(.ixA 1 (T 38) (T 39)),(some ⟨36,true⟩),[4,5,2]⟩,⟨(some 41),(.ld 1 false (T 40)),(some ⟨36,true⟩),[6,2]⟩,⟨(some 42),(.mv (T 6)),(some ⟨36,true⟩),[2]⟩,⟨(some 43),(.bin .sub (T 42) (C 1)),(some ⟨36,true⟩),[8,2]⟩,⟨(some 44),(.ixA 1 (T 41) (T 43)),(some ⟨36,true⟩),[7,9,2]⟩,⟨(some 45),(.ld 1 false (T 44)),(some ⟨36,true⟩),[10,2]⟩,⟨(some 46),(.fldA 1 (T 2)),(some ⟨36,true⟩),[2]⟩,⟨(some 47),(.ld 1 false (T 46)),(some ⟨36,true⟩),[12,2]⟩,⟨(some 48),(.len false (T 47)),(some ⟨36,true⟩),[13,2]⟩,⟨(some 49),(.bin .geq (T 45) (T 48)),(some ⟨36,true⟩),[11,14,2]⟩,⟨(some 50),(.pick (T 36) (T 49) (.c (.bool false))),none,[2,15]⟩] true) (.cond (T 50) (.seq (.reg [P 4 (.asg (.c (.bool false)) none)] false) .ret) .skip))))) (.reg [M 19 5,P 20 (.bin .add (T 19) (C 1)),P 5 (.asg (T 20) none)] false)))))) (.seq (.reg [P 4 (.asg (.c (.bool true)) none)] false) .ret))))
theorem Aik : (Tryd.f64.body.bind (Kb Tryd.prog Tryd.f64.ntmps)) = some Afk:=by kernel_rfl
theorem Ail : Tryd.f64.results.toList.mapM (Kn Tryd.prog) = some [(.t 4)]:=by kernel_rfl
def UY (a : JO × JR) : List D:=[Kv a.1,KJ a.2]
def UX (ds : List D) : JO × JR:=(LA (ds.getD 0 .top),MA (ds.getD 1 .top))
theorem VL (a : JO × JR) : UX (UY a) = a:=by simp [UX,UY]
def Aai (b : Bool) : D:=.bool b
def Aah (_b : Bool) : List D:=[]
noncomputable def Rf : Dw.Spec:=JZ [] .ground UY UX (fun a=>PV a.1 a.2) Aai Aah
set_option maxHeartbeats 4000000 in
theorem Zp : JY Tryd.prog 64 Rf:=by
 refine Ki (Ke (l:=[(93,WN)]) (by simp [AbU])) Tryd.func64 (by decide) Aik Ail (np:=2) (by decide) VL (fun _=>r) (fun _=>r) (by decide)<|?_
 rintro ⟨f1,l2⟩
 show TrE (specs [(93,WN)]) Afk (Kp [] .ground [(.t 4)] Aai Aah) ⟨[(0,.agg [.int .i64 f1.Params,.sl (f1.Slots.map JP),.sl (f1.Code.map JM)]),(1,.agg [.sl (l2.Out.map (eL JJ))])],[],262144⟩ (PV f1 l2)
 refine Kc<|?_
 unfold Afk PV
 refine sQ<|rG<|bX r r r r r<|bX r r r r r<|aS r r<|nI<|xS<|sQ<|sQ<|rG<|fA r r<|lO (v:=.sl (l2.Out.map (eL JJ))) (z:=.agg [.sl (l2.Out.map (eL JJ))]) r r r r r r<|lS r r<|fA r r<|lO (v:=.sl (f1.Code.map JM)) (z:=.agg [.int .i64 f1.Params,.sl (f1.Slots.map JP),.sl (f1.Code.map JM)]) r r r r r r<|lS r r<|bN (v:=.bool ((l2.Out.length : Int) != (f1.Code.length : Int))) r r r r r<|nI<|xS<|cD (c:=((l2.Out.length : Int) != (f1.Code.length : Int))) r ?_ ?_
 ·refine sQ<|rG<|aS r r<|nI<|xS<|rT<|xR<|JX (b:=false) r ?_ r r ?_ r
  all_goals first|(simp;done)|(simp;omega)|rfl|(simp [JT,JQ];done)
 ·refine sK<|xS<|sQ<|sQ<|rG<|aS r r<|nI<|xS<|bK<|lP (E:=fun (s : Int) (g : Nat × Nat)=>[(2,.optr 2 g.1 0 0),(3,.optr 3 g.2 0 0),(5,.int .i64 s)]) (O:=fun s g=>[(2,some (g.1,⟨false,true,3,27,[.agg [.int .i64 f1.Params,.sl (f1.Slots.map JP),.sl (f1.Code.map JM)]]⟩)),(3,some (g.2,⟨false,true,1,30,[.agg [.sl (l2.Out.map (eL JJ))]]⟩))]) (body:=fun s=>SM l2 f1 s) (s:=0) (_,_) ((hE ⟨rfl,r,r,trivial⟩ ⟨rfl,r,trivial⟩))<|?_
  rintro k3 ⟨v2x1,v3x1⟩ nn
  try dsimp only
  unfold SM
  refine sQ<|sQ<|rG<|mV r r<|fA r r<|lO (v:=.sl (l2.Out.map (eL JJ))) (z:=.agg [.sl (l2.Out.map (eL JJ))]) r r r r r r<|lS r r<|bN (v:=.bool (decide (k3 < (l2.Out.length : Int)))) r r r r r<|nI<|xS<|cD (c:=(decide (k3 < (l2.Out.length : Int)))) r ?_ ?_
  ·refine sK<|xS<|sQ<|bK<|sQ<|sQ<|rG<|fA r r<|lO (v:=.sl (l2.Out.map (eL JJ))) (z:=.agg [.sl (l2.Out.map (eL JJ))]) r r r r r r<|mV r r<|bD fun x_x4 hx_x4=>iS (en:=(eL JJ)) r r r hx_x4 r<|lF (v:=.sl (x_x4.map JJ)) r r r r<|bD fun r5 hr5=>cG x_x4 r r r Zi r r (by simp) r hr5 r<|uN (w:=.bool (!r5)) r r r r trivial<|nI<|xS<|cD (c:=(!r5)) r ?_ ?_
   ·refine sQ<|rG<|aS r r<|nI<|xS<|rT<|xR<|bR<|xR<|lR<|bR<|xR<|JX (b:=false) r ?_ r r ?_ r
    all_goals first|(simp;done)|(simp;omega)|rfl|(simp [JT,JQ];done)
   ·refine sK<|xS<|sQ<|rG<|fA r r<|lO (v:=.sl (l2.Out.map (eL JJ))) (z:=.agg [.sl (l2.Out.map (eL JJ))]) r r r r r r<|mV r r<|bD fun x_x6 hx_x6=>iS (en:=(eL JJ)) r r r hx_x6 r<|lF (v:=.sl (x_x6.map JJ)) r r r r<|lS r r<|aS r r<|nI<|xS<|sQ<|rG<|mV r r<|bN (v:=.bool (decide ((x_x6.length : Int) > 0))) r r r r r<|mV r r<|sP 36 (b:=(decide ((x_x6.length : Int) > 0))) r ?_ ?_
    ·refine fA r r<|lO (v:=.sl (l2.Out.map (eL JJ))) (z:=.agg [.sl (l2.Out.map (eL JJ))]) r r r r r r<|mV r r<|bD fun x_x7 hx_x7=>iS (en:=(eL JJ)) r r r hx_x7 r<|lF (v:=.sl (x_x7.map JJ)) r r r r<|mV r r<|bN (v:=.int .i64 (IntKind.i64.wrap ((x_x6.length : Int) - 1))) r r r r r<|bD fun x_x8 hx_x8=>iS (en:=JJ) r r r hx_x8 r<|lF (v:=.int .i64 x_x8) r r r r<|fA r r<|lO (v:=.sl (f1.Slots.map JP)) (z:=.agg [.int .i64 f1.Params,.sl (f1.Slots.map JP),.sl (f1.Code.map JM)]) r r r r r r<|lS r r<|bN (v:=.bool (decide (x_x8 ≥ (f1.Slots.length : Int)))) r r r r r<|pT r r r r<|Kf (by kernel_rfl)<|xS<|cD (c:=(decide (x_x8 ≥ (f1.Slots.length : Int)))) r ?_ ?_
     ·refine sQ<|rG<|aS r r<|nI<|xS<|rT<|bR<|xR<|lR<|bR<|xR<|JX (b:=false) r ?_ r r ?_ r
      all_goals first|(simp;done)|(simp;omega)|rfl|(simp [JT,JQ];done)
     ·exact sK<|bM<|xS<|rG<|mV r r<|bN (v:=.int .i64 (IntKind.i64.wrap (k3 + 1))) r r r r r<|aS r r<|nI<|xL (s:=IntKind.i64.wrap (k3 + 1)) (_,_) ((hE ⟨rfl,r,r,trivial⟩ ⟨rfl,r,trivial⟩))
    ·exact oF r<|oF r<|oF r<|oF r<|oF r<|oF r<|oF r<|oF r<|oF r<|oF r<|oF r<|oF r<|oF r<|pF r r r r<|Kf (by kernel_rfl)<|xS<|Lf r<|sK<|bM<|xS<|rG<|mV r r<|bN (v:=.int .i64 (IntKind.i64.wrap (k3 + 1))) r r r r r<|aS r r<|nI<|xL (s:=IntKind.i64.wrap (k3 + 1)) (_,_) ((hE ⟨rfl,r,r,trivial⟩ ⟨rfl,r,trivial⟩))
  ·refine eT<|xE<|lE<|bH<|xS<|sQ<|rG<|aS r r<|nI<|xS<|rT<|JX (b:=true) r ?_ r r ?_ r
   all_goals first|(simp;done)|(simp;omega)|rfl|(simp [JT,JQ];done)

def AeJ : Ka:=(.seq (.reg [P 4 (.asg (.c (.bool false)) none)] false) (.seq (.seq (.reg [P 5 (.asg (C 0) none)] false) (.block 0 (.loop (.seq (.seq (.reg [M 6 5,M 7 0,P 8 (.len false (T 7)),P 9 (.bin .lss (T 6) (T 8))] false) (.cond (T 9) .skip (.exit 0))) (.seq (.block 1 (.seq (.reg [M 12 0,M 13 5,P 14 (.ixA 1 (T 12) (T 13)),P 15 (.ld 1 false (T 14)),M 16 1,P 17 (.bin .eql (T 15) (T 16))] false) (.cond (T 17) (.seq (.reg [P 4 (.asg (.c (.bool true)) none)] false) .ret) .skip))) (.reg [M 10 5,P 11 (.bin .add (T 10) (C 1)),P 5 (.asg (T 11) none)] false)))))) (.seq (.reg [P 4 (.asg (.c (.bool false)) none)] false) .ret)))
theorem Ahi : (Tryd.f18.body.bind (Kb Tryd.prog Tryd.f18.ntmps)) = some AeJ:=by kernel_rfl
theorem Ahj : Tryd.f18.results.toList.mapM (Kn Tryd.prog) = some [(.t 4)]:=by kernel_rfl
def WQ (a : (List Int) × Int) : List D:=[.sl (a.1.map JJ),.int .i64 a.2]
def WO (ds : List D) : (List Int) × Int:=((uL uI) (ds.getD 0 .top),uI (ds.getD 1 .top))
theorem AaC (a : (List Int) × Int) : WO (WQ a) = a:=by simp [WO,WQ,uI,Lw (u:=uI) (en:=JJ) (fun _=>rfl)]
def Abp (b : Bool) : D:=.bool b
def Abo (_b : Bool) : List D:=[]
noncomputable def YT : Dw.Spec:=JZ [] .ground WQ WO (fun a=>Uk a.1 a.2) Abp Abo
set_option maxHeartbeats 4000000 in
theorem AcY : JY Tryd.prog 18 YT:=by
 refine Ki (KI) Tryd.func18 (by decide) Ahi Ahj (np:=2) (by decide) AaC (fun _=>r) (fun _=>r) (by decide)<|?_
 rintro ⟨s1,n2⟩
 show TrE (specs []) AeJ (Kp [] .ground [(.t 4)] Abp Abo) ⟨[(0,.sl (s1.map JJ)),(1,.int .i64 n2)],[],262144⟩ (Uk s1 n2)
 refine Kc<|?_
 unfold AeJ Uk
 refine sQ<|rG<|aS r r<|nI<|xS<|sQ<|sQ<|rG<|aS r r<|nI<|xS<|bK<|lP (E:=fun (s : Int) (g : Unit)=>[(0,.sl (s1.map JJ)),(1,.int .i64 n2),(5,.int .i64 s)]) (O:=fun s g=>[]) (body:=fun s=>Qt s1 n2 s) (s:=0) () ((hE ⟨rfl,r,r,trivial⟩ trivial))<|?_
 rintro i3 ⟨⟩ nn
 try dsimp only
 unfold Qt
 refine sQ<|sQ<|rG<|mV r r<|mV r r<|lS r r<|bN (v:=.bool (decide (i3 < (s1.length : Int)))) r r r r r<|nI<|xS<|cD (c:=(decide (i3 < (s1.length : Int)))) r ?_ ?_
 ·refine sK<|xS<|sQ<|bK<|sQ<|rG<|mV r r<|mV r r<|bD fun x_x4 hx_x4=>iS (en:=JJ) r r r hx_x4 r<|lF (v:=.int .i64 x_x4) r r r r<|mV r r<|bN (v:=.bool (x_x4 == n2)) r r r r r<|nI<|xS<|cD (c:=(x_x4 == n2)) r ?_ ?_
  ·refine sQ<|rG<|aS r r<|nI<|xS<|rT<|bR<|xR<|lR<|bR<|xR<|JX (b:=true) r ?_ r r ?_ r
   all_goals first|(simp;done)|(simp;omega)|rfl|(simp [JT,JQ];done)
  ·exact sK<|bM<|xS<|rG<|mV r r<|bN (v:=.int .i64 (IntKind.i64.wrap (i3 + 1))) r r r r r<|aS r r<|nI<|xL (s:=IntKind.i64.wrap (i3 + 1)) () ((hE ⟨rfl,r,r,trivial⟩ trivial))
 ·refine eT<|xE<|lE<|bH<|xS<|sQ<|rG<|aS r r<|nI<|xS<|rT<|JX (b:=false) r ?_ r r ?_ r
  all_goals first|(simp;done)|(simp;omega)|rfl|(simp [JT,JQ];done)

def Afl : Ka:=(.seq (.reg [⟨(some 4),(.asg (.c .nils) (some ⟨1,3⟩)),none,[]⟩] false) (.seq (.reg [⟨(some 5),(.asg (.c .nils) (some ⟨1,3⟩)),none,[]⟩] false) (.seq (.seq (.reg [P 6 (.asg (C 0) none)] false) (.block 0 (.loop (.seq (.seq (.reg [M 7 6,M 8 0,P 9 (.len false (T 8)),P 10 (.bin .lss (T 7) (T 9))] false) (.cond (T 10) .skip (.exit 0))) (.seq (.block 1 (.seq (.reg [M 13 1,M 14 0,M 15 6,P 16 (.ixA 1 (T 14) (T 15)),P 17 (.ld 1 false (T 16)),P 18 (.call (.c (.clo 18 [])) [(T 13),(T 17)]),P 19 (.un .not (T 18))] false) (.cond (T 19) (.reg [M 20 5,M 21 0,M 22 6,P 23 (.ixA 1 (T 21) (T 22)),P 24 (.ld 1 false (T 23)),⟨(some 25),(.bldS 1 3 (.int .i64 0) 1 [⟨0,(T 24)⟩]),none,[]⟩,P 26 (.app 1 3 8 (T 20) (T 25)),⟨(some 5),(.asg (T 26) (some ⟨1,3⟩)),none,[]⟩] false) .skip))) (.reg [M 11 6,P 12 (.bin .add (T 11) (C 1)),P 6 (.asg (T 12) none)] false)))))) (.seq (.reg [M 27 5,⟨(some 4),(.asg (T 27) (some ⟨1,3⟩)),none,[]⟩] false) .ret))))
theorem Aim : (Tryd.f65.body.bind (Kb Tryd.prog Tryd.f65.ntmps)) = some Afl:=by kernel_rfl
theorem Ain : Tryd.f65.results.toList.mapM (Kn Tryd.prog) = some [(.t 4)]:=by kernel_rfl
def RZ (a : (List Int) × (List Int)) : List D:=[.sl (a.1.map JJ),.sl (a.2.map JJ)]
def UL (ds : List D) : (List Int) × (List Int):=((uL uI) (ds.getD 0 .top),(uL uI) (ds.getD 1 .top))
theorem Zj (a : (List Int) × (List Int)) : UL (RZ a) = a:=by simp [UL,RZ,Lw (u:=uI) (en:=JJ) (fun _=>rfl)]
def ZT (b : (List Int)) : D:=.sl (b.map JJ)
def ZS (_b : (List Int)) : List D:=[]
noncomputable def WR : Dw.Spec:=JZ [] (.row 1 3) RZ UL (fun a=>Ro a.1 a.2) ZT ZS
set_option maxHeartbeats 4000000 in
theorem AbV : JY Tryd.prog 65 WR:=by
 refine Ki (Ke (l:=[(18,YT)]) (by simp [AcY])) Tryd.func65 (by decide) Aim Ain (np:=2) (by decide) Zj (fun _=>r) (fun _=>r) (by decide)<|?_
 rintro ⟨a1,b2⟩
 show TrE (specs [(18,YT)]) Afl (Kp [] (.row 1 3) [(.t 4)] ZT ZS) ⟨[(0,.sl (a1.map JJ)),(1,.sl (b2.map JJ))],[],262144⟩ (Ro a1 b2)
 refine Kc<|?_
 unfold Afl Ro
 refine sQ<|rG<|aN (α:=Int) r JJ r<|nI<|xS<|sQ<|rG<|aN (α:=Int) r JJ r<|nI<|xS<|sQ<|sQ<|rG<|aS r r<|nI<|xS<|bK<|lP (E:=fun (s : (List Int) × Int) (g : Nat)=>[(0,.sl (a1.map JJ)),(1,.sl (b2.map JJ)),(5,.osl 5 g 0 s.1.length),(6,.int .i64 s.2)]) (O:=fun s g=>[(5,some (g,⟨false,false,1,3,s.1.map JJ⟩))]) (body:=fun s=>NG a1 b2 s.1 s.2) (s:=(([] : List Int),0)) _ ((hE ⟨rfl,r,r,r,trivial⟩ ⟨rfl,trivial⟩))<|?_
 rintro ⟨out3,i4⟩ v5x1 nn
 try dsimp only
 unfold NG
 refine sQ<|sQ<|rG<|mV r r<|mV r r<|lS r r<|bN (v:=.bool (decide (i4 < (a1.length : Int)))) r r r r r<|nI<|xS<|cD (c:=(decide (i4 < (a1.length : Int)))) r ?_ ?_
 ·refine sK<|xS<|sQ<|bK<|sQ<|rG<|mV r r<|mV r r<|mV r r<|bD fun x_x5 hx_x5=>iS (en:=JJ) r r r hx_x5 r<|lF (v:=.int .i64 x_x5) r r r r<|bD fun r6 hr6=>cG (b2,x_x5) r r r AaC r r (by simp) r hr6 r<|uN (w:=.bool (!r6)) r r r r trivial<|nI<|xS<|cD (c:=(!r6)) r ?_ ?_
  ·exact rG<|mV r r<|mV r r<|mV r r<|bD fun x_x7 hx_x7=>iS (en:=JJ) r r r hx_x7 r<|lF (v:=.int .i64 x_x7) r r r r<|bS ([x_x7] : List Int) JJ r r r (by simp) r r r<|cK fun hq=>aP (out3) (([x_x7] : List Int)) JJ r r r r r r r (by simp) (Ko _ _ r) r r (by simp) (JS _ _ r) (fun _=>r) r hq<|aO (l:=out3 ++ ([x_x7] : List Int)) (en:=JJ) r r r r<|nI<|bM<|xS<|rG<|mV r r<|bN (v:=.int .i64 (IntKind.i64.wrap (i4 + 1))) r r r r r<|aS r r<|nI<|xL (s:=(out3 ++ ([x_x7] : List Int),IntKind.i64.wrap (i4 + 1))) _ ((hE ⟨rfl,r,r,r,trivial⟩ ⟨rfl,trivial⟩))
  ·exact sK<|bM<|xS<|rG<|mV r r<|bN (v:=.int .i64 (IntKind.i64.wrap (i4 + 1))) r r r r r<|aS r r<|nI<|xL (s:=(out3,IntKind.i64.wrap (i4 + 1))) _ ((hE ⟨rfl,r,r,r,trivial⟩ ⟨rfl,trivial⟩))
 ·refine eT<|xE<|lE<|bH<|xS<|sQ<|rG<|mV r r<|aO (l:=out3) (en:=JJ) r r r r<|nI<|xS<|rT<|Kt (b:=out3) r ?_ r r ?_ r ?_ (congrArg D.sl (JS _ _ r)) r
  all_goals first|(simp;done)|(simp;omega)|rfl|(simp [JT,JQ];done)

end Go.Proofs.YtcelninhkmhjkaaDoor
