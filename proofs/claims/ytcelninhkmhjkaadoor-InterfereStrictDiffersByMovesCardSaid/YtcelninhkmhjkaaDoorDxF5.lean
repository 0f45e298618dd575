/-
  Programs on typed data, and the proofs that the code does what they say; written by a program (dx.py).
-/
import Derived.Test.YtcelninhkmhjkaaDoorProg
import Derived.Test.YtcelninhkmhjkaaDoorDc
import Derived.KernelRfl
import Derived.Test.YtcelninhkmhjkaaDoorDxP
import Derived.Test.YtcelninhkmhjkaaDoorDxF4
namespace Go.Proofs.YtcelninhkmhjkaaDoor
open Go Go.Dw Go.Proofs
set_option maxRecDepth 100000
open Go.Dw renaming Yl → mV,WB → bN,QO → lO,Vg → bD,WE → cK,WH → nI,WK → xS,Yn → rG,Yp → sQ,Rg → aO,WA → aS,WI → oF,WC → bL,Xv → bS,Qo → cV,Om → cG,Qn → cR,QP → sV,SB → iS,Tf → iO,SC → lS,Tg → lW,Vh → fA,YC → fF,ZC → eX,Zv → nC,TB → lF,TQ → sP,Po → pT,OL → pF,Ym → uN,WG → nW,WD → bX,Rf → aN,YB → aL,JG → mS,WL → cD,Vj → bK,Yo → rT,WO → sK,WM → eT,WJ → xC,Vi → xL,Ri → xR,Sq → lR,TK → hE,Pp → lE,Qq → bH,OM → bM,Rh → bR,Qr → xE,Xw → cP,WN → lP,SD → sC,Acb → mF,rf → r
def Aek : Kb:=(.seq (.reg [P 4 (.asg (.c (.int .u64 0)) none)] false) (.seq (.reg [M 5 0,M 6 1,P 7 (.bin .andNot (T 5) (T 6)),P 4 (.asg (T 7) none)] false) .ret))
theorem AhE : (Tryd.f99.body.bind (Kc Tryd.prog Tryd.f99.ntmps)) = some Aek:=by kernel_rfl
theorem AhF : Tryd.f99.results.toList.mapM (Kp Tryd.prog) = some [(.t 4)]:=by kernel_rfl
def RR (a : Int × Int) : List D:=[.int .u64 a.1,.int .u64 a.2]
def RQ (ds : List D) : Int × Int:=(uI (ds.getD 0 .top),uI (ds.getD 1 .top))
theorem VT (a : Int × Int) : RQ (RR a) = a:=by simp [RQ,RR,uI]
def WS (b : Int) : D:=.int .u64 b
def WR (_b : Int) : List D:=[]
noncomputable def Tp : Dw.Spec:=Ka [] .ground RR RQ (fun a=>OI a.1 a.2) WS WR
set_option maxHeartbeats 4000000 in
theorem ZE : JX Tryd.prog 99 Tp:=by
 refine Kl (KM) Tryd.func99 (by decide) AhE AhF (np:=2) (by decide) VT (fun _=>r) (fun _=>r) (by decide)<|?_
 rintro ⟨x1,y2⟩
 show TrE (specs []) Aek (Kr [] .ground [(.t 4)] WS WR) ⟨[(0,.int .u64 x1),(1,.int .u64 y2)],[],262144⟩ (OI x1 y2)
 refine Kd<|?_
 unfold Aek OI
 refine sQ<|rG<|aS r r<|nI<|xS<|sQ<|rG<|mV r r<|mV r r<|bN (v:=.int .u64 (IntKind.u64.wrap ((BitVec.ofInt IntKind.u64.bits x1 &&& ~~~ BitVec.ofInt IntKind.u64.bits y2).toNat))) r r r r r<|aS r r<|nI<|xS<|rT<|JZ (b:=IntKind.u64.wrap ((BitVec.ofInt IntKind.u64.bits x1 &&& ~~~ BitVec.ofInt IntKind.u64.bits y2).toNat)) r ?_ r r ?_ r
 all_goals first|(simp;done)|(simp;omega)|rfl|(simp [JU,JQ];done)

def MR (a : JM × JM) : List D:=[Kt a.1,Kt a.2,.clo 99 []]
def MQ (ds : List D) : JM × JM:=(LZ (ds.getD 0 .top),LZ (ds.getD 1 .top))
theorem Pq (a : JM × JM) : MQ (MR a) = a:=by simp [MQ,MR]
def PR (b : JM × JM × JM) : D:=Kt b.1
def PQ (b : JM × JM × JM) : List D:=[Kt b.2.1,Kt b.2.2]
noncomputable def LQ : Dw.Spec:=Ka [(0,(8,122)),(1,(8,122))] (.ptr 8 122) MR MQ (fun a=>Ld a.1 a.2) PR PQ
set_option maxHeartbeats 4000000 in
theorem TY : JX Tryd.prog 96 LQ:=by
 refine Kl (Kg (l:=[(99,Tp)]) (by simp [ZE])) Tryd.func96 (by decide) AcO AcP (np:=3) (by decide) Pq (fun _=>r) (fun _=>r) (by decide)<|?_
 rintro ⟨s1,t2⟩
 show TrE (specs [(99,Tp)]) Abq (Kr [(0,(8,122)),(1,(8,122))] (.ptr 8 122) [(.t 6)] PR PQ) ⟨[(0,.optr 8192 0 0 0),(1,.optr 8193 1 0 0),(2,.clo 99 [])],[(8192,some (0,⟨false,true,8,122,[.agg [.int .u64 s1.a0,.int .u64 s1.a1,.int .u64 s1.a2,.int .u64 s1.a3,.int .u64 s1.a4,.int .u64 s1.a5,.int .u64 s1.a6,.int .u64 s1.a7]]⟩)),(8193,some (1,⟨false,true,8,122,[.agg [.int .u64 t2.a0,.int .u64 t2.a1,.int .u64 t2.a2,.int .u64 t2.a3,.int .u64 t2.a4,.int .u64 t2.a5,.int .u64 t2.a6,.int .u64 t2.a7]]⟩))],262144⟩ (Ld s1 t2)
 refine Kd<|?_
 unfold Abq Ld
 refine sQ<|rG<|aS r r<|nI<|xS<|sQ<|rG<|bL (cs:=[.int .u64 0,.int .u64 0,.int .u64 0,.int .u64 0,.int .u64 0,.int .u64 0,.int .u64 0,.int .u64 0]) (ps:=[]) r r r r<|bX r r r r r<|aS r r<|nI<|xS<|sQ<|sQ<|rG<|mV r r<|nI<|xS<|bK<|lP (E:=fun (s : JM × Int) (g : Nat)=>[(0,.optr 8192 0 0 0),(1,.optr 8193 1 0 0),(2,.clo 99 []),(7,.optr 10 g 0 0),(11,.int .i64 s.2)]) (O:=fun s g=>[(10,some (g,⟨false,true,8,122,[.agg [.int .u64 s.1.a0,.int .u64 s.1.a1,.int .u64 s.1.a2,.int .u64 s.1.a3,.int .u64 s.1.a4,.int .u64 s.1.a5,.int .u64 s.1.a6,.int .u64 s.1.a7]]⟩)),(8192,some (0,⟨false,true,8,122,[.agg [.int .u64 s1.a0,.int .u64 s1.a1,.int .u64 s1.a2,.int .u64 s1.a3,.int .u64 s1.a4,.int .u64 s1.a5,.int .u64 s1.a6,.int .u64 s1.a7]]⟩)),(8193,some (1,⟨false,true,8,122,[.agg [.int .u64 t2.a0,.int .u64 t2.a1,.int .u64 t2.a2,.int .u64 t2.a3,.int .u64 t2.a4,.int .u64 t2.a5,.int .u64 t2.a6,.int .u64 t2.a7]]⟩))]) (body:=fun s=>Ll s1 t2 s.1 s.2) (s:=((JM.mk 0 0 0 0 0 0 0 0),0)) _ ((hE ⟨rfl,r,r,r,r,trivial⟩ ⟨rfl,r,r,trivial⟩))<|?_
 rintro ⟨x3,x4⟩ v10x1 nn
 try dsimp only
 unfold Ll
 refine sQ<|rG<|bN (v:=.bool (decide (x4 < 8))) r r r r r<|nI<|xS<|sQ<|cD (c:=(decide (x4 < 8))) r ?_ ?_
 ·exact sK<|xS<|sQ<|bK<|sQ<|rG<|mV r r<|aS r r<|nI<|xS<|rG<|mV r r<|mV r r<|mV r r<|mV r r<|mV r r<|nC r r r<|cK fun hq=>Qp r r r hq<|bD fun s_e5 hs_e5=>QN (q:=s_e5) (l:=s1.toList) (en:=Tw) (j:=x4.toNat) (by simp) r r r hs_e5 r (fun _=>r)<|mV r r<|mV r r<|nC r r r<|cK fun hq=>Qp r r r hq<|bD fun t_e6 ht_e6=>QN (q:=t_e6) (l:=t2.toList) (en:=Tw) (j:=x4.toNat) (by simp) r r r ht_e6 r (fun _=>r)<|bD fun r7 hr7=>cG (s_e5,t_e6) r r r VT r r (by simp) r hr7 r<|nC r r r<|cK fun hq=>Qp r r r hq<|bD fun x_o8 hx_o8=>Aas (q:=x_o8) (q':=r7) (l:=x3.toList) (en:=Tw) (j:=x4.toNat) (z':=.agg [.int .u64 ((x3.set x4.toNat r7).a0),.int .u64 ((x3.set x4.toNat r7).a1),.int .u64 ((x3.set x4.toNat r7).a2),.int .u64 ((x3.set x4.toNat r7).a3),.int .u64 ((x3.set x4.toNat r7).a4),.int .u64 ((x3.set x4.toNat r7).a5),.int .u64 ((x3.set x4.toNat r7).a6),.int .u64 ((x3.set x4.toNat r7).a7)]) (by simp) r r r r r hx_o8 r r (congrArg (fun l=>D.agg (l.map Tw)) (Me x3 x4.toNat r7).symm)<|Ki (by kernel_rfl)<|bM<|xS<|rG<|bN (v:=.int .i64 (IntKind.i64.wrap (x4 + 1))) r r r r r<|mV r r<|nI<|xL (s:=((x3.set x4.toNat r7),IntKind.i64.wrap (x4 + 1))) _ ((hE ⟨rfl,r,r,r,r,trivial⟩ ⟨rfl,r,r,trivial⟩))
 ·refine eT<|xE<|lE<|bH<|xS<|sQ<|rG<|mV r r<|aS r r<|nI<|xS<|rT<|ZA (b:=(x3,s1,t2)) r ?_ r ?_ r r ?_ r
  all_goals first|(simp;done)|(simp;omega)|rfl|(simp [JU,JQ];done)

def AdP : Kb:=(.seq (.reg [⟨(some 4),(.asg (.c .nils) (some ⟨1,3⟩)),none,[]⟩] false) (.seq (.reg [M 5 0,P 6 (.call (.c (.clo 95 [])) [(T 5)]),M 7 1,P 8 (.call (.c (.clo 95 [])) [(T 7)]),P 9 (.call (.c (.clo 96 [])) [(T 6),(T 8),(.c (.clo 99 []))]),P 10 (.call (.c (.clo 98 [])) [(T 9)]),⟨(some 4),(.asg (T 10) (some ⟨1,3⟩)),none,[]⟩] false) .ret))
theorem AgO : (Tryd.f70.body.bind (Kc Tryd.prog Tryd.f70.ntmps)) = some AdP:=by kernel_rfl
theorem AgP : Tryd.f70.results.toList.mapM (Kp Tryd.prog) = some [(.t 4)]:=by kernel_rfl
def Ts (a : (List Int) × (List Int)) : List D:=[.sl (a.1.map JK),.sl (a.2.map JK)]
def Tq (ds : List D) : (List Int) × (List Int):=((uL uI) (ds.getD 0 .top),(uL uI) (ds.getD 1 .top))
theorem Xz (a : (List Int) × (List Int)) : Tq (Ts a) = a:=by simp [Tq,Ts,LH (u:=uI) (en:=JK) (fun _=>rfl)]
def UI (b : (List Int)) : D:=.sl (b.map JK)
def XZ (_b : (List Int)) : List D:=[]
noncomputable def UJ : Dw.Spec:=Ka [] .val Ts Tq (fun a=>ON a.1 a.2) UI XZ
set_option maxHeartbeats 4000000 in
theorem Aah : JX Tryd.prog 70 UJ:=by
 refine Kl (Kg (l:=[(95,LI),(409696,LQ),(98,KO)]) (by simp [Qz,TY,NL])) Tryd.func70 (by decide) AgO AgP (np:=2) (by decide) Xz (fun _=>r) (fun _=>r) (by decide)<|?_
 rintro ⟨a1,b2⟩
 show TrE (specs [(95,LI),(409696,LQ),(98,KO)]) AdP (Kr [] .val [(.t 4)] UI XZ) ⟨[(0,.sl (a1.map JK)),(1,.sl (b2.map JK))],[],262144⟩ (ON a1 b2)
 refine Kd<|?_
 unfold AdP ON
 refine sQ<|rG<|aN (α:=Int) r JK r<|nI<|xS<|sQ<|rG<|mV r r<|bD fun r3 hr3=>cP a1 r r r MC r r (by simp) r hr3<|mV r r<|bD fun r4 hr4=>cP b2 r r r MC r r (by simp) rfl hr4<|bD fun r5 hr5=>cP (r3,r4) rfl rfl (show _ = some LQ from by kernel_rfl) Pq rfl rfl (by simp) r hr5<|bD fun r6 hr6=>cR (l:=r6.1) (en:=JK) r5.1 r r r Mu r r (by simp) r hr6 r<|aO (l:=r6.1) (en:=JK) r r r r<|nI<|xS<|rT<|KC (b:=r6.1) r ?_ r r ?_ (by first | rfl | (simp only [Kh,Km]; rfl) | simp [UI])
 all_goals first|(simp;done)|(simp;omega)|rfl|(simp [JU,JQ];done)

def AdN : Kb:=(.seq (.reg [P 5 (.asg (.c (.bool false)) none)] false) (.seq (.reg [P 6 (.ld 1 false (T 1)),M 7 0,P 8 (.fldA 0 (T 2)),⟨(some 9),(.ld 1 false (T 8)),none,[2]⟩,P 10 (.ld 1 false (T 3)),⟨(some 11),(.ixA 1 (T 9) (T 10)),none,[3,4]⟩,⟨(some 12),(.ld 1 false (T 11)),none,[5]⟩,⟨(some 13),(.call (.c (.clo 70 [])) [(T 7),(T 12)]),none,[1,6]⟩,⟨(some 14),(.call (.c (.clo 69 [])) [(T 6),(T 13)]),none,[0,7,7]⟩,⟨none,(.st 1 (T 1) (T 14)),none,[8,8,0,1,2,3,4,5,6,7,8]⟩] true) (.seq (.reg [P 5 (.asg (.c (.bool true)) none)] false) .ret)))
theorem AgK : (Tryd.f68.body.bind (Kc Tryd.prog Tryd.f68.ntmps)) = some AdN:=by kernel_rfl
theorem AgL : Tryd.f68.results.toList.mapM (Kp Tryd.prog) = some [(.t 5)]:=by kernel_rfl
def Nn (a : (List Int) × (List Int) × JV × Int) : List D:=[.sl (a.1.map JK),.sl (a.2.1.map JK),.fptr (Lt a.2.2.1) 0,.fptr (.int .i64 a.2.2.2) 0]
def Nm (ds : List D) : (List Int) × (List Int) × JV × Int:=((uL uI) (ds.getD 0 .top),(uL uI) (ds.getD 1 .top),PE (fpD (ds.getD 2 .top)),uI (fpD (ds.getD 3 .top)))
theorem Qg (a : (List Int) × (List Int) × JV × Int) : Nm (Nn a) = a:=by simp [Nm,Nn,uI,fpD,LH (u:=uI) (en:=JK) (fun _=>rfl)]
def Qw (b : Bool × (List Int)) : D:=.bool b.1
def Qv (b : Bool × (List Int)) : List D:=[.sl (b.2.map JK)]
noncomputable def NS : Dw.Spec:=Ka [(1,(1,36))] .val Nn Nm (fun a=>LK a.1 a.2.1 a.2.2.1 a.2.2.2) Qw Qv
set_option maxHeartbeats 4000000 in
theorem UP : JX Tryd.prog 68 NS:=by
 refine Kl (Kg (l:=[(70,UJ),(69,PY)]) (by simp [Aah,XB])) Tryd.func68 (by decide) AgK AgL (np:=4) (by decide) Qg (fun _=>r) (fun _=>r) (by decide)<|?_
 rintro ⟨need1,cap2,cap3,cap4⟩
 show TrE (specs [(70,UJ),(69,PY)]) AdN (Kr [(1,(1,36))] .val [(.t 5)] Qw Qv) ⟨[(0,.sl (need1.map JK)),(1,.optr 8193 1 0 0),(2,.fptr (.agg [.sl (cap3.Out.map (eL JK))]) 0),(3,.fptr (.int .i64 cap4) 0)],[(8193,some (1,⟨false,true,1,36,[.sl (cap2.map JK)]⟩))],262144⟩ (LK need1 cap2 cap3 cap4)
 refine Kd<|?_
 unfold AdN LK
 refine sQ<|rG<|aS r r<|nI<|xS<|sQ<|rG<|lO (v:=.sl (cap2.map JK)) (z:=.sl (cap2.map JK)) r r r r r r<|mV r r<|fF r r<|lF (v:=.sl (cap3.Out.map (eL JK))) r r r r<|lF (v:=.int .i64 cap4) r r r r<|bD fun x_x5 hx_x5=>iS (en:=(eL JK)) r r r hx_x5 r<|lF (v:=.sl (x_x5.map JK)) r r r r<|bD fun r6 hr6=>cV (need1,x_x5) r r r Xz r r (by simp) r hr6<|bD fun r7 hr7=>cV (cap2,r6) r r r RK r r (by simp) r hr7<|Ti (i:=0) (es':=[.sl (r7.map JK)]) r r r r r r r (by first | trivial | (simp; done) | (simp; omega)) r r r r r r<|Ki (by kernel_rfl)<|xS<|sQ<|rG<|aS r r<|nI<|xS<|rT<|KC (b:=(true,r7)) r ?_ r r ?_ r
 all_goals first|(simp;done)|(simp;omega)|rfl|(simp [JU,JQ];done)

def AdL : Kb:=(.seq (.reg [P 4 (.box (T 0) 3 27),P 8 (.asg (.c (.bool false)) none)] false) (.seq (.seq (.reg [P 11 (.ld 3 true (T 4)),M 12 1,P 13 (.call (.c (.clo 88 [])) [(T 11),(T 12)]),P 14 (.len false (T 13)),P 15 (.mv (C 0))] false) (.block 0 (.loop (.seq (.reg [P 16 (.bin .lss (T 15) (T 14))] false) (.seq (.cond (T 16) .skip (.exit 0)) (.seq (.block 1 (.seq (.reg [P 17 (.ixA 1 (T 13) (T 15)),P 18 (.ld 1 false (T 17)),P 10 (.asg (T 18) none)] false) (.seq (.reg [M 19 3,P 20 (.fldA 2 (T 4)),⟨(some 21),(.ld 1 false (T 20)),none,[1]⟩,M 22 10,⟨(some 23),(.ixA 5 (T 21) (T 22)),none,[2,3]⟩,⟨(some 24),(.ld 5 true (T 23)),none,[4]⟩,M 25 2,M 26 10,⟨(some 27),(.call (T 25) [(T 26)]),none,[6,7]⟩,⟨(some 28),(.call (.c (.clo 74 [])) [(T 24),(T 27)]),none,[5,8,8]⟩,⟨(some 29),(.call (T 19) [(T 28)]),none,[0,9,9]⟩,⟨(some 30),(.un .not (T 29)),none,[10]⟩] true) (.cond (T 30) (.seq (.reg [P 8 (.asg (.c (.bool false)) none)] false) .ret) .skip)))) (.reg [P 31 (.bin .add (T 15) (C 1)),M 15 31] false))))))) (.seq (.reg [P 8 (.asg (.c (.bool true)) none)] false) .ret)))
theorem AgG : (Tryd.f66.body.bind (Kc Tryd.prog Tryd.f66.ntmps)) = some AdL:=by kernel_rfl
theorem AgH : Tryd.f66.results.toList.mapM (Kp Tryd.prog) = some [(.t 8)]:=by kernel_rfl
def Li (a : JO × Int × JV × (List Int) × JV × Int) : List D:=[Kv a.1,.int .i64 a.2.1,.clo 94 [.fptr (Lt a.2.2.1) 0],.clo 68 [.sl (a.2.2.2.1.map JK),.fptr (Lt a.2.2.2.2.1) 0,.fptr (.int .i64 a.2.2.2.2.2) 0]]
def LM (ds : List D) : JO × Int × JV × (List Int) × JV × Int:=(MP (ds.getD 0 .top),uI (ds.getD 1 .top),PE (fpD (Yt (ds.getD 2 .top) 0)),(uL uI) (Yt (ds.getD 3 .top) 0),PE (fpD (Yt (ds.getD 3 .top) 1)),uI (fpD (Yt (ds.getD 3 .top) 2)))
theorem NT (a : JO × Int × JV × (List Int) × JV × Int) : LM (Li a) = a:=by simp [LM,Li,uI,fpD,Yt,LH (u:=uI) (en:=JK) (fun _=>rfl)]
def Oi (b : Bool × (List Int)) : D:=.bool b.1
def Oh (b : Bool × (List Int)) : List D:=[.sl (b.2.map JK)]
noncomputable def Lp : Dw.Spec:=Ka [(256,(1,36))] .val Li LM (fun a=>KG a.1 a.2.1 a.2.2.1 a.2.2.2.1 a.2.2.2.2.1 a.2.2.2.2.2) Oi Oh
set_option maxHeartbeats 4000000 in
theorem Sh : JX Tryd.prog 66 Lp:=by
 refine Kl (Kg (l:=[(88,XR),(94,Qi),(74,XQ),(68,NS)]) (by simp [Abt,XS,Abs,UP])) Tryd.func66 (by decide) AgG AgH (np:=4) (by decide) NT (fun _=>r) (fun _=>r) (by decide)<|?_
 rintro ⟨f1,k2,set3,visit4,visit5,visit6⟩
 show TrE (specs [(88,XR),(94,Qi),(74,XQ),(68,NS)]) AdL (Kr [(256,(1,36))] .val [(.t 8)] Oi Oh) ⟨[(0,.agg [.int .i64 f1.Params,.sl (f1.Slots.map JP),.sl (f1.Code.map JN)]),(1,.int .i64 k2),(2,.clo 94 [.fptr (.agg [.sl (set3.Out.map (eL JK))]) 0]),(3,.clo 68 [.optr 8448 256 0 0,.fptr (.agg [.sl (visit5.Out.map (eL JK))]) 0,.fptr (.int .i64 visit6) 0])],[(8448,some (256,⟨false,true,1,36,[.sl (visit4.map JK)]⟩))],262144⟩ (KG f1 k2 set3 visit4 visit5 visit6)
 refine Kd<|?_
 unfold AdL KG
 refine sQ<|rG<|bX r r r r r<|aS r r<|nI<|xS<|sQ<|sQ<|rG<|lO (v:=.agg [.int .i64 f1.Params,.sl (f1.Slots.map JP),.sl (f1.Code.map JN)]) (z:=.agg [.int .i64 f1.Params,.sl (f1.Slots.map JP),.sl (f1.Code.map JN)]) r r r r r r<|mV r r<|bD fun r7 hr7=>cR (l:=r7) (en:=JK) (f1,k2) r r r Zf r r (by simp) r hr7 r<|lW r r<|mV r r<|nI<|xS<|bK<|lP (E:=fun (s : (List Int) × Int) (g : Nat × Nat)=>[(2,.clo 94 [.fptr (.agg [.sl (set3.Out.map (eL JK))]) 0]),(3,.clo 68 [.optr 8448 256 0 0,.fptr (.agg [.sl (visit5.Out.map (eL JK))]) 0,.fptr (.int .i64 visit6) 0]),(4,.optr 4 g.1 0 0),(13,.osl 13 g.2 0 r7.length),(14,.int .i64 (r7.length : Int)),(15,.int .i64 s.2)]) (O:=fun s g=>[(4,some (g.1,⟨false,true,3,27,[.agg [.int .i64 f1.Params,.sl (f1.Slots.map JP),.sl (f1.Code.map JN)]]⟩)),(13,some (g.2,⟨false,false,1,3,r7.map JK⟩)),(8448,some (256,⟨false,true,1,36,[.sl (s.1.map JK)]⟩))]) (body:=fun s=>Kw r7 f1 set3 visit5 visit6 s.1 s.2) (s:=(visit4,0)) (_,_) ((hE ⟨rfl,r,r,r,r,r,trivial⟩ ⟨rfl,r,r,trivial⟩))<|?_
 rintro ⟨x8,x9⟩ ⟨v4x1,v13x1⟩ nn
 try dsimp only
 unfold Kw
 refine sQ<|rG<|bN (v:=.bool (decide (x9 < (r7.length : Int)))) r r r r r<|nI<|xS<|sQ<|cD (c:=(decide (x9 < (r7.length : Int)))) r ?_ ?_
 ·refine sK<|xS<|sQ<|bK<|sQ<|rG<|cK fun hq=>iO (l:=r7) (en:=JK) r r r r r hq<|bD fun x_e10 hx_e10=>lO (v:=.int .i64 x_e10) (z:=JK x_e10) r r r (Mt hx_e10) r r<|aS r r<|nI<|xS<|sQ<|rG<|mV r r<|fA r r<|lO (v:=.sl (f1.Code.map JN)) (z:=.agg [.int .i64 f1.Params,.sl (f1.Slots.map JP),.sl (f1.Code.map JN)]) r r r r r r<|mV r r<|bD fun x_x11 hx_x11=>iS (en:=JN) r r r hx_x11 r<|lF (v:=.agg [.int .i64 x_x11.Op,.int .i64 x_x11.A,.int .i64 x_x11.B,.int .i64 x_x11.C,.int .u64 x_x11.Imm]) r r r r<|mV r r<|mV r r<|bD fun r12 hr12=>cV (x_e10,set3) r r r Td r r (by simp) r hr12<|bD fun r13 hr13=>cV (x_x11,r12) r r r Ze r r (by simp) r hr13<|bD fun r14 hr14=>cV (r13,x8,visit5,visit6) r r r Qg r r (by simp) r hr14<|uN (w:=.bool (!r14.1)) r r r r trivial<|Ki (by kernel_rfl)<|xS<|cD (c:=(!r14.1)) r ?_ ?_
  ·refine sQ<|rG<|aS r r<|nI<|xS<|rT<|bR<|xR<|lR<|bR<|xR<|KC (b:=(false,r14.2)) r ?_ r r ?_ r
   all_goals first|(simp;done)|(simp;omega)|rfl|(simp [JU,JQ];done)
  ·exact sK<|bM<|xS<|rG<|bN (v:=.int .i64 (IntKind.i64.wrap (x9 + 1))) r r r r r<|mV r r<|nI<|xL (s:=(r14.2,IntKind.i64.wrap (x9 + 1))) (_,_) ((hE ⟨rfl,r,r,r,r,r,trivial⟩ ⟨rfl,r,r,trivial⟩))
 ·refine eT<|xE<|lE<|bH<|xS<|sQ<|rG<|aS r r<|nI<|xS<|rT<|KC (b:=(true,x8)) r ?_ r r ?_ r
  all_goals first|(simp;done)|(simp;omega)|rfl|(simp [JU,JQ];done)

def Adt : Kb:=(.seq (.reg [P 2 (.box (T 0) 3 27),P 3 (.box (T 1) 1 30),P 4 (.asg (C 0) none),P 5 (.asg (C 0) none),P 6 (.asg (.c (.bool false)) none)] false) (.seq (.seq (.reg [P 9 (.ld 3 true (T 2)),P 10 (.ld 1 true (T 3)),P 11 (.call (.c (.clo 63 [])) [(T 9),(T 10)]),P 12 (.un .not (T 11))] false) (.cond (T 12) (.seq (.reg [P 4 (.asg (C 0) none),P 5 (.asg (C 0) none),P 6 (.asg (.c (.bool false)) none)] false) .ret) .skip)) (.seq (.seq (.reg [P 13 (.fldA 2 (T 2)),P 14 (.ld 1 false (T 13)),P 15 (.len false (T 14)),P 16 (.mv (C 0))] false) (.block 0 (.loop (.seq (.reg [P 17 (.bin .lss (T 16) (T 15))] false) (.seq (.cond (T 17) .skip (.exit 0)) (.seq (.block 1 (.seq (.reg [M 18 16,P 7 (.new (.int .i64 0) 1 3),⟨none,(.st 1 (T 7) (T 18)),none,[]⟩] false) (.seq (.reg [P 8 (.new .nils 1 36)] false) (.seq (.reg [P 19 (.ld 3 true (T 2)),P 20 (.ld 1 false (T 7)),P 21 (.ld 1 true (T 3)),⟨(some 22),(.call (.c (.clo 67 [])) [(T 21)]),none,[2]⟩,P 23 (.mkf 68 [(T 8),(T 3),(T 7)]),⟨(some 24),(.call (.c (.clo 66 [])) [(T 19),(T 20),(T 22),(T 23)]),none,[0,1,3,4,3]⟩] true) (.seq (.reg [P 25 (.ld 1 false (T 8)),P 26 (.len false (T 25)),P 27 (.bin .gtr (T 26) (C 0))] false) (.cond (T 27) (.seq (.reg [P 28 (.ld 1 false (T 7)),P 29 (.ld 1 false (T 8)),⟨(some 30),(.ixA 1 (T 29) (C 0)),none,[1]⟩,⟨(some 31),(.ld 1 false (T 30)),none,[2]⟩,⟨(some 4),(.asg (T 28) none),none,[0,0]⟩,⟨(some 5),(.asg (T 31) none),none,[3,4,0,1,2,3,4]⟩,⟨(some 6),(.asg (.c (.bool true)) none),none,[5,0,1,2,3,4,5]⟩] true) .ret) .skip)))))) (.reg [P 32 (.bin .add (T 16) (C 1)),M 16 32] false))))))) (.seq (.reg [P 4 (.asg (C 0) none),P 5 (.asg (C 0) none),P 6 (.asg (.c (.bool false)) none)] false) .ret))))
theorem AfW : (Tryd.f30.body.bind (Kc Tryd.prog Tryd.f30.ntmps)) = some Adt:=by kernel_rfl
theorem AfX : Tryd.f30.results.toList.mapM (Kp Tryd.prog) = some [(.t 4),(.t 5),(.t 6)]:=by kernel_rfl
def RG (a : JO × JV) : List D:=[Kv a.1,Lt a.2]
def RF (ds : List D) : JO × JV:=(MP (ds.getD 0 .top),PE (ds.getD 1 .top))
theorem VB (a : JO × JV) : RF (RG a) = a:=by simp [RF,RG]
def Wq (b : Int × Int × Bool) : D:=.tup [.int .i64 b.1,.int .i64 b.2.1,.bool b.2.2]
def Wp (_b : Int × Int × Bool) : List D:=[]
noncomputable def SV : Dw.Spec:=Ka [] .ground RG RF (fun a=>Og a.1 a.2) Wq Wp
set_option maxHeartbeats 4000000 in
theorem Zh : JX Tryd.prog 30 SV:=by
 refine Kl (Kg (l:=[(63,NU),(67,Tx),(1158017090,Lp)]) (by simp [UE,ZH,Sh])) Tryd.func30 (by decide) AfW AfX (np:=2) (by decide) VB (fun _=>r) (fun _=>r) (by decide)<|?_
 rintro ⟨f1,l2⟩
 show TrE (specs [(63,NU),(67,Tx),(1158017090,Lp)]) Adt (Kr [] .ground [(.t 4),(.t 5),(.t 6)] Wq Wp) ⟨[(0,.agg [.int .i64 f1.Params,.sl (f1.Slots.map JP),.sl (f1.Code.map JN)]),(1,.agg [.sl (l2.Out.map (eL JK))])],[],262144⟩ (Og f1 l2)
 refine Kd<|?_
 unfold Adt Og
 refine sQ<|rG<|bX r r r r r<|bX r r r r r<|aS r r<|aS r r<|aS r r<|nI<|Lu (E:=[(2,.optr 2 _ 0 0),(3,.fptr (.agg [.sl (l2.Out.map (eL JK))]) 0)]) (O:=[(2,some (_,⟨false,true,3,27,[.agg [.int .i64 f1.Params,.sl (f1.Slots.map JP),.sl (f1.Code.map JN)]]⟩))]) ((Yx (g:=3) r (by first | rfl | (simp [cells,frp,LG,JU]; done)) (hE ⟨(by first | rfl | (simp [KN,lkO,frp,LG,frO]; done) | (simp [KN,lkO,frp,LG,frO]; rfl)),(by first | rfl | (simp [KN,lkO,frp,LG,frO]; done) | (simp [KN,lkO,frp,LG,frO]; rfl)),trivial⟩ ⟨(by first | rfl | (simp [KN,lkO,frp,LG,frO]; done) | (simp [KN,lkO,frp,LG,frO]; rfl)),trivial⟩))) fun nn=>sQ<|sQ<|rG<|lO (v:=.agg [.int .i64 f1.Params,.sl (f1.Slots.map JP),.sl (f1.Code.map JN)]) (z:=.agg [.int .i64 f1.Params,.sl (f1.Slots.map JP),.sl (f1.Code.map JN)]) r r r r r r<|lF (v:=.agg [.sl (l2.Out.map (eL JK))]) r r r r<|bD fun r3 hr3=>cG (f1,l2) r r r RH r r (by simp) r hr3 r<|uN (w:=.bool (!r3)) r r r r trivial<|nI<|xS<|cD (c:=(!r3)) r ?_ ?_
 ·refine sQ<|rG<|aS r r<|aS r r<|aS r r<|nI<|xS<|rT<|xR<|Mh (b:=(0,0,false)) r ?_ r r ?_ r (by decide)
  all_goals first|(simp;done)|(simp;omega)|rfl|(simp [JU,JQ];done)
 ·refine sK<|xS<|sQ<|sQ<|rG<|fA r r<|lO (v:=.sl (f1.Code.map JN)) (z:=.agg [.int .i64 f1.Params,.sl (f1.Slots.map JP),.sl (f1.Code.map JN)]) r r r r r r<|lS r r<|mV r r<|nI<|xS<|bK<|lP (E:=fun (s : Int) (g : Nat)=>[(2,.optr 2 g 0 0),(3,.fptr (.agg [.sl (l2.Out.map (eL JK))]) 0),(15,.int .i64 (f1.Code.length : Int)),(16,.int .i64 s)]) (O:=fun s g=>[(2,some (g,⟨false,true,3,27,[.agg [.int .i64 f1.Params,.sl (f1.Slots.map JP),.sl (f1.Code.map JN)]]⟩))]) (body:=fun s=>PA f1 l2 s) (s:=0) _ ((hE ⟨rfl,r,r,r,trivial⟩ ⟨rfl,trivial⟩))<|?_
  rintro x4 v2x1 nn
  try dsimp only
  unfold PA
  refine sQ<|rG<|bN (v:=.bool (decide (x4 < (f1.Code.length : Int)))) r r r r r<|nI<|xS<|sQ<|cD (c:=(decide (x4 < (f1.Code.length : Int)))) r ?_ ?_
  ·refine sK<|xS<|sQ<|bK<|sQ<|rG<|mV r r<|nW r<|sV (z':=.int .i64 x4) r r r r r r r r r<|nI<|Lu (E:=[(2,.optr 2 _ 0 0),(3,.fptr (.agg [.sl (l2.Out.map (eL JK))]) 0),(7,.fptr (.int .i64 x4) 0),(15,.int .i64 (f1.Code.length : Int)),(16,.int .i64 x4)]) (O:=[(2,some (_,⟨false,true,3,27,[.agg [.int .i64 f1.Params,.sl (f1.Slots.map JP),.sl (f1.Code.map JN)]]⟩))]) ((Yx (g:=7) r (by first | rfl | (simp [cells,frp,LG,JU]; done)) (hE ⟨(by first | rfl | (simp [KN,lkO,frp,LG,frO]; done) | (simp [KN,lkO,frp,LG,frO]; rfl)),(by first | rfl | (simp [KN,lkO,frp,LG,frO]; done) | (simp [KN,lkO,frp,LG,frO]; rfl)),(by first | rfl | (simp [KN,lkO,frp,LG,frO]; done) | (simp [KN,lkO,frp,LG,frO]; rfl)),(by first | rfl | (simp [KN,lkO,frp,LG,frO]; done) | (simp [KN,lkO,frp,LG,frO]; rfl)),(by first | rfl | (simp [KN,lkO,frp,LG,frO]; done) | (simp [KN,lkO,frp,LG,frO]; rfl)),trivial⟩ ⟨(by first | rfl | (simp [KN,lkO,frp,LG,frO]; done) | (simp [KN,lkO,frp,LG,frO]; rfl)),trivial⟩))) fun nn=>sQ<|rG<|nW r<|nI<|xS<|sQ<|rG<|lO (v:=.agg [.int .i64 f1.Params,.sl (f1.Slots.map JP),.sl (f1.Code.map JN)]) (z:=.agg [.int .i64 f1.Params,.sl (f1.Slots.map JP),.sl (f1.Code.map JN)]) r r r r r r<|lF (v:=.int .i64 x4) r r r r<|lF (v:=.agg [.sl (l2.Out.map (eL JK))]) r r r r<|bD fun r5 hr5=>cV l2 r r r Ws r r (by simp) r hr5<|mF (caps:=[.optr 8 _ 0 0,.fptr (.agg [.sl (l2.Out.map (eL JK))]) 0,.fptr (.int .i64 x4) 0]) r r (by simp [Wz])<|bD fun r6 hr6=>cV (f1,x4,r5,[],l2,x4) rfl rfl (show _ = some Lp from by kernel_rfl) NT rfl rfl (by simp) (by first | rfl | (simp only [Kh,Km]; rfl) | simp [Li,Kv,Lt,Lt]) hr6<|Ki (by kernel_rfl)<|xS<|sQ<|rG<|lO (v:=.sl (r6.2.map JK)) (z:=.sl (r6.2.map JK)) r r r r r r<|lS r r<|bN (v:=.bool (decide ((r6.2.length : Int) > 0))) r r r r r<|nI<|xS<|cD (c:=(decide ((r6.2.length : Int) > 0))) r ?_ ?_
   ·refine sQ<|rG<|lF (v:=.int .i64 x4) r r r r<|lO (v:=.sl (r6.2.map JK)) (z:=.sl (r6.2.map JK)) r r r r r r<|bD fun x_x7 hx_x7=>iS (en:=JK) r r r hx_x7 r<|lF (v:=.int .i64 x_x7) r r r r<|aS r r<|aS r r<|aS r r<|Ki (by kernel_rfl)<|xS<|rT<|bR<|xR<|lR<|bR<|xR<|Mh (b:=(x4,x_x7,true)) r ?_ r r ?_ r (by decide)
    all_goals first|(simp;done)|(simp;omega)|rfl|(simp [JU,JQ];done)
   ·exact sK<|bM<|xS<|rG<|bN (v:=.int .i64 (IntKind.i64.wrap (x4 + 1))) r r r r r<|mV r r<|nI<|xL (s:=IntKind.i64.wrap (x4 + 1)) _ ((hE ⟨rfl,r,r,r,trivial⟩ ⟨rfl,trivial⟩))
  ·refine eT<|xE<|lE<|bH<|xS<|sQ<|rG<|aS r r<|aS r r<|aS r r<|nI<|xS<|rT<|Mh (b:=(0,0,false)) r ?_ r r ?_ r (by decide)
   all_goals first|(simp;done)|(simp;omega)|rfl|(simp [JU,JQ];done)

def Ado : Kb:=(.seq (.reg [P 2 (.box (T 0) 3 27),P 3 (.box (T 1) 1 30),P 4 (.asg (C 0) none)] false) (.seq (.seq (.reg [P 8 (.ld 3 true (T 2)),P 9 (.ld 1 true (T 3)),P 10 (.call (.c (.clo 63 [])) [(T 8),(T 9)]),P 11 (.un .not (T 10))] false) (.cond (T 11) (.seq (.reg [P 4 (.asg (C 11) none)] false) .ret) .skip)) (.seq (.seq (.reg [P 13 (.ld 3 true (T 2)),P 14 (.ld 1 true (T 3)),P 15 (.call (.c (.clo 30 [])) [(T 13),(T 14)]),M 12 15,P 16 (.ext (T 12) 0),P 17 (.ext (T 12) 1),P 18 (.ext (T 12) 2),P 5 (.asg (T 16) none),P 6 (.asg (T 17) none),P 7 (.asg (T 18) none)] false) (.seq (.reg [M 19 7] false) (.cond (T 19) (.seq (.reg [P 4 (.asg (C 11) none)] false) .ret) .skip))) (.seq (.reg [P 4 (.asg (C 0) none)] false) .ret))))
theorem AfM : (Tryd.f22.body.bind (Kc Tryd.prog Tryd.f22.ntmps)) = some Ado:=by kernel_rfl
theorem AfN : Tryd.f22.results.toList.mapM (Kp Tryd.prog) = some [(.t 4)]:=by kernel_rfl
def RE (a : JO × JV) : List D:=[Kv a.1,Lt a.2]
def RD (ds : List D) : JO × JV:=(MP (ds.getD 0 .top),PE (ds.getD 1 .top))
theorem Sg (a : JO × JV) : RD (RE a) = a:=by simp [RD,RE]
def Wo (b : Int) : D:=.int .i64 b
def Wn (_b : Int) : List D:=[]
noncomputable def Oz : Dw.Spec:=Ka [] .ground RE RD (fun a=>Nb a.1 a.2) Wo Wn
set_option maxHeartbeats 4000000 in
theorem VA : JX Tryd.prog 22 Oz:=by
 refine Kl (Kg (l:=[(63,NU),(30,SV)]) (by simp [UE,Zh])) Tryd.func22 (by decide) AfM AfN (np:=2) (by decide) Sg (fun _=>r) (fun _=>r) (by decide)<|?_
 rintro ⟨f1,l2⟩
 show TrE (specs [(63,NU),(30,SV)]) Ado (Kr [] .ground [(.t 4)] Wo Wn) ⟨[(0,.agg [.int .i64 f1.Params,.sl (f1.Slots.map JP),.sl (f1.Code.map JN)]),(1,.agg [.sl (l2.Out.map (eL JK))])],[],262144⟩ (Nb f1 l2)
 refine Kd<|?_
 unfold Ado Nb
 refine sQ<|rG<|bX r r r r r<|bX r r r r r<|aS r r<|nI<|xS<|sQ<|sQ<|rG<|lO (v:=.agg [.int .i64 f1.Params,.sl (f1.Slots.map JP),.sl (f1.Code.map JN)]) (z:=.agg [.int .i64 f1.Params,.sl (f1.Slots.map JP),.sl (f1.Code.map JN)]) r r r r r r<|lO (v:=.agg [.sl (l2.Out.map (eL JK))]) (z:=.agg [.sl (l2.Out.map (eL JK))]) r r r r r r<|bD fun r3 hr3=>cG (f1,l2) r r r RH r r (by simp) r hr3 r<|uN (w:=.bool (!r3)) r r r r trivial<|nI<|xS<|cD (c:=(!r3)) r ?_ ?_
 ·refine sQ<|rG<|aS r r<|nI<|xS<|rT<|xR<|JZ (b:=11) r ?_ r r ?_ r
  all_goals first|(simp;done)|(simp;omega)|rfl|(simp [JU,JQ];done)
 ·refine sK<|xS<|sQ<|sQ<|rG<|lO (v:=.agg [.int .i64 f1.Params,.sl (f1.Slots.map JP),.sl (f1.Code.map JN)]) (z:=.agg [.int .i64 f1.Params,.sl (f1.Slots.map JP),.sl (f1.Code.map JN)]) r r r r r r<|lO (v:=.agg [.sl (l2.Out.map (eL JK))]) (z:=.agg [.sl (l2.Out.map (eL JK))]) r r r r r r<|bD fun r4 hr4=>cG (f1,l2) r r r VB r r (by simp) r hr4 r<|mV r r<|eX (v:=.int .i64 r4.1) r r r<|eX (v:=.int .i64 r4.2.1) r r r<|eX (v:=.bool r4.2.2) r r r<|aS r r<|aS r r<|aS r r<|nI<|xS<|sQ<|rG<|mV r r<|nI<|xS<|cD (c:=r4.2.2) r ?_ ?_
  ·refine sQ<|rG<|aS r r<|nI<|xS<|rT<|xR<|JZ (b:=11) r ?_ r r ?_ r
   all_goals first|(simp;done)|(simp;omega)|rfl|(simp [JU,JQ];done)
  ·refine sK<|xS<|sQ<|rG<|aS r r<|nI<|xS<|rT<|JZ (b:=0) r ?_ r r ?_ r
   all_goals first|(simp;done)|(simp;omega)|rfl|(simp [JU,JQ];done)

def AdW : Kb:=(.seq (.reg [P 2 (.box (T 0) 5 66),P 4 (.asg (.c (.bool false)) none)] false) (.seq (.reg [P 5 (.fldA 0 (T 2)),P 6 (.ld 1 false (T 5)),P 7 (.bin .eql (T 6) (C 17)),M 8 7,⟨(some 9),(.fldA 2 (T 2)),(some ⟨8,true⟩),[]⟩,⟨(some 10),(.ld 1 false (T 9)),(some ⟨8,true⟩),[]⟩,⟨(some 11),(.mv (T 1)),(some ⟨8,true⟩),[]⟩,⟨(some 12),(.bin .eql (T 10) (T 11)),(some ⟨8,true⟩),[]⟩,P 13 (.pick (T 8) (T 12) (.c (.bool false))),P 4 (.asg (T 13) none)] false) .ret))
theorem Ahc : (Tryd.f82.body.bind (Kc Tryd.prog Tryd.f82.ntmps)) = some AdW:=by kernel_rfl
theorem Ahd : Tryd.f82.results.toList.mapM (Kp Tryd.prog) = some [(.t 4)]:=by kernel_rfl
def Qf (a : JL × Int) : List D:=[JN a.1,.int .i64 a.2]
def Qe (ds : List D) : JL × Int:=(Qs (ds.getD 0 .top),uI (ds.getD 1 .top))
theorem Ug (a : JL × Int) : Qe (Qf a) = a:=by simp [Qe,Qf,uI]
def UC (b : Bool) : D:=.bool b
def UB (_b : Bool) : List D:=[]
noncomputable def Rx : Dw.Spec:=Ka [] .ground Qf Qe (fun a=>Nh a.1 a.2) UC UB
set_option maxHeartbeats 4000000 in
theorem Yy : JX Tryd.prog 82 Rx:=by
 refine Kl (KM) Tryd.func82 (by decide) Ahc Ahd (np:=2) (by decide) Ug (fun _=>r) (fun _=>r) (by decide)<|?_
 rintro ⟨x1,y2⟩
 show TrE (specs []) AdW (Kr [] .ground [(.t 4)] UC UB) ⟨[(0,.agg [.int .i64 x1.Op,.int .i64 x1.A,.int .i64 x1.B,.int .i64 x1.C,.int .u64 x1.Imm]),(1,.int .i64 y2)],[],262144⟩ (Nh x1 y2)
 refine Kd<|?_
 unfold AdW Nh
 refine sQ<|rG<|bX r r r r r<|aS r r<|nI<|xS<|sQ<|rG<|fA r r<|lO (v:=.int .i64 x1.Op) (z:=.agg [.int .i64 x1.Op,.int .i64 x1.A,.int .i64 x1.B,.int .i64 x1.C,.int .u64 x1.Imm]) r r r r r r<|bN (v:=.bool (x1.Op == 17)) r r r r r<|mV r r<|sP 8 (b:=(x1.Op == 17)) r ?_ ?_
 ·refine fA r r<|lO (v:=.int .i64 x1.B) (z:=.agg [.int .i64 x1.Op,.int .i64 x1.A,.int .i64 x1.B,.int .i64 x1.C,.int .u64 x1.Imm]) r r r r r r<|mV r r<|bN (v:=.bool (x1.B == y2)) r r r r r<|pT r r r r<|aS r r<|nI<|xS<|rT<|JZ (b:=(x1.B == y2)) r ?_ r r ?_ r
  all_goals first|(simp;done)|(simp;omega)|rfl|(simp [JU,JQ];done)
 ·refine oF r<|oF r<|oF r<|oF r<|pF r r r r<|aS r r<|nI<|xS<|rT<|JZ (b:=false) r ?_ r r ?_ r
  all_goals first|(simp;done)|(simp;omega)|rfl|(simp [JU,JQ];done)

def Acm : Kb:=(.seq (.reg [⟨(some 2),(.asg (.c .nils) (some ⟨1,36⟩)),none,[]⟩] false) (.seq (.reg [M 8 0,P 9 (.len false (T 8)),P 10 (.mkS 1 36 24 .nils (T 9) (T 9)),⟨(some 3),(.asg (T 10) (some ⟨1,36⟩)),none,[]⟩] false) (.seq (.seq (.reg [M 11 0,P 12 (.len false (T 11)),P 13 (.mv (C 0))] false) (.block 0 (.loop (.seq (.reg [P 14 (.bin .lss (T 13) (T 12))] false) (.seq (.cond (T 14) .skip (.exit 0)) (.seq (.block 1 (.seq (.reg [M 15 13,P 16 (.ixA 1 (T 11) (T 13)),P 17 (.ld 1 false (T 16)),P 4 (.asg (T 15) none),⟨(some 5),(.asg (T 17) (some ⟨1,4⟩)),none,[]⟩] false) (.seq (.reg [M 18 5,P 19 (.len false (T 18)),P 20 (.mv (C 0))] false) (.block 2 (.loop (.seq (.reg [P 21 (.bin .lss (T 20) (T 19))] false) (.seq (.cond (T 21) .skip (.exit 2)) (.seq (.block 3 (.seq (.reg [M 22 20,P 23 (.ixA 1 (T 18) (T 20)),P 24 (.ld 1 false (T 23)),P 6 (.asg (T 22) none),P 7 (.asg (T 24) none)] false) (.seq (.reg [M 25 7] false) (.cond (T 25) (.reg [M 26 3,M 27 4,M 28 3,M 29 4,P 30 (.ixA 1 (T 28) (T 29)),P 31 (.ld 1 false (T 30)),M 32 6,⟨(some 33),(.bldS 1 3 (.int .i64 0) 1 [⟨0,(T 32)⟩]),none,[]⟩,P 34 (.app 1 3 8 (T 31) (T 33)),P 35 (.ixA 1 (T 26) (T 27)),⟨none,(.st 1 (T 35) (T 34)),none,[]⟩] false) .skip)))) (.reg [P 36 (.bin .add (T 20) (C 1)),M 20 36] false))))))))) (.reg [P 37 (.bin .add (T 13) (C 1)),M 13 37] false))))))) (.seq (.reg [M 38 3,⟨(some 2),(.asg (T 38) (some ⟨1,36⟩)),none,[]⟩] false) .ret))))
theorem AeR : (Tryd.f107.body.bind (Kc Tryd.prog Tryd.f107.ntmps)) = some Acm:=by kernel_rfl
theorem AeS : Tryd.f107.results.toList.mapM (Kp Tryd.prog) = some [(.t 2)]:=by kernel_rfl
def LJ (a : (List (List Bool))) : List D:=[.sl (a.map (eL D.bool))]
def OC (ds : List D) : (List (List Bool)):=(uL (uL uBo)) (ds.getD 0 .top)
theorem OP (a : (List (List Bool))) : OC (LJ a) = a:=by simp [OC,LJ,LH (u:=(uL uBo)) (en:=(eL D.bool)) (LH (u:=uBo) (en:=D.bool) (fun _=>rfl))]
def Pf (b : (List (List Int))) : D:=.sl (b.map (eL JK))
def SE (_b : (List (List Int))) : List D:=[]
noncomputable def Mj : Dw.Spec:=Ka [] .val LJ OC (fun a=>Ls a) Pf SE
set_option maxHeartbeats 4000000 in
theorem Sf : JX Tryd.prog 107 Mj:=by
 refine Kl (KM) Tryd.func107 (by decide) AeR AeS (np:=1) (by decide) OP (fun _=>r) (fun _=>r) (by decide)<|?_
 intro m1
 show TrE (specs []) Acm (Kr [] .val [(.t 2)] Pf SE) ⟨[(0,.sl (m1.map (eL D.bool)))],[],262144⟩ (Ls m1)
 refine Kd<|?_
 unfold Acm Ls
 refine sQ<|rG<|aN (α:=(List Int)) r (eL JK) r<|nI<|xS<|sQ<|rG<|mV r r<|lS r r<|cK fun hq=>Th (α:=Int) r r r hq r<|aO (l:=List.replicate (m1.length : Int).toNat ([] : (List Int))) (en:=(fun _=>D.nils)) r r r r<|nI<|Lu (E:=[(0,.sl (m1.map (eL D.bool))),(3,.osl 4099 _ 0 ((List.replicate (m1.length : Int).toNat ([] : (List Int))).length))]) (O:=[(4099,some (_,⟨false,false,1,36,(List.replicate (m1.length : Int).toNat ([] : (List Int))).map (eR 1 3 JK)⟩))]) ((Jo (g:=3) (g2:=4099) r r r (Jv (l:=List.replicate (m1.length : Int).toNat ([] : (List Int))) (s':=1) (ty':=3) JK (by decide) (fun _ h=>List.eq_of_mem_replicate h)) (hE ⟨rfl,r,trivial⟩ ⟨rfl,trivial⟩))) fun nn=>sQ<|sQ<|rG<|mV r r<|lS r r<|mV r r<|nI<|xS<|bK<|lP (E:=fun (s : (List (List Int)) × Int) (g : Nat)=>[(3,.osl 4099 g 0 s.1.length),(11,.sl (m1.map (eL D.bool))),(12,.int .i64 (m1.length : Int)),(13,.int .i64 s.2)]) (O:=fun s g=>[(4099,some (g,⟨false,false,1,36,s.1.map (eR 1 3 JK)⟩))]) (body:=fun s=>MZ m1 s.1 s.2) (s:=(List.replicate (m1.length : Int).toNat ([] : (List Int)),0)) _ ((hE ⟨rfl,r,r,r,trivial⟩ ⟨rfl,trivial⟩))<|?_
 rintro ⟨out2,x3⟩ v4099x1 nn
 try dsimp only
 unfold MZ
 refine sQ<|rG<|bN (v:=.bool (decide (x3 < (m1.length : Int)))) r r r r r<|nI<|xS<|sQ<|cD (c:=(decide (x3 < (m1.length : Int)))) r ?_ ?_
 ·refine sK<|xS<|sQ<|bK<|sQ<|rG<|mV r r<|bD fun x_x4 hx_x4=>iS (en:=(eL D.bool)) r r r hx_x4 r<|lF (v:=.sl (x_x4.map D.bool)) r r r r<|aS r r<|aL r r<|nI<|xS<|sQ<|rG<|mV r r<|lS r r<|mV r r<|nI<|xS<|bK<|lP (E:=fun (s : (List (List Int)) × Int) (g : Nat)=>[(3,.osl 4099 g 0 s.1.length),(4,.int .i64 x3),(11,.sl (m1.map (eL D.bool))),(12,.int .i64 (m1.length : Int)),(13,.int .i64 x3),(18,.sl (x_x4.map D.bool)),(19,.int .i64 (x_x4.length : Int)),(20,.int .i64 s.2)]) (O:=fun s g=>[(4099,some (g,⟨false,false,1,36,s.1.map (eR 1 3 JK)⟩))]) (body:=fun s=>Na x_x4 x3 s.1 s.2) (s:=(out2,0)) _ ((hE ⟨rfl,r,r,r,r,r,r,r,trivial⟩ ⟨rfl,trivial⟩))<|?_
  rintro ⟨out5,x6⟩ v4099x2 nn
  try dsimp only
  unfold Na
  refine sQ<|rG<|bN (v:=.bool (decide (x6 < (x_x4.length : Int)))) r r r r r<|nI<|xS<|sQ<|cD (c:=(decide (x6 < (x_x4.length : Int)))) r ?_ ?_
  ·refine sK<|xS<|sQ<|bK<|sQ<|rG<|mV r r<|bD fun x_x7 hx_x7=>iS (en:=D.bool) r r r hx_x7 r<|lF (v:=.bool x_x7) r r r r<|aS r r<|aS r r<|nI<|xS<|sQ<|rG<|mV r r<|nI<|xS<|cD (c:=x_x7) r ?_ ?_
   ·exact rG<|mV r r<|mV r r<|mV r r<|mV r r<|cK fun hq=>iO (l:=out5) (en:=(eR 1 3 JK)) r r r r r hq<|bD fun out_e8 hout_e8=>Ju (q:=out_e8) JK r r r hout_e8<|mV r r<|bS ([x6] : List Int) JK r r r (by simp) r r r<|cK fun hq=>Jt (out_e8) (([x6] : List Int)) JK r r r r r r r (by simp) (Kn _ _ r) r r (by simp) (JS _ _ r) (fun _=>r) r hq (fun _=>r)<|cK fun hq=>Jk (by simp) r r r r (by simpa using hq)<|Jm (l:=out5) (q:=out_e8) (q':=out_e8 ++ ([x6] : List Int)) JK rfl rfl rfl rfl (.inr ⟨_,_,_,rfl⟩) hout_e8 rfl rfl ⟨⟨rfl,rfl,by simp,Js fun _=>rfl⟩,trivial,rfl⟩ (congrArg (fun z=>[D.row _ _ z]) (JS _ _ rfl)) rfl<|nI<|bM<|xS<|rG<|bN (v:=.int .i64 (IntKind.i64.wrap (x6 + 1))) rfl rfl rfl rfl rfl<|mV rfl rfl<|nI<|xL (s:=(out5.set x3.toNat (out_e8 ++ ([x6] : List Int)),IntKind.i64.wrap (x6 + 1))) _ ((hE ⟨(Ss (q:=out5.length) rfl (by simp)),r,r,r,r,r,r,r,trivial⟩ ⟨rfl,trivial⟩))
   ·exact sK<|bM<|xS<|rG<|bN (v:=.int .i64 (IntKind.i64.wrap (x6 + 1))) r r r r r<|mV r r<|nI<|xL (s:=(out5,IntKind.i64.wrap (x6 + 1))) _ ((hE ⟨rfl,r,r,r,r,r,r,r,trivial⟩ ⟨rfl,trivial⟩))
  ·exact eT<|xE<|lE<|bH<|bM<|xS<|rG<|bN (v:=.int .i64 (IntKind.i64.wrap (x3 + 1))) r r r r r<|mV r r<|nI<|xL (s:=(out5,IntKind.i64.wrap (x3 + 1))) _ ((hE ⟨rfl,r,r,r,trivial⟩ ⟨rfl,trivial⟩))
 ·refine eT<|xE<|lE<|bH<|Lu (E:=[(3,.osl 4099 _ 0 out2.length)]) (O:=[(4099,some (_,⟨false,false,1,36,out2.map (eL JK)⟩))]) ((Jq (g:=4099) r (Jw (l:=out2) JK (fun _=>r)) (hE ⟨rfl,trivial⟩ ⟨rfl,trivial⟩))) fun nn=>sQ<|rG<|mV r r<|Ji r r r<|nI<|xS<|rT<|KC (b:=out2) r ?_ r r ?_ (by first | rfl | (simp only [Kh,Km]; rfl) | simp [Pf])
  all_goals first|(simp;done)|(simp;omega)|rfl|(simp [JU,JQ];done)

def Aaj : Kb:=(.seq (.reg [⟨(some 2),(.asg (.c .nils) (some ⟨1,81⟩)),none,[]⟩] false) (.seq (.reg [M 5 0,P 6 (.mkS 1 81 24 .nils (T 5) (T 5)),⟨(some 3),(.asg (T 6) (some ⟨1,81⟩)),none,[]⟩] false) (.seq (.seq (.reg [M 7 3,P 8 (.len false (T 7)),P 9 (.mv (C 0))] false) (.block 0 (.loop (.seq (.reg [P 10 (.bin .lss (T 9) (T 8))] false) (.seq (.cond (T 10) .skip (.exit 0)) (.seq (.block 1 (.seq (.reg [M 11 9,P 4 (.asg (T 11) none)] false) (.reg [M 12 3,M 13 4,M 14 0,P 15 (.mkS 1 4 1 (.bool false) (T 14) (T 14)),P 16 (.ixA 1 (T 12) (T 13)),⟨none,(.st 1 (T 16) (T 15)),none,[]⟩] false))) (.reg [P 17 (.bin .add (T 9) (C 1)),M 9 17] false))))))) (.seq (.reg [M 18 3,⟨(some 2),(.asg (T 18) (some ⟨1,81⟩)),none,[]⟩] false) .ret))))
theorem AbX : (Tryd.f106.body.bind (Kc Tryd.prog Tryd.f106.ntmps)) = some Aaj:=by kernel_rfl
theorem AbY : Tryd.f106.results.toList.mapM (Kp Tryd.prog) = some [(.t 2)]:=by kernel_rfl

def Abp : Kb:=(.seq (.reg [P 3 (.box (T 0) 3 27),P 4 (.box (T 1) 1 30),⟨(some 6),(.asg (.c .nils) (some ⟨1,36⟩)),none,[]⟩,P 7 (.asg (C 0) none)] false) (.seq (.seq (.reg [P 16 (.ld 3 true (T 3)),P 17 (.ld 1 true (T 4)),P 18 (.call (.c (.clo 22 [])) [(T 16),(T 17)]),P 8 (.asg (T 18) none)] false) (.seq (.reg [M 19 8,P 20 (.bin .neq (T 19) (C 0))] false) (.cond (T 20) (.seq (.reg [M 21 8,⟨(some 6),(.asg (.c .nils) (some ⟨1,36⟩)),none,[]⟩,P 7 (.asg (T 21) none)] false) .ret) .skip))) (.seq (.reg [P 22 (.fldA 1 (T 3)),P 23 (.ld 1 false (T 22)),P 24 (.len false (T 23)),P 25 (.call (.c (.clo 106 [])) [(T 24)]),⟨(some 9),(.asg (T 25) (some ⟨1,81⟩)),none,[]⟩] false) (.seq (.seq (.reg [P 26 (.fldA 2 (T 3)),P 27 (.ld 1 false (T 26)),P 28 (.len false (T 27)),P 29 (.mv (C 0))] false) (.block 0 (.loop (.seq (.reg [P 30 (.bin .lss (T 29) (T 28))] false) (.seq (.cond (T 30) .skip (.exit 0)) (.seq (.block 1 (.seq (.reg [M 31 29,P 32 (.ixA 5 (T 27) (T 29)),P 33 (.ld 5 true (T 32)),P 11 (.new (.agg [(.int .i64 0),(.int .i64 0),(.int .i64 0),(.int .i64 0),(.int .u64 0)]) 5 66),P 10 (.asg (T 31) none),⟨none,(.st 5 (T 11) (T 33)),none,[]⟩] false) (.seq (.reg [P 35 (.ld 5 true (T 11)),P 36 (.call (.c (.clo 100 [])) [(T 35)]),M 34 36,P 37 (.ext (T 34) 0),P 38 (.ext (T 34) 1),P 12 (.asg (T 37) none),P 13 (.asg (T 38) none)] false) (.seq (.seq (.reg [M 39 13,P 40 (.un .not (T 39)),M 41 40,⟨(some 42),(.fldA 0 (T 11)),(some ⟨41,false⟩),[]⟩,⟨(some 43),(.ld 1 false (T 42)),(some ⟨41,false⟩),[]⟩,⟨(some 44),(.bin .eql (T 43) (C 17)),(some ⟨41,false⟩),[]⟩,⟨(some 45),(.mv (T 44)),(some ⟨41,false⟩),[]⟩,⟨(some 46),(.fldA 1 (T 11)),(some ⟨45,true⟩),[]⟩,⟨(some 47),(.ld 1 false (T 46)),(some ⟨45,true⟩),[]⟩,⟨(some 48),(.fldA 2 (T 11)),(some ⟨45,true⟩),[]⟩,⟨(some 49),(.ld 1 false (T 48)),(some ⟨45,true⟩),[]⟩,⟨(some 50),(.bin .eql (T 47) (T 49)),(some ⟨45,true⟩),[]⟩,⟨(some 51),(.pick (T 45) (T 50) (.c (.bool false))),(some ⟨41,false⟩),[]⟩,P 52 (.pick (T 41) (.c (.bool true)) (T 51))] false) (.cond (T 52) (.exit 1) .skip)) (.seq (.reg [P 53 (.fldA 0 (T 4)),P 54 (.ld 1 false (T 53)),M 55 10,P 56 (.ixA 1 (T 54) (T 55)),P 57 (.ld 1 false (T 56)),P 58 (.len false (T 57)),P 59 (.mv (C 0))] false) (.block 2 (.loop (.seq (.reg [P 60 (.bin .lss (T 59) (T 58))] false) (.seq (.cond (T 60) .skip (.exit 2)) (.seq (.block 3 (.seq (.reg [P 61 (.ixA 1 (T 57) (T 59)),P 62 (.ld 1 false (T 61)),P 15 (.asg (T 62) none)] false) (.seq (.reg [M 63 15,M 64 12,P 65 (.bin .neq (T 63) (T 64)),M 66 65,⟨(some 67),(.mv (T 2)),(some ⟨66,true⟩),[]⟩,⟨(some 68),(.ld 5 true (T 11)),(some ⟨66,true⟩),[]⟩,⟨(some 69),(.mv (T 15)),(some ⟨66,true⟩),[]⟩,⟨(some 70),(.call (T 67) [(T 68),(T 69)]),(some ⟨66,true⟩),[]⟩,⟨(some 71),(.un .not (T 70)),(some ⟨66,true⟩),[]⟩,P 72 (.pick (T 66) (T 71) (.c (.bool false)))] false) (.cond (T 72) (.reg [M 73 9,M 74 12,⟨(some 75),(.ixA 1 (T 73) (T 74)),none,[0,1]⟩,⟨(some 76),(.ld 1 false (T 75)),none,[2]⟩,M 77 15,M 78 9,M 79 15,⟨(some 80),(.ixA 1 (T 78) (T 79)),none,[5,6]⟩,⟨(some 81),(.ld 1 false (T 80)),none,[7]⟩,M 82 12,⟨(some 83),(.ixA 1 (T 76) (T 77)),none,[3,4,0,1,2,3,4,8]⟩,⟨none,(.st 1 (T 83) (.c (.bool true))),none,[10,0,1,2,3,4,8]⟩,⟨(some 84),(.ixA 1 (T 81) (T 82)),none,[8,9,0,1,2,3,4,5,6,7,8,9,10,11]⟩,⟨none,(.st 1 (T 84) (.c (.bool true))),none,[12,11,0,1,2,3,4,5,6,7,8,9,10,11]⟩] true) .skip)))) (.reg [P 85 (.bin .add (T 59) (C 1)),M 59 85] false))))))))))) (.reg [P 86 (.bin .add (T 29) (C 1)),M 29 86] false))))))) (.seq (.reg [M 87 9,P 88 (.call (.c (.clo 107 [])) [(T 87)]),⟨(some 6),(.asg (T 88) (some ⟨1,36⟩)),none,[]⟩,P 7 (.asg (C 0) none)] false) .ret)))))
theorem AcM : (Tryd.f81.body.bind (Kc Tryd.prog Tryd.f81.ntmps)) = some Abp:=by kernel_rfl
theorem AcN : Tryd.f81.results.toList.mapM (Kp Tryd.prog) = some [(.t 6),(.t 7)]:=by kernel_rfl
def NR (a : JO × JV) : List D:=[Kv a.1,Lt a.2,.clo 82 []]
def NQ (ds : List D) : JO × JV:=(MP (ds.getD 0 .top),PE (ds.getD 1 .top))
theorem QT (a : JO × JV) : NQ (NR a) = a:=by simp [NQ,NR]
def OB (b : (List (List Int)) × Int) : D:=.tup [.sl (b.1.map (eL JK)),.int .i64 b.2]
def RL (_b : (List (List Int)) × Int) : List D:=[]
noncomputable def MO : Dw.Spec:=Ka [] .val NR NQ (fun a=>Mi a.1 a.2) OB RL
noncomputable def NB : Dw.Spec:=Jg (specs []) 1 [(.t 2)] Aaj
theorem Uw : JX Tryd.prog 106 NB:=Jz (KM) Tryd.func106 (by decide) AbX AbY (by decide)
set_option maxHeartbeats 4000000 in
theorem VM : JX Tryd.prog 81 MO:=by
 refine Kl (Kg (l:=[(22,Oz),(106,NB),(100,MD),(82,Rx),(107,Mj)]) (by simp [VA,Uw,SS,Yy,Sf])) Tryd.func81 (by decide) AcM AcN (np:=3) (by decide) QT (fun _=>r) (fun _=>r) (by decide)<|?_
 rintro ⟨f1,l2⟩
 show TrE (specs [(22,Oz),(106,NB),(100,MD),(82,Rx),(107,Mj)]) Abp (Kr [] .val [(.t 6),(.t 7)] OB RL) ⟨[(0,.agg [.int .i64 f1.Params,.sl (f1.Slots.map JP),.sl (f1.Code.map JN)]),(1,.agg [.sl (l2.Out.map (eL JK))]),(2,.clo 82 [])],[],262144⟩ (Mi f1 l2)
 refine Kd<|?_
 unfold Abp Mi
 refine sQ<|rG<|bX r r r r r<|bX r r r r r<|aN (α:=(List Int)) r (eL JK) r<|aS r r<|nI<|xS<|sQ<|sQ<|rG<|lO (v:=.agg [.int .i64 f1.Params,.sl (f1.Slots.map JP),.sl (f1.Code.map JN)]) (z:=.agg [.int .i64 f1.Params,.sl (f1.Slots.map JP),.sl (f1.Code.map JN)]) r r r r r r<|lO (v:=.agg [.sl (l2.Out.map (eL JK))]) (z:=.agg [.sl (l2.Out.map (eL JK))]) r r r r r r<|bD fun r3 hr3=>cG (f1,l2) r r r Sg r r (by simp) r hr3 r<|aS r r<|nI<|xS<|sQ<|rG<|mV r r<|bN (v:=.bool (r3 != 0)) r r r r r<|nI<|xS<|cD (c:=(r3 != 0)) r ?_ ?_
 ·refine sQ<|rG<|mV r r<|aN (α:=(List Int)) r (eL JK) r<|aS r r<|nI<|xS<|rT<|xR<|NO (b:=(([] : List (List Int)),r3)) r ?_ r r ?_ (by first | rfl | (simp only [Kh,Km]; rfl) | simp [OB]) (by decide)
  all_goals first|(simp;done)|(simp;omega)|rfl|(simp [JU,JQ];done)
 ·refine sK<|xS<|sQ<|rG<|fA r r<|lO (v:=.sl (f1.Slots.map JP)) (z:=.agg [.int .i64 f1.Params,.sl (f1.Slots.map JP),.sl (f1.Code.map JN)]) r r r r r r<|lS r r<|JF (E:=fun (g : Nat × Nat)=>[(2,.clo 82 []),(3,.optr 1003 g.1 0 0),(4,.optr 1004 g.2 0 0),(24,.int .i64 (f1.Slots.length : Int))]) (O:=fun g=>[(1003,some (g.1,⟨false,true,3,27,[.agg [.int .i64 f1.Params,.sl (f1.Slots.map JP),.sl (f1.Code.map JN)]]⟩)),(1004,some (g.2,⟨false,true,1,30,[.agg [.sl (l2.Out.map (eL JK))]]⟩))]) (_,_) ((Jx (fun g=>bif Nat.ble 4096 g then g + 20000 else g + 1000) (by rfl) (hE ⟨rfl,r,r,r,trivial⟩ ⟨rfl,r,trivial⟩)))<|?_
  rintro ⟨v1003x1,v1004x1⟩ nn
  try dsimp only
  refine JD (ES:=fun (s : (List (List Bool))) (g : Nat × Nat × Nat)=>[(2,.clo 82 []),(3,.optr 3 g.1 0 0),(4,.optr 4 g.2.1 0 0),(25,.osl 4697 g.2.2 0 s.length)]) (OS:=fun s g=>[(3,some (g.1,⟨false,true,3,27,[.agg [.int .i64 f1.Params,.sl (f1.Slots.map JP),.sl (f1.Code.map JN)]]⟩)),(4,some (g.2.1,⟨false,true,1,30,[.agg [.sl (l2.Out.map (eL JK))]]⟩)),(4697,some (g.2.2,⟨false,false,1,81,s.map (eR 1 4 D.bool)⟩))]) (j:=fun s=>LA f1 l2 s) (ds:=[.int .i64 (f1.Slots.length : Int)]) (caps:=[]) (E:=[(0,.int .i64 (f1.Slots.length : Int))]) r r r r r r r r ?_ ?_
  ·unfold Aaj
   refine sQ<|rG<|aN (α:=(List Bool)) r (eL D.bool) r<|nI<|xS<|sQ<|rG<|mV r r<|cK fun hq=>Th (α:=Bool) r r r hq r<|aO (l:=List.replicate (f1.Slots.length : Int).toNat ([] : (List Bool))) (en:=(fun _=>D.nils)) r r r r<|nI<|Lu (E:=[(0,.int .i64 (f1.Slots.length : Int)),(3,.osl 4099 _ 0 ((List.replicate (f1.Slots.length : Int).toNat ([] : (List Bool))).length))]) (O:=[(1003,some (v1003x1,⟨false,true,3,27,[.agg [.int .i64 f1.Params,.sl (f1.Slots.map JP),.sl (f1.Code.map JN)]]⟩)),(1004,some (v1004x1,⟨false,true,1,30,[.agg [.sl (l2.Out.map (eL JK))]]⟩)),(4099,some (_,⟨false,false,1,81,(List.replicate (f1.Slots.length : Int).toNat ([] : (List Bool))).map (eR 1 4 D.bool)⟩))]) ((Jo (g:=3) (g2:=4099) r r r (Jv (l:=List.replicate (f1.Slots.length : Int).toNat ([] : (List Bool))) (s':=1) (ty':=4) D.bool (by decide) (fun _ h=>List.eq_of_mem_replicate h)) (hE ⟨rfl,r,trivial⟩ ⟨rfl,r,r,trivial⟩))) fun nn=>sQ<|sQ<|rG<|mV r r<|lW r r<|mV r r<|nI<|xS<|bK<|lP (E:=fun (s : (List (List Bool)) × Int) (g : Nat)=>[(0,.int .i64 (f1.Slots.length : Int)),(3,.osl 4099 g 0 s.1.length),(8,.int .i64 ((List.replicate (f1.Slots.length : Int).toNat ([] : (List Bool))).length : Int)),(9,.int .i64 s.2)]) (O:=fun s g=>[(1003,some (v1003x1,⟨false,true,3,27,[.agg [.int .i64 f1.Params,.sl (f1.Slots.map JP),.sl (f1.Code.map JN)]]⟩)),(1004,some (v1004x1,⟨false,true,1,30,[.agg [.sl (l2.Out.map (eL JK))]]⟩)),(4099,some (g,⟨false,false,1,81,s.1.map (eR 1 4 D.bool)⟩))]) (body:=fun s=>My f1 l2 s.1 s.2) (s:=(List.replicate (f1.Slots.length : Int).toNat ([] : (List Bool)),0)) _ ((hE ⟨rfl,r,r,r,trivial⟩ ⟨rfl,r,r,trivial⟩))<|?_
   rintro ⟨m5,x6⟩ v4099x2 nn
   try dsimp only
   unfold My
   refine sQ<|rG<|bN (v:=.bool (decide (x6 < ((List.replicate (f1.Slots.length : Int).toNat ([] : (List Bool))).length : Int)))) r r r r r<|nI<|xS<|sQ<|cD (c:=(decide (x6 < ((List.replicate (f1.Slots.length : Int).toNat ([] : (List Bool))).length : Int)))) r ?_ ?_
   ·exact sK<|xS<|sQ<|bK<|sQ<|rG<|mV rfl rfl<|aS rfl rfl<|nI<|xS<|rG<|mV rfl rfl<|mV rfl rfl<|mV rfl rfl<|cK fun hq=>mS (q:=false) D.bool rfl rfl rfl rfl hq rfl<|cK fun hq=>iO (l:=m5) (en:=(eR 1 4 D.bool)) rfl rfl rfl rfl rfl hq<|bD fun o7 ho7=>Jm (l:=m5) (q:=o7) (q':=List.replicate (f1.Slots.length : Int).toNat false) D.bool rfl rfl rfl rfl (.inl rfl) ho7 rfl rfl ⟨⟨rfl,rfl,by simp,Js fun _=>rfl⟩,trivial,rfl⟩ (congrArg (fun z=>[D.row _ _ z]) (JS _ _ rfl)) rfl<|nI<|bM<|xS<|rG<|bN (v:=.int .i64 (IntKind.i64.wrap (x6 + 1))) rfl rfl rfl rfl rfl<|mV rfl rfl<|nI<|xL (s:=(m5.set x6.toNat (List.replicate (f1.Slots.length : Int).toNat false),IntKind.i64.wrap (x6 + 1))) _ ((hE ⟨rfl,(Ss (q:=m5.length) rfl (by simp)),r,r,trivial⟩ ⟨rfl,r,r,trivial⟩))
   ·exact eT<|xE<|lE<|bH<|xS<|sQ<|rG<|mV r r<|Ji r r r<|nI<|xS<|rT<|JA (d:=.osl 4099 _ 0 m5.length) (s:=m5) (_,_,_) r (by first | rfl | (simp [Jf,Jc,rdA,raw,strip,Jd,S.ge,S.go,look,Jj,cells,Je]; done)) r ((Jy (E1:=[(2,.clo 82 []),(3,.optr 1003 v1003x1 0 0),(4,.optr 1004 v1004x1 0 0),(25,.osl 4099 _ 0 m5.length)]) (O1:=[(1003,some (v1003x1,⟨false,true,3,27,[.agg [.int .i64 f1.Params,.sl (f1.Slots.map JP),.sl (f1.Code.map JN)]]⟩)),(1004,some (v1004x1,⟨false,true,1,30,[.agg [.sl (l2.Out.map (eL JK))]]⟩)),(4099,some (_,⟨false,false,1,81,m5.map (eR 1 4 D.bool)⟩))]) (hE ⟨rfl,r,r,r,trivial⟩ ⟨rfl,r,r,trivial⟩) (fun _=>Jx (fun g=>bif Nat.ble 24096 g then g - 20000 else bif (Nat.ble 1000 g && Nat.blt g 4096) then g - 1000 else bif Nat.beq g 4099 then 4697 else g) (by rfl) (hE ⟨rfl,r,r,r,trivial⟩ ⟨rfl,r,r,trivial⟩))))
  ·rintro x4 ⟨v3x3,v4x3,v4697x3⟩ nn
   try dsimp only
   unfold LA
   refine Ji r r r<|nI<|xS<|sQ<|sQ<|rG<|fA r r<|lO (v:=.sl (f1.Code.map JN)) (z:=.agg [.int .i64 f1.Params,.sl (f1.Slots.map JP),.sl (f1.Code.map JN)]) r r r r r r<|lS r r<|mV r r<|nI<|xS<|bK<|lP (E:=fun (s : (List (List Bool)) × Int) (g : Nat × Nat)=>[(2,.clo 82 []),(4,.optr 4 g.1 0 0),(9,.osl 4697 g.2 0 s.1.length),(27,.sl (f1.Code.map JN)),(28,.int .i64 (f1.Code.length : Int)),(29,.int .i64 s.2)]) (O:=fun s g=>[(4,some (g.1,⟨false,true,1,30,[.agg [.sl (l2.Out.map (eL JK))]]⟩)),(4697,some (g.2,⟨false,false,1,81,s.1.map (eR 1 4 D.bool)⟩))]) (body:=fun s=>Mz f1 l2 s.1 s.2) (s:=(x4,0)) (_,_) ((hE ⟨rfl,r,r,r,r,r,trivial⟩ ⟨rfl,r,trivial⟩))<|?_
   rintro ⟨x8,x9⟩ ⟨v4x4,v4697x4⟩ nn
   try dsimp only
   unfold Mz
   refine sQ<|rG<|bN (v:=.bool (decide (x9 < (f1.Code.length : Int)))) r r r r r<|nI<|xS<|sQ<|cD (c:=(decide (x9 < (f1.Code.length : Int)))) r ?_ ?_
   ·refine sK<|xS<|sQ<|bK<|sQ<|rG<|mV r r<|bD fun x_x10 hx_x10=>iS (en:=JN) r r r hx_x10 r<|lF (v:=.agg [.int .i64 x_x10.Op,.int .i64 x_x10.A,.int .i64 x_x10.B,.int .i64 x_x10.C,.int .u64 x_x10.Imm]) r r r r<|nW r<|aS r r<|sV (z':=.agg [.int .i64 x_x10.Op,.int .i64 x_x10.A,.int .i64 x_x10.B,.int .i64 x_x10.C,.int .u64 x_x10.Imm]) r r r r r r r r r<|nI<|xS<|sQ<|rG<|lO (v:=.agg [.int .i64 x_x10.Op,.int .i64 x_x10.A,.int .i64 x_x10.B,.int .i64 x_x10.C,.int .u64 x_x10.Imm]) (z:=.agg [.int .i64 x_x10.Op,.int .i64 x_x10.A,.int .i64 x_x10.B,.int .i64 x_x10.C,.int .u64 x_x10.Imm]) r r r r r r<|bD fun r11 hr11=>cG x_x10 r r r PW r r (by simp) r hr11 r<|mV r r<|eX (v:=.int .i64 r11.1) r r r<|eX (v:=.bool r11.2) r r r<|aS r r<|aS r r<|nI<|xS<|sC (E:=fun (s : Bool × Bool) (g : Nat × Nat × Nat)=>[(2,.clo 82 []),(4,.optr 4 g.1 0 0),(9,.osl 4697 g.2.2 0 x8.length),(10,.int .i64 x9),(11,.optr 11 g.2.1 0 0),(12,.int .i64 r11.1),(27,.sl (f1.Code.map JN)),(28,.int .i64 (f1.Code.length : Int)),(29,.int .i64 x9),(42,.optr 11 g.2.1 0 0),(43,.int .i64 x_x10.Op),(44,.bool (x_x10.Op == 17)),(45,.bool s.1),(51,.bool s.2)]) (O:=fun s g=>[(4,some (g.1,⟨false,true,1,30,[.agg [.sl (l2.Out.map (eL JK))]]⟩)),(11,some (g.2.1,⟨false,true,5,66,[.agg [.int .i64 x_x10.Op,.int .i64 x_x10.A,.int .i64 x_x10.B,.int .i64 x_x10.C,.int .u64 x_x10.Imm]]⟩)),(4697,some (g.2.2,⟨false,false,1,81,x8.map (eR 1 4 D.bool)⟩))]) (j:=fun s=>Lk l2 x9 r11 x_x10 x8 s.1 s.2) ?_ ?_
    ·refine sQ<|rG<|mV r r<|uN (w:=.bool (!r11.2)) r r r r trivial<|mV r r<|sP 41 (b:=(!r11.2)) r ?_ ?_
     ·exact oF r<|oF r<|oF r<|oF r<|oF r<|oF r<|oF r<|oF r<|oF r<|oF r<|pT r r r r<|nI<|xS<|LY r<|eT<|NY<|bH<|xS<|rG<|bN (v:=.int .i64 (IntKind.i64.wrap (x9 + 1))) r r r r r<|mV r r<|nI<|xL (s:=(x8,IntKind.i64.wrap (x9 + 1))) (_,_) ((hE ⟨rfl,r,r,r,r,r,trivial⟩ ⟨rfl,r,trivial⟩))
     ·refine fA r r<|lO (v:=.int .i64 x_x10.Op) (z:=.agg [.int .i64 x_x10.Op,.int .i64 x_x10.A,.int .i64 x_x10.B,.int .i64 x_x10.C,.int .u64 x_x10.Imm]) r r r r r r<|bN (v:=.bool (x_x10.Op == 17)) r r r r r<|mV r r<|sP 45 (b:=(x_x10.Op == 17)) r ?_ ?_
      ·refine fA r r<|lO (v:=.int .i64 x_x10.A) (z:=.agg [.int .i64 x_x10.Op,.int .i64 x_x10.A,.int .i64 x_x10.B,.int .i64 x_x10.C,.int .u64 x_x10.Imm]) r r r r r r<|fA r r<|lO (v:=.int .i64 x_x10.B) (z:=.agg [.int .i64 x_x10.Op,.int .i64 x_x10.A,.int .i64 x_x10.B,.int .i64 x_x10.C,.int .u64 x_x10.Imm]) r r r r r r<|bN (v:=.bool (x_x10.A == x_x10.B)) r r r r r<|pT r r r r<|pF r r r r<|nI<|xS<|cD (c:=(x_x10.A == x_x10.B)) r ?_ ?_
       ·exact eT<|NY<|bH<|xS<|rG<|bN (v:=.int .i64 (IntKind.i64.wrap (x9 + 1))) r r r r r<|mV r r<|nI<|xL (s:=(x8,IntKind.i64.wrap (x9 + 1))) (_,_) ((hE ⟨rfl,r,r,r,r,r,trivial⟩ ⟨rfl,r,trivial⟩))
       ·exact sK<|xC (s:=(true,(x_x10.A == x_x10.B))) (_,_,_) ((hE ⟨rfl,r,r,r,r,r,r,r,r,r,r,r,r,r,trivial⟩ ⟨rfl,r,r,trivial⟩))
      ·exact oF r<|oF r<|oF r<|oF r<|oF r<|pF r r r r<|pF r r r r<|nI<|xS<|Nj r<|sK<|xC (s:=(false,false)) (_,_,_) ((hE ⟨rfl,r,r,r,r,r,r,r,r,r,r,r,r,r,trivial⟩ ⟨rfl,r,r,trivial⟩))
    ·rintro ⟨x12,x13⟩ ⟨v4x5,v11x5,v4697x5⟩ nn
     try dsimp only
     unfold Lk
     refine sQ<|rG<|fA r r<|lO (v:=.sl (l2.Out.map (eL JK))) (z:=.agg [.sl (l2.Out.map (eL JK))]) r r r r r r<|mV r r<|bD fun x_x14 hx_x14=>iS (en:=(eL JK)) r r r hx_x14 r<|lF (v:=.sl (x_x14.map JK)) r r r r<|lS r r<|mV r r<|nI<|xS<|bK<|lP (E:=fun (s : (List (List Bool)) × Int) (g : Nat × Nat × Nat)=>[(2,.clo 82 []),(4,.optr 4 g.1 0 0),(9,.osl 4697 g.2.2 0 s.1.length),(11,.optr 11 g.2.1 0 0),(12,.int .i64 r11.1),(27,.sl (f1.Code.map JN)),(28,.int .i64 (f1.Code.length : Int)),(29,.int .i64 x9),(42,.optr 11 g.2.1 0 0),(43,.int .i64 x_x10.Op),(44,.bool (x_x10.Op == 17)),(45,.bool x12),(51,.bool x13),(57,.sl (x_x14.map JK)),(58,.int .i64 (x_x14.length : Int)),(59,.int .i64 s.2)]) (O:=fun s g=>[(4,some (g.1,⟨false,true,1,30,[.agg [.sl (l2.Out.map (eL JK))]]⟩)),(11,some (g.2.1,⟨false,true,5,66,[.agg [.int .i64 x_x10.Op,.int .i64 x_x10.A,.int .i64 x_x10.B,.int .i64 x_x10.C,.int .u64 x_x10.Imm]]⟩)),(4697,some (g.2.2,⟨false,false,1,81,s.1.map (eR 1 4 D.bool)⟩))]) (body:=fun s=>MA x_x14 r11 x_x10 x9 s.1 s.2) (s:=(x8,0)) (_,_,_) ((hE ⟨rfl,r,r,r,r,r,r,r,r,r,r,r,r,r,r,r,trivial⟩ ⟨rfl,r,r,trivial⟩))<|?_
     rintro ⟨x15,x16⟩ ⟨v4x6,v11x6,v4697x6⟩ nn
     try dsimp only
     unfold MA
     refine sQ<|rG<|bN (v:=.bool (decide (x16 < (x_x14.length : Int)))) r r r r r<|nI<|xS<|sQ<|cD (c:=(decide (x16 < (x_x14.length : Int)))) r ?_ ?_
     ·refine sK<|xS<|sQ<|bK<|sQ<|rG<|bD fun x_x17 hx_x17=>iS (en:=JK) r r r hx_x17 r<|lF (v:=.int .i64 x_x17) r r r r<|aS r r<|nI<|xS<|sC (E:=fun (s : Bool) (g : Nat × Nat × Nat)=>[(2,.clo 82 []),(4,.optr 4 g.1 0 0),(9,.osl 4697 g.2.2 0 x15.length),(11,.optr 11 g.2.1 0 0),(12,.int .i64 r11.1),(15,.int .i64 x_x17),(27,.sl (f1.Code.map JN)),(28,.int .i64 (f1.Code.length : Int)),(29,.int .i64 x9),(42,.optr 11 g.2.1 0 0),(43,.int .i64 x_x10.Op),(44,.bool (x_x10.Op == 17)),(45,.bool x12),(51,.bool x13),(57,.sl (x_x14.map JK)),(58,.int .i64 (x_x14.length : Int)),(59,.int .i64 x16),(72,.bool s)]) (O:=fun s g=>[(4,some (g.1,⟨false,true,1,30,[.agg [.sl (l2.Out.map (eL JK))]]⟩)),(11,some (g.2.1,⟨false,true,5,66,[.agg [.int .i64 x_x10.Op,.int .i64 x_x10.A,.int .i64 x_x10.B,.int .i64 x_x10.C,.int .u64 x_x10.Imm]]⟩)),(4697,some (g.2.2,⟨false,false,1,81,x15.map (eR 1 4 D.bool)⟩))]) (j:=fun s=>KF x15 r11 x_x17 x16 s) ?_ ?_
      ·refine rG<|mV r r<|mV r r<|bN (v:=.bool (x_x17 != r11.1)) r r r r r<|mV r r<|sP 66 (b:=(x_x17 != r11.1)) r ?_ ?_
       ·exact mV r r<|lO (v:=.agg [.int .i64 x_x10.Op,.int .i64 x_x10.A,.int .i64 x_x10.B,.int .i64 x_x10.C,.int .u64 x_x10.Imm]) (z:=.agg [.int .i64 x_x10.Op,.int .i64 x_x10.A,.int .i64 x_x10.B,.int .i64 x_x10.C,.int .u64 x_x10.Imm]) r r r r r r<|mV r r<|bD fun r19 hr19=>cG (x_x10,x_x17) r r r Ug r r (by simp) r hr19 r<|uN (w:=.bool (!r19)) r r r r trivial<|pT r r r r<|nI<|xC (s:=(!r19)) (_,_,_) ((hE ⟨rfl,r,r,r,r,r,r,r,r,r,r,r,r,r,r,r,r,r,trivial⟩ ⟨rfl,r,r,trivial⟩))
       ·exact oF r<|oF r<|oF r<|oF r<|oF r<|pF r r r r<|nI<|xC (s:=false) (_,_,_) ((hE ⟨rfl,r,r,r,r,r,r,r,r,r,r,r,r,r,r,r,r,r,trivial⟩ ⟨rfl,r,r,trivial⟩))
      ·rintro x18 ⟨v4x7,v11x7,v4697x7⟩ nn
       try dsimp only
       unfold KF
       refine cD (c:=x18) r ?_ ?_
       ·exact JH fun row20 hrow20=>JH fun row21 hrow21=>JI fun hnrow20=>Jp (E:=[(2,.clo 82 []),(4,.optr 4 _ 0 0),(9,.osl 4697 _ 0 x15.length),(11,.optr 11 _ 0 0),(12,.int .i64 r11.1),(15,.int .i64 x_x17),(27,.sl (f1.Code.map JN)),(28,.int .i64 (f1.Code.length : Int)),(29,.int .i64 x9),(42,.optr 11 _ 0 0),(43,.int .i64 x_x10.Op),(44,.bool (x_x10.Op == 17)),(45,.bool x12),(51,.bool x13),(57,.sl (x_x14.map JK)),(58,.int .i64 (x_x14.length : Int)),(59,.int .i64 x16)]) (O:=[(4,some (_,⟨false,true,1,30,[.agg [.sl (l2.Out.map (eL JK))]]⟩)),(11,some (_,⟨false,true,5,66,[.agg [.int .i64 x_x10.Op,.int .i64 x_x10.A,.int .i64 x_x10.B,.int .i64 x_x10.C,.int .u64 x_x10.Imm]]⟩)),(4697,some (_,⟨false,false,1,81,((x15.map (eR 1 4 D.bool)).set r11.1.toNat (.hole 4718 _ row20.length)).set x_x17.toNat (.hole 4719 _ row21.length)⟩)),(4718,some (_,⟨false,false,1,4,row20.map D.bool⟩)),(4719,some (_,⟨false,false,1,4,row21.map D.bool⟩))]) (Jr (g:=4697) (i:=r11.1.toNat) (j:=x_x17.toNat) (t1:=622) (t2:=623) D.bool r hrow20 hrow21 hnrow20 (hE ⟨rfl,r,r,r,r,r,r,r,r,r,r,r,r,r,r,r,r,trivial⟩ ⟨rfl,r,r,r,r,trivial⟩)) fun nn=>mV r r<|mV r r<|cK fun hq=>Jk (by simp) r r r r (by simpa using hq)<|Jl (nm:=4718) (q:=row20.length) r r r (JB hrow20 hnrow20)<|mV r r<|mV r r<|mV r r<|cK fun hq=>Jk (by simp) r r r r (by simpa using hq)<|Jl (nm:=4719) (q:=row21.length) r r r (JC hrow21)<|mV r r<|cK fun hq=>iO (l:=row20) (en:=D.bool) r r r r r hq<|bD fun x_o22 hx_o22=>Jh (l:=row20) (en:=D.bool) (q:=x_o22) (q':=true) r r r r r hx_o22 r (fun _=>r) r r r ⟨trivial,trivial,r⟩<|cK fun hq=>iO (l:=row21) (en:=D.bool) r r r r r hq<|bD fun x_o23 hx_o23=>Jh (l:=row21) (en:=D.bool) (q:=x_o23) (q':=true) r r r r r hx_o23 r (fun _=>r) r r r ⟨trivial,trivial,r⟩<|Ki (by kernel_rfl)<|bM<|Lu (E:=[(2,.clo 82 []),(4,.optr 4 _ 0 0),(9,.osl 4697 _ 0 x15.length),(11,.optr 11 _ 0 0),(12,.int .i64 r11.1),(27,.sl (f1.Code.map JN)),(28,.int .i64 (f1.Code.length : Int)),(29,.int .i64 x9),(42,.optr 11 _ 0 0),(43,.int .i64 x_x10.Op),(44,.bool (x_x10.Op == 17)),(45,.bool x12),(51,.bool x13),(57,.sl (x_x14.map JK)),(58,.int .i64 (x_x14.length : Int)),(59,.int .i64 x16)]) (O:=[(4,some (_,⟨false,true,1,30,[.agg [.sl (l2.Out.map (eL JK))]]⟩)),(11,some (_,⟨false,true,5,66,[.agg [.int .i64 x_x10.Op,.int .i64 x_x10.A,.int .i64 x_x10.B,.int .i64 x_x10.C,.int .u64 x_x10.Imm]]⟩)),(4697,some (_,⟨false,false,1,81,((x15.set r11.1.toNat (row20.set x_x17.toNat true)).set x_x17.toNat (row21.set r11.1.toNat true)).map (eR 1 4 D.bool)⟩))]) ((Jn (g:=4697) (g1:=4718) (g2:=4719) (l:=x15) (en:=D.bool) (i:=r11.1.toNat) (j:=x_x17.toNat) (q1:=row20) (q2:=row21) (q1':=row20.set x_x17.toNat true) (q2':=row21.set r11.1.toNat true) hrow20 hrow21 hnrow20 r r r (by simp) (by simp) (fun _=>r) (hE ⟨rfl,r,(Ss (q:=x15.length) r (by simp)),r,r,r,r,r,r,r,r,r,r,r,r,r,trivial⟩ ⟨rfl,r,r,trivial⟩))) fun nn=>rG<|bN (v:=.int .i64 (IntKind.i64.wrap (x16 + 1))) r r r r r<|mV r r<|nI<|xL (s:=((x15.set r11.1.toNat (row20.set x_x17.toNat true)).set x_x17.toNat (row21.set r11.1.toNat true),IntKind.i64.wrap (x16 + 1))) (_,_,_) ((hE ⟨rfl,r,(Ss (q:=x15.length) r (by simp)),r,r,r,r,r,r,r,r,r,r,r,r,r,trivial⟩ ⟨rfl,r,r,trivial⟩))
       ·exact sK<|bM<|xS<|rG<|bN (v:=.int .i64 (IntKind.i64.wrap (x16 + 1))) r r r r r<|mV r r<|nI<|xL (s:=(x15,IntKind.i64.wrap (x16 + 1))) (_,_,_) ((hE ⟨rfl,r,r,r,r,r,r,r,r,r,r,r,r,r,r,r,trivial⟩ ⟨rfl,r,r,trivial⟩))
     ·exact eT<|xE<|lE<|bH<|bM<|xS<|rG<|bN (v:=.int .i64 (IntKind.i64.wrap (x9 + 1))) r r r r r<|mV r r<|nI<|xL (s:=(x15,IntKind.i64.wrap (x9 + 1))) (_,_) ((hE ⟨rfl,r,r,r,r,r,trivial⟩ ⟨rfl,r,trivial⟩))
   ·refine eT<|xE<|lE<|bH<|Lu (E:=[(9,.osl 4697 _ 0 x8.length)]) (O:=[(4697,some (_,⟨false,false,1,81,x8.map (eL D.bool)⟩))]) ((Jq (g:=4697) r (Jw (l:=x8) D.bool (fun _=>r)) (hE ⟨rfl,trivial⟩ ⟨rfl,trivial⟩))) fun nn=>sQ<|rG<|mV r r<|bD fun r24 hr24=>cV x8 r r r OP r r (by simp) (by first | rfl | (simp only [Kh,Km]; rfl) | simp [LJ]) hr24<|aL r r<|aS r r<|nI<|xS<|rT<|NO (b:=(r24,0)) r ?_ r r ?_ r (by decide)
    all_goals first|(simp;done)|(simp;omega)|rfl|(simp [JU,JQ];done)

def AdB : Kb:=(.seq (.reg [P 2 (.box (T 0) 3 27),P 3 (.box (T 1) 1 30),⟨(some 4),(.asg (.c .nils) (some ⟨1,36⟩)),none,[]⟩,P 5 (.asg (C 0) none)] false) (.seq (.reg [P 6 (.ld 3 true (T 2)),P 7 (.ld 1 true (T 3)),P 8 (.call (.c (.clo 81 [])) [(T 6),(T 7),(.c (.clo 82 []))]),P 9 (.ext (T 8) 0),P 10 (.ext (T 8) 1),⟨(some 4),(.asg (T 9) (some ⟨1,36⟩)),none,[]⟩,P 5 (.asg (T 10) none)] false) .ret))
theorem Agm : (Tryd.f47.body.bind (Kc Tryd.prog Tryd.f47.ntmps)) = some AdB:=by kernel_rfl
theorem Agn : Tryd.f47.results.toList.mapM (Kp Tryd.prog) = some [(.t 4),(.t 5)]:=by kernel_rfl
def Rz (a : JO × JV) : List D:=[Kv a.1,Lt a.2]
def Ry (ds : List D) : JO × JV:=(MP (ds.getD 0 .top),PE (ds.getD 1 .top))
theorem Vv (a : JO × JV) : Ry (Rz a) = a:=by simp [Ry,Rz]
def Wj (b : (List (List Int)) × Int) : D:=.tup [.sl (b.1.map (eL JK)),.int .i64 b.2]
def Wi (_b : (List (List Int)) × Int) : List D:=[]
noncomputable def SU : Dw.Spec:=Ka [] .val Rz Ry (fun a=>Of a.1 a.2) Wj Wi
set_option maxHeartbeats 4000000 in
theorem Zg : JX Tryd.prog 47 SU:=by
 refine Kl (Kg (l:=[(340049,MO)]) (by simp [VM])) Tryd.func47 (by decide) Agm Agn (np:=2) (by decide) Vv (fun _=>r) (fun _=>r) (by decide)<|?_
 rintro ⟨f1,l2⟩
 show TrE (specs [(340049,MO)]) AdB (Kr [] .val [(.t 4),(.t 5)] Wj Wi) ⟨[(0,.agg [.int .i64 f1.Params,.sl (f1.Slots.map JP),.sl (f1.Code.map JN)]),(1,.agg [.sl (l2.Out.map (eL JK))])],[],262144⟩ (Of f1 l2)
 refine Kd<|?_
 unfold AdB Of
 refine sQ<|rG<|bX rfl rfl rfl rfl rfl<|bX rfl rfl rfl rfl rfl<|aN (α:=(List Int)) rfl (eL JK) rfl<|aS rfl rfl<|nI<|xS<|sQ<|rG<|lO (v:=.agg [.int .i64 f1.Params,.sl (f1.Slots.map JP),.sl (f1.Code.map JN)]) (z:=.agg [.int .i64 f1.Params,.sl (f1.Slots.map JP),.sl (f1.Code.map JN)]) rfl rfl rfl rfl rfl rfl<|lO (v:=.agg [.sl (l2.Out.map (eL JK))]) (z:=.agg [.sl (l2.Out.map (eL JK))]) rfl rfl rfl rfl rfl rfl<|bD fun r3 hr3=>cV (f1,l2) rfl rfl (show _ = some MO from by kernel_rfl) QT rfl rfl (by simp) r hr3<|eX (v:=.sl (r3.1.map (eL JK))) r r r<|eX (v:=.int .i64 r3.2) r r r<|aL r r<|aS r r<|nI<|xS<|rT<|NO (b:=(r3.1,r3.2)) r ?_ r r ?_ r (by decide)
 all_goals first|(simp;done)|(simp;omega)|rfl|(simp [JU,JQ];done)

def AdX : Kb:=(.seq (.reg [P 2 (.box (T 0) 5 66),P 4 (.asg (.c (.bool false)) none)] false) (.seq (.reg [P 4 (.asg (.c (.bool false)) none)] false) .ret))
theorem Ahe : (Tryd.f84.body.bind (Kc Tryd.prog Tryd.f84.ntmps)) = some AdX:=by kernel_rfl
theorem Ahf : Tryd.f84.results.toList.mapM (Kp Tryd.prog) = some [(.t 4)]:=by kernel_rfl
def PM (a : JL × Int) : List D:=[JN a.1,.int .i64 a.2]
def PL (ds : List D) : JL × Int:=(Qs (ds.getD 0 .top),uI (ds.getD 1 .top))
theorem TM (a : JL × Int) : PL (PM a) = a:=by simp [PL,PM,uI]
def Ui (b : Bool) : D:=.bool b
def Uh (_b : Bool) : List D:=[]
noncomputable def QG : Dw.Spec:=Ka [] .ground PM PL (fun a=>NP a.1 a.2) Ui Uh
set_option maxHeartbeats 4000000 in
theorem Yd : JX Tryd.prog 84 QG:=by
 refine Kl (KM) Tryd.func84 (by decide) Ahe Ahf (np:=2) (by decide) TM (fun _=>r) (fun _=>r) (by decide)<|?_
 rintro ⟨p1,p2⟩
 show TrE (specs []) AdX (Kr [] .ground [(.t 4)] Ui Uh) ⟨[(0,.agg [.int .i64 p1.Op,.int .i64 p1.A,.int .i64 p1.B,.int .i64 p1.C,.int .u64 p1.Imm]),(1,.int .i64 p2)],[],262144⟩ (NP p1 p2)
 refine Kd<|?_
 unfold AdX NP
 refine sQ<|rG<|bX r r r r r<|aS r r<|nI<|xS<|sQ<|rG<|aS r r<|nI<|xS<|rT<|JZ (b:=false) r ?_ r r ?_ r
 all_goals first|(simp;done)|(simp;omega)|rfl|(simp [JU,JQ];done)

end Go.Proofs.YtcelninhkmhjkaaDoor
