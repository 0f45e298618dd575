/-
  Programs on typed data, and the proofs that the code does what they say; written by a program (dx.py).
-/
import Derived.Test.YtfpgidpffhmadaaDoorProg
import Derived.Test.YtfpgidpffhmadaaDoorDc
import Derived.KernelRfl
import Derived.Test.YtfpgidpffhmadaaDoorDxP
import Derived.Test.YtfpgidpffhmadaaDoorDxF1
namespace Go.Proofs.YtfpgidpffhmadaaDoor
open Go Go.Dw Go.Proofs
set_option maxRecDepth 100000
open Go.Dw renaming Aak → mV,Yj → bN,Sn → lO,WN → bD,Ym → cK,Yo → nI,Yr → xS,Aam → rG,Aao → sQ,SI → aO,Yi → aS,Yp → oF,Yk → bL,RN → cV,PM → cG,TK → cR,So → sV,TX → iS,UB → iO,TY → lS,WT → lW,WO → fA,Yg → fF,AbN → eX,AbF → nC,UZ → lF,Vo → sP,QU → pT,Qp → pF,Aal → uN,Yn → nW,Yl → bX,SH → aN,Aay → aL,KH → eB,Ys → cD,WR → bK,Aan → rT,Yv → sK,Yt → eT,Yq → xC,WQ → xL,SK → xR,WU → zR,VZ → lR,Vj → hE,QV → lE,RP → bH,Qq → bM,SJ → bR,RQ → xE,Zc → cP,Yu → lP,TZ → sC,KL → mF,rf → r
def Agp : Ml:=(.seq (.reg [P 2 (.box (T 0) 5 57),⟨(some 4),(.asg (.c .nils) (some ⟨1,3⟩)),none,[]⟩] false) (.seq (.seq (.reg [P 8 (.ld 5 true (T 2)),P 9 (.call (.c (.clo 56 [])) [(T 8)]),M 7 9,P 10 (.ext (T 7) 0),P 11 (.ext (T 7) 1),P 5 (.asg (T 10) none),P 6 (.asg (T 11) none)] false) (.seq (.reg [M 12 6] false) (.cond (T 12) (.reg [M 13 1,M 14 5,P 15 (.call (.c (.clo 94 [])) [(T 13),(T 14)]),⟨(some 1),(.asg (T 15) (some ⟨1,3⟩)),none,[]⟩] false) .skip))) (.seq (.reg [M 16 1,P 17 (.ld 5 true (T 2)),P 18 (.call (.c (.clo 96 [])) [(T 17)]),P 19 (.call (.c (.clo 95 [])) [(T 18)]),P 20 (.call (.c (.clo 73 [])) [(T 16),(T 19)]),⟨(some 4),(.asg (T 20) (some ⟨1,3⟩)),none,[]⟩] false) .ret)))
theorem Ajy : (Tryd.f84.body.bind (Mn Tryd.prog Tryd.f84.ntmps)) = some Agp:=by kernel_rfl
theorem Ajz : Tryd.f84.results.toList.mapM (Mw Tryd.prog) = some [(.t 4)]:=by kernel_rfl
def Xo (a : LS × (List Int)) : List D:=[LV a.1,.sl (a.2.map LR)]
def Xn (ds : List D) : LS × (List Int):=(Sv (ds.getD 0 .top),(uL uI) (ds.getD 1 .top))
theorem Abk (a : LS × (List Int)) : Xn (Xo a) = a:=by simp [Xn,Xo,NF (u:=uI) (en:=LR) (fun _=>rfl)]
def Aca (b : (List Int)) : D:=.sl (b.map LR)
def AbZ (_b : (List Int)) : List D:=[]
noncomputable def ZH : Dw.Spec:=Mk [] .val Xo Xn (fun a=>Vh a.1 a.2) Aca AbZ
set_option maxHeartbeats 4000000 in
theorem AdQ : Mi Tryd.prog 84 ZH:=by
 refine Mu (Mo (l:=[(56,Oq),(94,Vs),(96,Xp),(95,ZD),(73,Ry)]) (by simp [Uk,Acm,AcP,AdG,Zm])) Tryd.func84 (by decide) Ajy Ajz (np:=2) (by decide) Abk (fun _=>r) (fun _=>r) (by decide)<|?_
 rintro ⟨x1,out2⟩
 show TrE (specs [(56,Oq),(94,Vs),(96,Xp),(95,ZD),(73,Ry)]) Agp (Mx [] .val [(.t 4)] Aca AbZ) ⟨[(0,.agg [.int .i64 x1.Op,.int .i64 x1.A,.int .i64 x1.B,.int .i64 x1.C,.int .u64 x1.Imm]),(1,.sl (out2.map LR))],[],262144⟩ (Vh x1 out2)
 refine Mp<|?_
 unfold Agp Vh
 refine sQ<|rG<|bX r r r r r<|aN (α:=Int) r LR r<|nI<|xS<|sQ<|sQ<|rG<|lO (v:=.agg [.int .i64 x1.Op,.int .i64 x1.A,.int .i64 x1.B,.int .i64 x1.C,.int .u64 x1.Imm]) (z:=.agg [.int .i64 x1.Op,.int .i64 x1.A,.int .i64 x1.B,.int .i64 x1.C,.int .u64 x1.Imm]) r r r r r r<|bD fun r3 hr3=>cG x1 r r r Rv r r (by simp) r hr3 r<|mV r r<|eX (v:=.int .i64 r3.1) r r r<|eX (v:=.bool r3.2) r r r<|aS r r<|aS r r<|nI<|xS<|sQ<|rG<|mV r r<|nI<|xS<|cD (c:=r3.2) r ?_ ?_
 ·refine rG<|mV r r<|mV r r<|bD fun r4 hr4=>cV (out2,r3.1) r r r YA r r (by simp) r hr4<|aL r r<|nI<|xS<|sQ<|rG<|mV r r<|lO (v:=.agg [.int .i64 x1.Op,.int .i64 x1.A,.int .i64 x1.B,.int .i64 x1.C,.int .u64 x1.Imm]) (z:=.agg [.int .i64 x1.Op,.int .i64 x1.A,.int .i64 x1.B,.int .i64 x1.C,.int .u64 x1.Imm]) r r r r r r<|bD fun r5 hr5=>cR (l:=r5) (en:=LR) x1 r r r Wt r r (by simp) r hr5 r<|bD fun r6 hr6=>cR (l:=r6) (en:=LR) r5 r r r Yz r r (by simp) (by first | rfl | (simp only [Mt,Mz]; rfl) | simp [Sq]) hr6 r<|bD fun r7 hr7=>cV (r4,r6) r r r Tf r r (by simp) (by first | rfl | (simp only [Mt,Mz]; rfl) | simp [Qt]) hr7<|aL r r<|nI<|xS<|rT<|Ng (b:=r7) r ?_ r r ?_ r
  all_goals first|(simp;done)|(simp;omega)|rfl|(simp [Ma,LZ];done)
 ·refine sK<|xS<|sQ<|rG<|mV r r<|lO (v:=.agg [.int .i64 x1.Op,.int .i64 x1.A,.int .i64 x1.B,.int .i64 x1.C,.int .u64 x1.Imm]) (z:=.agg [.int .i64 x1.Op,.int .i64 x1.A,.int .i64 x1.B,.int .i64 x1.C,.int .u64 x1.Imm]) r r r r r r<|bD fun r8 hr8=>cR (l:=r8) (en:=LR) x1 r r r Wt r r (by simp) r hr8 r<|bD fun r9 hr9=>cR (l:=r9) (en:=LR) r8 r r r Yz r r (by simp) (by first | rfl | (simp only [Mt,Mz]; rfl) | simp [Sq]) hr9 r<|bD fun r10 hr10=>cV (out2,r9) r r r Tf r r (by simp) (by first | rfl | (simp only [Mt,Mz]; rfl) | simp [Qt]) hr10<|aL r r<|nI<|xS<|rT<|Ng (b:=r10) r ?_ r r ?_ r
  all_goals first|(simp;done)|(simp;omega)|rfl|(simp [Ma,LZ];done)

def Agu : Ml:=(.seq (.reg [P 4 (.asg (.c (.int .u64 0)) none)] false) (.seq (.reg [M 5 0,M 6 1,P 7 (.bin .andNot (T 5) (T 6)),P 4 (.asg (T 7) none)] false) .ret))
theorem AjI : (Tryd.f90.body.bind (Mn Tryd.prog Tryd.f90.ntmps)) = some Agu:=by kernel_rfl
theorem AjJ : Tryd.f90.results.toList.mapM (Mw Tryd.prog) = some [(.t 4)]:=by kernel_rfl
def Tj (a : Int × Int) : List D:=[.int .u64 a.1,.int .u64 a.2]
def Ti (ds : List D) : Int × Int:=(uI (ds.getD 0 .top),uI (ds.getD 1 .top))
theorem XG (a : Int × Int) : Ti (Tj a) = a:=by simp [Ti,Tj,uI]
def Yy (b : Int) : D:=.int .u64 b
def Yx (_b : Int) : List D:=[]
noncomputable def UK : Dw.Spec:=Mk [] .ground Tj Ti (fun a=>Qk a.1 a.2) Yy Yx
set_option maxHeartbeats 4000000 in
theorem AbP : Mi Tryd.prog 90 UK:=by
 refine Mu (Nn) Tryd.func90 (by decide) AjI AjJ (np:=2) (by decide) XG (fun _=>r) (fun _=>r) (by decide)<|?_
 rintro ⟨x1,y2⟩
 show TrE (specs []) Agu (Mx [] .ground [(.t 4)] Yy Yx) ⟨[(0,.int .u64 x1),(1,.int .u64 y2)],[],262144⟩ (Qk x1 y2)
 refine Mp<|?_
 unfold Agu Qk
 refine sQ<|rG<|aS r r<|nI<|xS<|sQ<|rG<|mV r r<|mV r r<|bN (v:=.int .u64 (IntKind.u64.wrap ((BitVec.ofInt IntKind.u64.bits x1 &&& ~~~ BitVec.ofInt IntKind.u64.bits y2).toNat))) r r r r r<|aS r r<|nI<|xS<|rT<|Mf (b:=IntKind.u64.wrap ((BitVec.ofInt IntKind.u64.bits x1 &&& ~~~ BitVec.ofInt IntKind.u64.bits y2).toNat)) r ?_ r r ?_ r
 all_goals first|(simp;done)|(simp;omega)|rfl|(simp [Ma,LZ];done)

def OG (a : LW × LW) : List D:=[MC a.1,MC a.2,.clo 90 []]
def OE (ds : List D) : LW × LW:=(NW (ds.getD 0 .top),NW (ds.getD 1 .top))
theorem QW (a : LW × LW) : OE (OG a) = a:=by simp [OE,OG]
def Rr (b : LW × LW × LW) : D:=MC b.1
def Rq (b : LW × LW × LW) : List D:=[MC b.2.1,MC b.2.2]
noncomputable def NQ : Dw.Spec:=Mk [(0,(8,120)),(1,(8,120))] (.ptr 8 120) OG OE (fun a=>Nc a.1 a.2) Rr Rq
set_option maxHeartbeats 4000000 in
theorem Vv : Mi Tryd.prog 87 NQ:=by
 refine Mu (Mo (l:=[(90,UK)]) (by simp [AbP])) Tryd.func87 (by decide) AeQ AeR (np:=3) (by decide) QW (fun _=>r) (fun _=>r) (by decide)<|?_
 rintro ⟨s1,t2⟩
 show TrE (specs [(90,UK)]) AdN (Mx [(0,(8,120)),(1,(8,120))] (.ptr 8 120) [(.t 6)] Rr Rq) ⟨[(0,.optr 8192 0 0 0),(1,.optr 8193 1 0 0),(2,.clo 90 [])],[(8192,some (0,⟨false,true,8,120,[.agg [.int .u64 s1.a0,.int .u64 s1.a1,.int .u64 s1.a2,.int .u64 s1.a3,.int .u64 s1.a4,.int .u64 s1.a5,.int .u64 s1.a6,.int .u64 s1.a7]]⟩)),(8193,some (1,⟨false,true,8,120,[.agg [.int .u64 t2.a0,.int .u64 t2.a1,.int .u64 t2.a2,.int .u64 t2.a3,.int .u64 t2.a4,.int .u64 t2.a5,.int .u64 t2.a6,.int .u64 t2.a7]]⟩))],262144⟩ (Nc s1 t2)
 refine Mp<|?_
 unfold AdN Nc
 refine sQ<|rG<|aS r r<|nI<|xS<|sQ<|rG<|bL (cs:=[.int .u64 0,.int .u64 0,.int .u64 0,.int .u64 0,.int .u64 0,.int .u64 0,.int .u64 0,.int .u64 0]) (ps:=[]) r r r r<|bX r r r r r<|aS r r<|nI<|xS<|sQ<|sQ<|rG<|mV r r<|nI<|xS<|bK<|lP (E:=fun (s : LW × Int) (g : Nat)=>[(0,.optr 8192 0 0 0),(1,.optr 8193 1 0 0),(2,.clo 90 []),(7,.optr 10 g 0 0),(11,.int .i64 s.2)]) (O:=fun s g=>[(10,some (g,⟨false,true,8,120,[.agg [.int .u64 s.1.a0,.int .u64 s.1.a1,.int .u64 s.1.a2,.int .u64 s.1.a3,.int .u64 s.1.a4,.int .u64 s.1.a5,.int .u64 s.1.a6,.int .u64 s.1.a7]]⟩)),(8192,some (0,⟨false,true,8,120,[.agg [.int .u64 s1.a0,.int .u64 s1.a1,.int .u64 s1.a2,.int .u64 s1.a3,.int .u64 s1.a4,.int .u64 s1.a5,.int .u64 s1.a6,.int .u64 s1.a7]]⟩)),(8193,some (1,⟨false,true,8,120,[.agg [.int .u64 t2.a0,.int .u64 t2.a1,.int .u64 t2.a2,.int .u64 t2.a3,.int .u64 t2.a4,.int .u64 t2.a5,.int .u64 t2.a6,.int .u64 t2.a7]]⟩))]) (body:=fun s=>Ni s1 t2 s.1 s.2) (s:=((LW.mk 0 0 0 0 0 0 0 0),0)) _ ((hE ⟨rfl,r,r,r,r,trivial⟩ ⟨rfl,r,r,trivial⟩))<|?_
 rintro ⟨x3,x4⟩ v10x1 nn
 try dsimp only
 unfold Ni
 refine sQ<|rG<|bN (v:=.bool (decide (x4 < 8))) r r r r r<|nI<|xS<|sQ<|cD (c:=(decide (x4 < 8))) r ?_ ?_
 ·exact sK<|xS<|sQ<|bK<|sQ<|rG<|mV r r<|aS r r<|nI<|xS<|rG<|mV r r<|mV r r<|mV r r<|mV r r<|mV r r<|nC r r r<|cK fun hq=>RO r r r hq<|bD fun s_e5 hs_e5=>Sm (q:=s_e5) (l:=s1.toList) (en:=UQ) (j:=x4.toNat) (by simp) r r r hs_e5 r (fun _=>r)<|mV r r<|mV r r<|nC r r r<|cK fun hq=>RO r r r hq<|bD fun t_e6 ht_e6=>Sm (q:=t_e6) (l:=t2.toList) (en:=UQ) (j:=x4.toNat) (by simp) r r r ht_e6 r (fun _=>r)<|bD fun r7 hr7=>cG (s_e5,t_e6) r r r XG r r (by simp) r hr7 r<|nC r r r<|cK fun hq=>RO r r r hq<|bD fun x_o8 hx_o8=>AcI (q:=x_o8) (q':=r7) (l:=x3.toList) (en:=UQ) (j:=x4.toNat) (z':=.agg [.int .u64 ((x3.set x4.toNat r7).a0),.int .u64 ((x3.set x4.toNat r7).a1),.int .u64 ((x3.set x4.toNat r7).a2),.int .u64 ((x3.set x4.toNat r7).a3),.int .u64 ((x3.set x4.toNat r7).a4),.int .u64 ((x3.set x4.toNat r7).a5),.int .u64 ((x3.set x4.toNat r7).a6),.int .u64 ((x3.set x4.toNat r7).a7)]) (by simp) r r r r r hx_o8 r r (congrArg (fun l=>D.agg (l.map UQ)) (Ob x3 x4.toNat r7).symm)<|Mj (by kernel_rfl)<|bM<|xS<|rG<|bN (v:=.int .i64 (IntKind.i64.wrap (x4 + 1))) r r r r r<|mV r r<|nI<|xL (s:=((x3.set x4.toNat r7),IntKind.i64.wrap (x4 + 1))) _ ((hE ⟨rfl,r,r,r,r,trivial⟩ ⟨rfl,r,r,trivial⟩))
 ·refine eT<|xE<|lE<|bH<|xS<|sQ<|rG<|mV r r<|aS r r<|nI<|xS<|rT<|AbM (b:=(x3,s1,t2)) r ?_ r ?_ r r ?_ r
  all_goals first|(simp;done)|(simp;omega)|rfl|(simp [Ma,LZ];done)

def Agh : Ml:=(.seq (.reg [⟨(some 4),(.asg (.c .nils) (some ⟨1,3⟩)),none,[]⟩] false) (.seq (.reg [M 5 0,P 6 (.call (.c (.clo 86 [])) [(T 5)]),M 7 1,P 8 (.call (.c (.clo 86 [])) [(T 7)]),P 9 (.call (.c (.clo 87 [])) [(T 6),(T 8),(.c (.clo 90 []))]),P 10 (.call (.c (.clo 89 [])) [(T 9)]),⟨(some 4),(.asg (T 10) (some ⟨1,3⟩)),none,[]⟩] false) .ret))
theorem Aji : (Tryd.f74.body.bind (Mn Tryd.prog Tryd.f74.ntmps)) = some Agh:=by kernel_rfl
theorem Ajj : Tryd.f74.results.toList.mapM (Mw Tryd.prog) = some [(.t 4)]:=by kernel_rfl
def UM (a : (List Int) × (List Int)) : List D:=[.sl (a.1.map LR),.sl (a.2.map LR)]
def UL (ds : List D) : (List Int) × (List Int):=((uL uI) (ds.getD 0 .top),(uL uI) (ds.getD 1 .top))
theorem Zk (a : (List Int) × (List Int)) : UL (UM a) = a:=by simp [UL,UM,NF (u:=uI) (en:=LR) (fun _=>rfl)]
def Wn (b : (List Int)) : D:=.sl (b.map LR)
def ZU (_b : (List Int)) : List D:=[]
noncomputable def Wo : Dw.Spec:=Mk [] .val UM UL (fun a=>Qs a.1 a.2) Wn ZU
set_option maxHeartbeats 4000000 in
theorem Acx : Mi Tryd.prog 74 Wo:=by
 refine Mu (Mo (l:=[(86,NG),(372823,NQ),(89,MT)]) (by simp [RX,Vv,Pq])) Tryd.func74 (by decide) Aji Ajj (np:=2) (by decide) Zk (fun _=>r) (fun _=>r) (by decide)<|?_
 rintro ⟨a1,b2⟩
 show TrE (specs [(86,NG),(372823,NQ),(89,MT)]) Agh (Mx [] .val [(.t 4)] Wn ZU) ⟨[(0,.sl (a1.map LR)),(1,.sl (b2.map LR))],[],262144⟩ (Qs a1 b2)
 refine Mp<|?_
 unfold Agh Qs
 refine sQ<|rG<|aN (α:=Int) r LR r<|nI<|xS<|sQ<|rG<|mV r r<|bD fun r3 hr3=>cP a1 r r r Oo r r (by simp) r hr3<|mV r r<|bD fun r4 hr4=>cP b2 r r r Oo r r (by simp) rfl hr4<|bD fun r5 hr5=>cP (r3,r4) rfl rfl (show _ = some NQ from by kernel_rfl) QW rfl rfl (by simp) r hr5<|bD fun r6 hr6=>cR (l:=r6.1) (en:=LR) r5.1 r r r Oi r r (by simp) r hr6 r<|aO (l:=r6.1) (en:=LR) r r r r<|nI<|xS<|rT<|Ng (b:=r6.1) r ?_ r r ?_ (by first | rfl | (simp only [Mt,Mz]; rfl) | simp [Wn])
 all_goals first|(simp;done)|(simp;omega)|rfl|(simp [Ma,LZ];done)

def Agf : Ml:=(.seq (.reg [P 5 (.asg (.c (.bool false)) none)] false) (.seq (.reg [P 6 (.ld 1 false (T 1)),M 7 0,P 8 (.fldA 0 (T 2)),⟨(some 9),(.ld 1 false (T 8)),none,[2]⟩,P 10 (.ld 1 false (T 3)),⟨(some 11),(.ixA 1 (T 9) (T 10)),none,[3,4]⟩,⟨(some 12),(.ld 1 false (T 11)),none,[5]⟩,⟨(some 13),(.call (.c (.clo 74 [])) [(T 7),(T 12)]),none,[1,6]⟩,⟨(some 14),(.call (.c (.clo 73 [])) [(T 6),(T 13)]),none,[0,7,7]⟩,⟨none,(.st 1 (T 1) (T 14)),none,[8,8,0,1,2,3,4,5,6,7,8]⟩] true) (.seq (.reg [P 5 (.asg (.c (.bool true)) none)] false) .ret)))
theorem Aje : (Tryd.f72.body.bind (Mn Tryd.prog Tryd.f72.ntmps)) = some Agf:=by kernel_rfl
theorem Ajf : Tryd.f72.results.toList.mapM (Mw Tryd.prog) = some [(.t 5)]:=by kernel_rfl
def Pa (a : (List Int) × (List Int) × Me × Int) : List D:=[.sl (a.1.map LR),.sl (a.2.1.map LR),.fptr (Nl a.2.2.1) 0,.fptr (.int .i64 a.2.2.2) 0]
def OZ (ds : List D) : (List Int) × (List Int) × Me × Int:=((uL uI) (ds.getD 0 .top),(uL uI) (ds.getD 1 .top),Pb (fpD (ds.getD 2 .top)),uI (fpD (ds.getD 3 .top)))
theorem RE (a : (List Int) × (List Int) × Me × Int) : OZ (Pa a) = a:=by simp [OZ,Pa,uI,fpD,NF (u:=uI) (en:=LR) (fun _=>rfl)]
def RV (b : Bool × (List Int)) : D:=.bool b.1
def RU (b : Bool × (List Int)) : List D:=[.sl (b.2.map LR)]
noncomputable def Pu : Dw.Spec:=Mk [(1,(1,42))] .val Pa OZ (fun a=>NH a.1 a.2.1 a.2.2.1 a.2.2.2) RV RU
set_option maxHeartbeats 4000000 in
theorem Wv : Mi Tryd.prog 72 Pu:=by
 refine Mu (Mo (l:=[(74,Wo),(73,Ry)]) (by simp [Acx,Zm])) Tryd.func72 (by decide) Aje Ajf (np:=4) (by decide) RE (fun _=>r) (fun _=>r) (by decide)<|?_
 rintro ⟨need1,cap2,cap3,cap4⟩
 show TrE (specs [(74,Wo),(73,Ry)]) Agf (Mx [(1,(1,42))] .val [(.t 5)] RV RU) ⟨[(0,.sl (need1.map LR)),(1,.optr 8193 1 0 0),(2,.fptr (.agg [.sl (cap3.Out.map (eL LR))]) 0),(3,.fptr (.int .i64 cap4) 0)],[(8193,some (1,⟨false,true,1,42,[.sl (cap2.map LR)]⟩))],262144⟩ (NH need1 cap2 cap3 cap4)
 refine Mp<|?_
 unfold Agf NH
 refine sQ<|rG<|aS r r<|nI<|xS<|sQ<|rG<|lO (v:=.sl (cap2.map LR)) (z:=.sl (cap2.map LR)) r r r r r r<|mV r r<|fF r r<|lF (v:=.sl (cap3.Out.map (eL LR))) r r r r<|lF (v:=.int .i64 cap4) r r r r<|bD fun x_x5 hx_x5=>iS (en:=(eL LR)) r r r hx_x5 r<|lF (v:=.sl (x_x5.map LR)) r r r r<|bD fun r6 hr6=>cV (need1,x_x5) r r r Zk r r (by simp) r hr6<|bD fun r7 hr7=>cV (cap2,r6) r r r Tf r r (by simp) r hr7<|UC (i:=0) (es':=[.sl (r7.map LR)]) r r r r r r r (by first | trivial | (simp; done) | (simp; omega)) r r r r r r<|Mj (by kernel_rfl)<|xS<|sQ<|rG<|aS r r<|nI<|xS<|rT<|Ng (b:=(true,r7)) r ?_ r r ?_ r
 all_goals first|(simp;done)|(simp;omega)|rfl|(simp [Ma,LZ];done)

def Agd : Ml:=(.seq (.reg [P 4 (.box (T 0) 3 33),P 8 (.asg (.c (.bool false)) none)] false) (.seq (.seq (.reg [P 11 (.ld 3 true (T 4)),M 12 1,P 13 (.call (.c (.clo 83 [])) [(T 11),(T 12)]),P 14 (.len false (T 13)),P 15 (.mv (C 0))] false) (.block 0 (.loop (.seq (.reg [P 16 (.bin .lss (T 15) (T 14))] false) (.seq (.cond (T 16) .skip (.exit 0)) (.seq (.block 1 (.seq (.reg [P 17 (.ixA 1 (T 13) (T 15)),P 18 (.ld 1 false (T 17)),P 10 (.asg (T 18) none)] false) (.seq (.reg [M 19 3,P 20 (.fldA 2 (T 4)),⟨(some 21),(.ld 1 false (T 20)),none,[1]⟩,M 22 10,⟨(some 23),(.ixA 5 (T 21) (T 22)),none,[2,3]⟩,⟨(some 24),(.ld 5 true (T 23)),none,[4]⟩,M 25 2,M 26 10,⟨(some 27),(.call (T 25) [(T 26)]),none,[6,7]⟩,⟨(some 28),(.call (.c (.clo 84 [])) [(T 24),(T 27)]),none,[5,8,8]⟩,⟨(some 29),(.call (T 19) [(T 28)]),none,[0,9,9]⟩,⟨(some 30),(.un .not (T 29)),none,[10]⟩] true) (.cond (T 30) (.seq (.reg [P 8 (.asg (.c (.bool false)) none)] false) .ret) .skip)))) (.reg [P 31 (.bin .add (T 15) (C 1)),M 15 31] false))))))) (.seq (.reg [P 8 (.asg (.c (.bool true)) none)] false) .ret)))
theorem Aja : (Tryd.f70.body.bind (Mn Tryd.prog Tryd.f70.ntmps)) = some Agd:=by kernel_rfl
theorem Ajb : Tryd.f70.results.toList.mapM (Mw Tryd.prog) = some [(.t 8)]:=by kernel_rfl
def Nh (a : LX × Int × Me × (List Int) × Me × Int) : List D:=[MF a.1,.int .i64 a.2.1,.clo 85 [.fptr (Nl a.2.2.1) 0],.clo 72 [.sl (a.2.2.2.1.map LR),.fptr (Nl a.2.2.2.2.1) 0,.fptr (.int .i64 a.2.2.2.2.2) 0]]
def NM (ds : List D) : LX × Int × Me × (List Int) × Me × Int:=(NJ (ds.getD 0 .top),uI (ds.getD 1 .top),Pb (fpD (KP (ds.getD 2 .top) 0)),(uL uI) (KP (ds.getD 3 .top) 0),Pb (fpD (KP (ds.getD 3 .top) 1)),uI (fpD (KP (ds.getD 3 .top) 2)))
theorem Pv (a : LX × Int × Me × (List Int) × Me × Int) : NM (Nh a) = a:=by simp [NM,Nh,uI,fpD,KP,NF (u:=uI) (en:=LR) (fun _=>rfl)]
def PI (b : Bool × (List Int)) : D:=.bool b.1
def PH (b : Bool × (List Int)) : List D:=[.sl (b.2.map LR)]
noncomputable def Nu : Dw.Spec:=Mk [(256,(1,42))] .val Nh NM (fun a=>MN a.1 a.2.1 a.2.2.1 a.2.2.2.1 a.2.2.2.2.1 a.2.2.2.2.2) PI PH
set_option maxHeartbeats 4000000 in
theorem Tz : Mi Tryd.prog 70 Nu:=by
 refine Mu (Mo (l:=[(83,ZI),(85,RG),(84,ZH),(72,Pu)]) (by simp [AdR,ZJ,AdQ,Wv])) Tryd.func70 (by decide) Aja Ajb (np:=4) (by decide) Pv (fun _=>r) (fun _=>r) (by decide)<|?_
 rintro ⟨f1,k2,set3,visit4,visit5,visit6⟩
 show TrE (specs [(83,ZI),(85,RG),(84,ZH),(72,Pu)]) Agd (Mx [(256,(1,42))] .val [(.t 8)] PI PH) ⟨[(0,.agg [.int .i64 f1.Params,.sl (f1.Slots.map LY),.sl (f1.Code.map LV)]),(1,.int .i64 k2),(2,.clo 85 [.fptr (.agg [.sl (set3.Out.map (eL LR))]) 0]),(3,.clo 72 [.optr 8448 256 0 0,.fptr (.agg [.sl (visit5.Out.map (eL LR))]) 0,.fptr (.int .i64 visit6) 0])],[(8448,some (256,⟨false,true,1,42,[.sl (visit4.map LR)]⟩))],262144⟩ (MN f1 k2 set3 visit4 visit5 visit6)
 refine Mp<|?_
 unfold Agd MN
 refine sQ<|rG<|bX r r r r r<|aS r r<|nI<|xS<|sQ<|sQ<|rG<|lO (v:=.agg [.int .i64 f1.Params,.sl (f1.Slots.map LY),.sl (f1.Code.map LV)]) (z:=.agg [.int .i64 f1.Params,.sl (f1.Slots.map LY),.sl (f1.Code.map LV)]) r r r r r r<|mV r r<|bD fun r7 hr7=>cR (l:=r7) (en:=LR) (f1,k2) r r r Abl r r (by simp) r hr7 r<|lW r r<|mV r r<|nI<|xS<|bK<|lP (E:=fun (s : (List Int) × Int) (g : Nat × Nat)=>[(2,.clo 85 [.fptr (.agg [.sl (set3.Out.map (eL LR))]) 0]),(3,.clo 72 [.optr 8448 256 0 0,.fptr (.agg [.sl (visit5.Out.map (eL LR))]) 0,.fptr (.int .i64 visit6) 0]),(4,.optr 4 g.1 0 0),(13,.osl 13 g.2 0 r7.length),(14,.int .i64 (r7.length : Int)),(15,.int .i64 s.2)]) (O:=fun s g=>[(4,some (g.1,⟨false,true,3,33,[.agg [.int .i64 f1.Params,.sl (f1.Slots.map LY),.sl (f1.Code.map LV)]]⟩)),(13,some (g.2,⟨false,false,1,3,r7.map LR⟩)),(8448,some (256,⟨false,true,1,42,[.sl (s.1.map LR)]⟩))]) (body:=fun s=>MJ r7 f1 set3 visit5 visit6 s.1 s.2) (s:=(visit4,0)) (_,_) ((hE ⟨rfl,r,r,r,r,r,trivial⟩ ⟨rfl,r,r,trivial⟩))<|?_
 rintro ⟨x8,x9⟩ ⟨v4x1,v13x1⟩ nn
 try dsimp only
 unfold MJ
 refine sQ<|rG<|bN (v:=.bool (decide (x9 < (r7.length : Int)))) r r r r r<|nI<|xS<|sQ<|cD (c:=(decide (x9 < (r7.length : Int)))) r ?_ ?_
 ·refine sK<|xS<|sQ<|bK<|sQ<|rG<|cK fun hq=>iO (l:=r7) (en:=LR) r r r r r hq<|bD fun x_e10 hx_e10=>lO (v:=.int .i64 x_e10) (z:=LR x_e10) r r r (OU hx_e10) r r<|aS r r<|nI<|xS<|sQ<|rG<|mV r r<|fA r r<|lO (v:=.sl (f1.Code.map LV)) (z:=.agg [.int .i64 f1.Params,.sl (f1.Slots.map LY),.sl (f1.Code.map LV)]) r r r r r r<|mV r r<|bD fun x_x11 hx_x11=>iS (en:=LV) r r r hx_x11 r<|lF (v:=.agg [.int .i64 x_x11.Op,.int .i64 x_x11.A,.int .i64 x_x11.B,.int .i64 x_x11.C,.int .u64 x_x11.Imm]) r r r r<|mV r r<|mV r r<|bD fun r12 hr12=>cV (x_e10,set3) r r r Uy r r (by simp) r hr12<|bD fun r13 hr13=>cV (x_x11,r12) r r r Abk r r (by simp) r hr13<|bD fun r14 hr14=>cV (r13,x8,visit5,visit6) r r r RE r r (by simp) r hr14<|uN (w:=.bool (!r14.1)) r r r r trivial<|Mj (by kernel_rfl)<|xS<|cD (c:=(!r14.1)) r ?_ ?_
  ·refine sQ<|rG<|aS r r<|nI<|xS<|rT<|bR<|xR<|lR<|bR<|xR<|Ng (b:=(false,r14.2)) r ?_ r r ?_ r
   all_goals first|(simp;done)|(simp;omega)|rfl|(simp [Ma,LZ];done)
  ·exact sK<|bM<|xS<|rG<|bN (v:=.int .i64 (IntKind.i64.wrap (x9 + 1))) r r r r r<|mV r r<|nI<|xL (s:=(r14.2,IntKind.i64.wrap (x9 + 1))) (_,_) ((hE ⟨rfl,r,r,r,r,r,trivial⟩ ⟨rfl,r,r,trivial⟩))
 ·refine eT<|xE<|lE<|bH<|xS<|sQ<|rG<|aS r r<|nI<|xS<|rT<|Ng (b:=(true,x8)) r ?_ r r ?_ r
  all_goals first|(simp;done)|(simp;omega)|rfl|(simp [Ma,LZ];done)

def AfK : Ml:=(.seq (.reg [P 2 (.box (T 0) 3 33),P 3 (.box (T 1) 1 37),P 4 (.asg (C 0) none),P 5 (.asg (C 0) none),P 6 (.asg (.c (.bool false)) none)] false) (.seq (.seq (.reg [P 9 (.ld 3 true (T 2)),P 10 (.ld 1 true (T 3)),P 11 (.call (.c (.clo 43 [])) [(T 9),(T 10)]),P 12 (.un .not (T 11))] false) (.cond (T 12) (.seq (.reg [P 4 (.asg (C 0) none),P 5 (.asg (C 0) none),P 6 (.asg (.c (.bool false)) none)] false) .ret) .skip)) (.seq (.seq (.reg [P 13 (.fldA 2 (T 2)),P 14 (.ld 1 false (T 13)),P 15 (.len false (T 14)),P 16 (.mv (C 0))] false) (.block 0 (.loop (.seq (.reg [P 17 (.bin .lss (T 16) (T 15))] false) (.seq (.cond (T 17) .skip (.exit 0)) (.seq (.block 1 (.seq (.reg [M 18 16,P 7 (.new (.int .i64 0) 1 3),⟨none,(.st 1 (T 7) (T 18)),none,[]⟩] false) (.seq (.reg [P 8 (.new .nils 1 42)] false) (.seq (.reg [P 19 (.ld 3 true (T 2)),P 20 (.ld 1 false (T 7)),P 21 (.ld 1 true (T 3)),⟨(some 22),(.call (.c (.clo 71 [])) [(T 21)]),none,[2]⟩,P 23 (.mkf 72 [(T 8),(T 3),(T 7)]),⟨(some 24),(.call (.c (.clo 70 [])) [(T 19),(T 20),(T 22),(T 23)]),none,[0,1,3,4,3]⟩] true) (.seq (.reg [P 25 (.ld 1 false (T 8)),P 26 (.len false (T 25)),P 27 (.bin .gtr (T 26) (C 0))] false) (.cond (T 27) (.seq (.reg [P 28 (.ld 1 false (T 7)),P 29 (.ld 1 false (T 8)),⟨(some 30),(.ixA 1 (T 29) (C 0)),none,[1]⟩,⟨(some 31),(.ld 1 false (T 30)),none,[2]⟩,⟨(some 4),(.asg (T 28) none),none,[0,0]⟩,⟨(some 5),(.asg (T 31) none),none,[3,4,0,1,2,3,4]⟩,⟨(some 6),(.asg (.c (.bool true)) none),none,[5,0,1,2,3,4,5]⟩] true) .ret) .skip)))))) (.reg [P 32 (.bin .add (T 16) (C 1)),M 16 32] false))))))) (.seq (.reg [P 4 (.asg (C 0) none),P 5 (.asg (C 0) none),P 6 (.asg (.c (.bool false)) none)] false) .ret))))
theorem Aio : (Tryd.f44.body.bind (Mn Tryd.prog Tryd.f44.ntmps)) = some AfK:=by kernel_rfl
theorem Aip : Tryd.f44.results.toList.mapM (Mw Tryd.prog) = some [(.t 4),(.t 5),(.t 6)]:=by kernel_rfl
def Ta (a : LX × Me) : List D:=[MF a.1,Nl a.2]
def SZ (ds : List D) : LX × Me:=(NJ (ds.getD 0 .top),Pb (ds.getD 1 .top))
theorem Xh (a : LX × Me) : SZ (Ta a) = a:=by simp [SZ,Ta]
def XY (b : Int × Int × Bool) : D:=.tup [.int .i64 b.1,.int .i64 b.2.1,.bool b.2.2]
def XX (_b : Int × Int × Bool) : List D:=[]
noncomputable def Um : Dw.Spec:=Mk [] .ground Ta SZ (fun a=>PG a.1 a.2) XY XX
set_option maxHeartbeats 4000000 in
theorem Abo : Mi Tryd.prog 44 Um:=by
 refine Mu (Mo (l:=[(43,Pw),(71,UR),(1225089094,Nu)]) (by simp [Wg,AbS,Tz])) Tryd.func44 (by decide) Aio Aip (np:=2) (by decide) Xh (fun _=>r) (fun _=>r) (by decide)<|?_
 rintro ⟨f1,l2⟩
 show TrE (specs [(43,Pw),(71,UR),(1225089094,Nu)]) AfK (Mx [] .ground [(.t 4),(.t 5),(.t 6)] XY XX) ⟨[(0,.agg [.int .i64 f1.Params,.sl (f1.Slots.map LY),.sl (f1.Code.map LV)]),(1,.agg [.sl (l2.Out.map (eL LR))])],[],262144⟩ (PG f1 l2)
 refine Mp<|?_
 unfold AfK PG
 refine sQ<|rG<|bX r r r r r<|bX r r r r r<|aS r r<|aS r r<|aS r r<|nI<|Qj (E:=[(2,.optr 2 _ 0 0),(3,.fptr (.agg [.sl (l2.Out.map (eL LR))]) 0)]) (O:=[(2,some (_,⟨false,true,3,33,[.agg [.int .i64 f1.Params,.sl (f1.Slots.map LY),.sl (f1.Code.map LV)]]⟩))]) ((Kx (g:=3) r (by first | rfl | (simp [cells,frp,Fh,Ma]; done)) (hE ⟨(by first | rfl | (simp [BM,lkO,frp,Fh,frO]; done) | (simp [BM,lkO,frp,Fh,frO]; rfl) | (simp [BM,lkO,frp,Fh,frO,nbq]; done)),(by first | rfl | (simp [BM,lkO,frp,Fh,frO]; done) | (simp [BM,lkO,frp,Fh,frO]; rfl) | (simp [BM,lkO,frp,Fh,frO,nbq]; done)),trivial⟩ ⟨(by first | rfl | (simp [BM,lkO,frp,Fh,frO]; done) | (simp [BM,lkO,frp,Fh,frO]; rfl) | (simp [BM,lkO,frp,Fh,frO,nbq]; done)),trivial⟩))) fun nn=>sQ<|sQ<|rG<|lO (v:=.agg [.int .i64 f1.Params,.sl (f1.Slots.map LY),.sl (f1.Code.map LV)]) (z:=.agg [.int .i64 f1.Params,.sl (f1.Slots.map LY),.sl (f1.Code.map LV)]) r r r r r r<|lF (v:=.agg [.sl (l2.Out.map (eL LR))]) r r r r<|bD fun r3 hr3=>cG (f1,l2) r r r Tb r r (by simp) r hr3 r<|uN (w:=.bool (!r3)) r r r r trivial<|nI<|xS<|cD (c:=(!r3)) r ?_ ?_
 ·refine sQ<|rG<|aS r r<|aS r r<|aS r r<|nI<|xS<|rT<|xR<|MB (b:=(0,0,false)) r ?_ r r ?_ r (by decide)
  all_goals first|(simp;done)|(simp;omega)|rfl|(simp [Ma,LZ];done)
 ·refine sK<|xS<|sQ<|sQ<|rG<|fA r r<|lO (v:=.sl (f1.Code.map LV)) (z:=.agg [.int .i64 f1.Params,.sl (f1.Slots.map LY),.sl (f1.Code.map LV)]) r r r r r r<|lS r r<|mV r r<|nI<|xS<|bK<|lP (E:=fun (s : Int) (g : Nat)=>[(2,.optr 2 g 0 0),(3,.fptr (.agg [.sl (l2.Out.map (eL LR))]) 0),(15,.int .i64 (f1.Code.length : Int)),(16,.int .i64 s)]) (O:=fun s g=>[(2,some (g,⟨false,true,3,33,[.agg [.int .i64 f1.Params,.sl (f1.Slots.map LY),.sl (f1.Code.map LV)]]⟩))]) (body:=fun s=>Re f1 l2 s) (s:=0) _ ((hE ⟨rfl,r,r,r,trivial⟩ ⟨rfl,trivial⟩))<|?_
  rintro x4 v2x1 nn
  try dsimp only
  unfold Re
  refine sQ<|rG<|bN (v:=.bool (decide (x4 < (f1.Code.length : Int)))) r r r r r<|nI<|xS<|sQ<|cD (c:=(decide (x4 < (f1.Code.length : Int)))) r ?_ ?_
  ·refine sK<|xS<|sQ<|bK<|sQ<|rG<|mV r r<|nW r<|sV (z':=.int .i64 x4) r r r r r r r r r<|nI<|Qj (E:=[(2,.optr 2 _ 0 0),(3,.fptr (.agg [.sl (l2.Out.map (eL LR))]) 0),(7,.fptr (.int .i64 x4) 0),(15,.int .i64 (f1.Code.length : Int)),(16,.int .i64 x4)]) (O:=[(2,some (_,⟨false,true,3,33,[.agg [.int .i64 f1.Params,.sl (f1.Slots.map LY),.sl (f1.Code.map LV)]]⟩))]) ((Kx (g:=7) r (by first | rfl | (simp [cells,frp,Fh,Ma]; done)) (hE ⟨(by first | rfl | (simp [BM,lkO,frp,Fh,frO]; done) | (simp [BM,lkO,frp,Fh,frO]; rfl) | (simp [BM,lkO,frp,Fh,frO,nbq]; done)),(by first | rfl | (simp [BM,lkO,frp,Fh,frO]; done) | (simp [BM,lkO,frp,Fh,frO]; rfl) | (simp [BM,lkO,frp,Fh,frO,nbq]; done)),(by first | rfl | (simp [BM,lkO,frp,Fh,frO]; done) | (simp [BM,lkO,frp,Fh,frO]; rfl) | (simp [BM,lkO,frp,Fh,frO,nbq]; done)),(by first | rfl | (simp [BM,lkO,frp,Fh,frO]; done) | (simp [BM,lkO,frp,Fh,frO]; rfl) | (simp [BM,lkO,frp,Fh,frO,nbq]; done)),(by first | rfl | (simp [BM,lkO,frp,Fh,frO]; done) | (simp [BM,lkO,frp,Fh,frO]; rfl) | (simp [BM,lkO,frp,Fh,frO,nbq]; done)),trivial⟩ ⟨(by first | rfl | (simp [BM,lkO,frp,Fh,frO]; done) | (simp [BM,lkO,frp,Fh,frO]; rfl) | (simp [BM,lkO,frp,Fh,frO,nbq]; done)),trivial⟩))) fun nn=>sQ<|rG<|nW r<|nI<|xS<|sQ<|rG<|lO (v:=.agg [.int .i64 f1.Params,.sl (f1.Slots.map LY),.sl (f1.Code.map LV)]) (z:=.agg [.int .i64 f1.Params,.sl (f1.Slots.map LY),.sl (f1.Code.map LV)]) r r r r r r<|lF (v:=.int .i64 x4) r r r r<|lF (v:=.agg [.sl (l2.Out.map (eL LR))]) r r r r<|bD fun r5 hr5=>cV l2 r r r XZ r r (by simp) r hr5<|mF (caps:=[.optr 8 _ 0 0,.fptr (.agg [.sl (l2.Out.map (eL LR))]) 0,.fptr (.int .i64 x4) 0]) r r (by simp [FW])<|bD fun r6 hr6=>cV (f1,x4,r5,[],l2,x4) rfl rfl (show _ = some Nu from by kernel_rfl) Pv rfl rfl (by simp) (by first | rfl | (simp only [Mt,Mz]; rfl) | simp [Nh,MF,Nl,Nl]) hr6<|Mj (by kernel_rfl)<|xS<|sQ<|rG<|lO (v:=.sl (r6.2.map LR)) (z:=.sl (r6.2.map LR)) r r r r r r<|lS r r<|bN (v:=.bool (decide ((r6.2.length : Int) > 0))) r r r r r<|nI<|xS<|cD (c:=(decide ((r6.2.length : Int) > 0))) r ?_ ?_
   ·refine sQ<|rG<|lF (v:=.int .i64 x4) r r r r<|lO (v:=.sl (r6.2.map LR)) (z:=.sl (r6.2.map LR)) r r r r r r<|bD fun x_x7 hx_x7=>iS (en:=LR) r r r hx_x7 r<|lF (v:=.int .i64 x_x7) r r r r<|aS r r<|aS r r<|aS r r<|Mj (by kernel_rfl)<|xS<|rT<|bR<|xR<|lR<|bR<|xR<|MB (b:=(x4,x_x7,true)) r ?_ r r ?_ r (by decide)
    all_goals first|(simp;done)|(simp;omega)|rfl|(simp [Ma,LZ];done)
   ·exact sK<|bM<|xS<|rG<|bN (v:=.int .i64 (IntKind.i64.wrap (x4 + 1))) r r r r r<|mV r r<|nI<|xL (s:=IntKind.i64.wrap (x4 + 1)) _ ((hE ⟨rfl,r,r,r,trivial⟩ ⟨rfl,trivial⟩))
  ·refine eT<|xE<|lE<|bH<|xS<|sQ<|rG<|aS r r<|aS r r<|aS r r<|nI<|xS<|rT<|MB (b:=(0,0,false)) r ?_ r r ?_ r (by decide)
   all_goals first|(simp;done)|(simp;omega)|rfl|(simp [Ma,LZ];done)

def Afw : Ml:=(.seq (.reg [P 2 (.box (T 0) 3 33),P 3 (.box (T 1) 1 37),P 4 (.asg (C 0) none)] false) (.seq (.seq (.reg [P 8 (.ld 3 true (T 2)),P 9 (.ld 1 true (T 3)),P 10 (.call (.c (.clo 43 [])) [(T 8),(T 9)]),P 11 (.un .not (T 10))] false) (.cond (T 11) (.seq (.reg [P 4 (.asg (C 11) none)] false) .ret) .skip)) (.seq (.seq (.reg [P 13 (.ld 3 true (T 2)),P 14 (.ld 1 true (T 3)),P 15 (.call (.c (.clo 44 [])) [(T 13),(T 14)]),M 12 15,P 16 (.ext (T 12) 0),P 17 (.ext (T 12) 1),P 18 (.ext (T 12) 2),P 5 (.asg (T 16) none),P 6 (.asg (T 17) none),P 7 (.asg (T 18) none)] false) (.seq (.reg [M 19 7] false) (.cond (T 19) (.seq (.reg [P 4 (.asg (C 11) none)] false) .ret) .skip))) (.seq (.reg [P 4 (.asg (C 0) none)] false) .ret))))
theorem AhM : (Tryd.f23.body.bind (Mn Tryd.prog Tryd.f23.ntmps)) = some Afw:=by kernel_rfl
theorem AhN : Tryd.f23.results.toList.mapM (Mw Tryd.prog) = some [(.t 4)]:=by kernel_rfl
def SY (a : LX × Me) : List D:=[MF a.1,Nl a.2]
def SX (ds : List D) : LX × Me:=(NJ (ds.getD 0 .top),Pb (ds.getD 1 .top))
theorem Ty (a : LX × Me) : SX (SY a) = a:=by simp [SX,SY]
def XW (b : Int) : D:=.int .i64 b
def XV (_b : Int) : List D:=[]
noncomputable def PY : Dw.Spec:=Mk [] .ground SY SX (fun a=>OO a.1 a.2) XW XV
set_option maxHeartbeats 4000000 in
theorem Xg : Mi Tryd.prog 23 PY:=by
 refine Mu (Mo (l:=[(43,Pw),(44,Um)]) (by simp [Wg,Abo])) Tryd.func23 (by decide) AhM AhN (np:=2) (by decide) Ty (fun _=>r) (fun _=>r) (by decide)<|?_
 rintro ⟨f1,l2⟩
 show TrE (specs [(43,Pw),(44,Um)]) Afw (Mx [] .ground [(.t 4)] XW XV) ⟨[(0,.agg [.int .i64 f1.Params,.sl (f1.Slots.map LY),.sl (f1.Code.map LV)]),(1,.agg [.sl (l2.Out.map (eL LR))])],[],262144⟩ (OO f1 l2)
 refine Mp<|?_
 unfold Afw OO
 refine sQ<|rG<|bX r r r r r<|bX r r r r r<|aS r r<|nI<|xS<|sQ<|sQ<|rG<|lO (v:=.agg [.int .i64 f1.Params,.sl (f1.Slots.map LY),.sl (f1.Code.map LV)]) (z:=.agg [.int .i64 f1.Params,.sl (f1.Slots.map LY),.sl (f1.Code.map LV)]) r r r r r r<|lO (v:=.agg [.sl (l2.Out.map (eL LR))]) (z:=.agg [.sl (l2.Out.map (eL LR))]) r r r r r r<|bD fun r3 hr3=>cG (f1,l2) r r r Tb r r (by simp) r hr3 r<|uN (w:=.bool (!r3)) r r r r trivial<|nI<|xS<|cD (c:=(!r3)) r ?_ ?_
 ·refine sQ<|rG<|aS r r<|nI<|xS<|rT<|xR<|Mf (b:=11) r ?_ r r ?_ r
  all_goals first|(simp;done)|(simp;omega)|rfl|(simp [Ma,LZ];done)
 ·refine sK<|xS<|sQ<|sQ<|rG<|lO (v:=.agg [.int .i64 f1.Params,.sl (f1.Slots.map LY),.sl (f1.Code.map LV)]) (z:=.agg [.int .i64 f1.Params,.sl (f1.Slots.map LY),.sl (f1.Code.map LV)]) r r r r r r<|lO (v:=.agg [.sl (l2.Out.map (eL LR))]) (z:=.agg [.sl (l2.Out.map (eL LR))]) r r r r r r<|bD fun r4 hr4=>cG (f1,l2) r r r Xh r r (by simp) r hr4 r<|mV r r<|eX (v:=.int .i64 r4.1) r r r<|eX (v:=.int .i64 r4.2.1) r r r<|eX (v:=.bool r4.2.2) r r r<|aS r r<|aS r r<|aS r r<|nI<|xS<|sQ<|rG<|mV r r<|nI<|xS<|cD (c:=r4.2.2) r ?_ ?_
  ·refine sQ<|rG<|aS r r<|nI<|xS<|rT<|xR<|Mf (b:=11) r ?_ r r ?_ r
   all_goals first|(simp;done)|(simp;omega)|rfl|(simp [Ma,LZ];done)
  ·refine sK<|xS<|sQ<|rG<|aS r r<|nI<|xS<|rT<|Mf (b:=0) r ?_ r r ?_ r
   all_goals first|(simp;done)|(simp;omega)|rfl|(simp [Ma,LZ];done)

def AfL : Ml:=(.seq (.reg [P 2 (.box (T 0) 3 33),P 4 (.asg (.c (.bool false)) none)] false) (.seq (.seq (.reg [M 7 1,P 8 (.len false (T 7)),P 9 (.fldA 1 (T 2)),P 10 (.ld 1 false (T 9)),P 11 (.len false (T 10)),P 12 (.bin .neq (T 8) (T 11))] false) (.cond (T 12) (.seq (.reg [P 4 (.asg (.c (.bool false)) none)] false) .ret) .skip)) (.seq (.seq (.reg [M 13 1,P 14 (.len false (T 13)),P 15 (.mv (C 0))] false) (.block 0 (.loop (.seq (.reg [P 16 (.bin .lss (T 15) (T 14))] false) (.seq (.cond (T 16) .skip (.exit 0)) (.seq (.block 1 (.seq (.reg [M 17 15,P 18 (.ixA 1 (T 13) (T 15)),P 19 (.ld 1 false (T 18)),P 5 (.asg (T 17) none),P 6 (.asg (T 19) none)] false) (.seq (.reg [M 20 6,⟨(some 21),(.bin .lss (T 20) (C 0)),none,[0]⟩,⟨(some 22),(.mv (T 21)),none,[1]⟩,⟨(some 23),(.mv (T 6)),(some ⟨22,false⟩),[2]⟩,⟨(some 24),(.mv (T 1)),(some ⟨22,false⟩),[2]⟩,⟨(some 25),(.len false (T 24)),(some ⟨22,false⟩),[4,2]⟩,⟨(some 26),(.bin .geq (T 23) (T 25)),(some ⟨22,false⟩),[3,5,2]⟩,⟨(some 27),(.pick (T 22) (.c (.bool true)) (T 26)),none,[2,6]⟩,⟨(some 28),(.mv (T 27)),none,[7,2]⟩,⟨(some 29),(.fldA 1 (T 2)),(some ⟨28,false⟩),[8]⟩,⟨(some 30),(.ld 1 false (T 29)),(some ⟨28,false⟩),[9,8]⟩,⟨(some 31),(.mv (T 6)),(some ⟨28,false⟩),[8]⟩,⟨(some 32),(.ixA 2 (T 30) (T 31)),(some ⟨28,false⟩),[10,11,8]⟩,⟨(some 33),(.fldA 0 (T 32)),(some ⟨28,false⟩),[12,8]⟩,⟨(some 34),(.ld 1 false (T 33)),(some ⟨28,false⟩),[13,8]⟩,⟨(some 35),(.fldA 1 (T 2)),(some ⟨28,false⟩),[8]⟩,⟨(some 36),(.ld 1 false (T 35)),(some ⟨28,false⟩),[15,8]⟩,⟨(some 37),(.mv (T 5)),(some ⟨28,false⟩),[8]⟩,⟨(some 38),(.ixA 2 (T 36) (T 37)),(some ⟨28,false⟩),[16,17,8]⟩,⟨(some 39),(.fldA 0 (T 38)),(some ⟨28,false⟩),[18,8]⟩,⟨(some 40),(.ld 1 false (T 39)),(some ⟨28,false⟩),[19,8]⟩,⟨(some 41),(.bin .neq (T 34) (T 40)),(some ⟨28,false⟩),[14,20,8]⟩,⟨(some 42),(.pick (T 28) (.c (.bool true)) (T 41)),none,[8,21]⟩,⟨(some 43),(.mv (T 42)),none,[22,8]⟩,⟨(some 44),(.mv (T 1)),(some ⟨43,false⟩),[23]⟩,⟨(some 45),(.mv (T 6)),(some ⟨43,false⟩),[23]⟩,⟨(some 46),(.ixA 1 (T 44) (T 45)),(some ⟨43,false⟩),[24,25,23]⟩,⟨(some 47),(.ld 1 false (T 46)),(some ⟨43,false⟩),[26,23]⟩,⟨(some 48),(.mv (T 6)),(some ⟨43,false⟩),[23]⟩,⟨(some 49),(.bin .neq (T 47) (T 48)),(some ⟨43,false⟩),[27,28,23]⟩,⟨(some 50),(.pick (T 43) (.c (.bool true)) (T 49)),none,[23,29]⟩] true) (.cond (T 50) (.seq (.reg [P 4 (.asg (.c (.bool false)) none)] false) .ret) .skip)))) (.reg [P 51 (.bin .add (T 15) (C 1)),M 15 51] false))))))) (.seq (.reg [P 4 (.asg (.c (.bool true)) none)] false) .ret))))
theorem Aiq : (Tryd.f45.body.bind (Mn Tryd.prog Tryd.f45.ntmps)) = some AfL:=by kernel_rfl
theorem Air : Tryd.f45.results.toList.mapM (Mw Tryd.prog) = some [(.t 4)]:=by kernel_rfl
def Tn (a : LX × (List Int)) : List D:=[MF a.1,.sl (a.2.map LR)]
def Tm (ds : List D) : LX × (List Int):=(NJ (ds.getD 0 .top),(uL uI) (ds.getD 1 .top))
theorem XI (a : LX × (List Int)) : Tm (Tn a) = a:=by simp [Tm,Tn,NF (u:=uI) (en:=LR) (fun _=>rfl)]
def YE (b : Bool) : D:=.bool b
def YD (_b : Bool) : List D:=[]
noncomputable def UP : Dw.Spec:=Mk [] .ground Tn Tm (fun a=>Qm a.1 a.2) YE YD
set_option maxHeartbeats 4000000 in
theorem AbR : Mi Tryd.prog 45 UP:=by
 refine Mu (Nn) Tryd.func45 (by decide) Aiq Air (np:=2) (by decide) XI (fun _=>r) (fun _=>r) (by decide)<|?_
 rintro ⟨f1,to2⟩
 show TrE (specs []) AfL (Mx [] .ground [(.t 4)] YE YD) ⟨[(0,.agg [.int .i64 f1.Params,.sl (f1.Slots.map LY),.sl (f1.Code.map LV)]),(1,.sl (to2.map LR))],[],262144⟩ (Qm f1 to2)
 refine Mp<|?_
 unfold AfL Qm
 refine sQ<|rG<|bX r r r r r<|aS r r<|nI<|xS<|sQ<|sQ<|rG<|mV r r<|lS r r<|fA r r<|lO (v:=.sl (f1.Slots.map LY)) (z:=.agg [.int .i64 f1.Params,.sl (f1.Slots.map LY),.sl (f1.Code.map LV)]) r r r r r r<|lS r r<|bN (v:=.bool ((to2.length : Int) != (f1.Slots.length : Int))) r r r r r<|nI<|xS<|cD (c:=((to2.length : Int) != (f1.Slots.length : Int))) r ?_ ?_
 ·refine sQ<|rG<|aS r r<|nI<|xS<|rT<|xR<|Mf (b:=false) r ?_ r r ?_ r
  all_goals first|(simp;done)|(simp;omega)|rfl|(simp [Ma,LZ];done)
 ·refine sK<|xS<|sQ<|sQ<|rG<|mV r r<|lS r r<|mV r r<|nI<|xS<|bK<|lP (E:=fun (s : Int) (g : Nat)=>[(1,.sl (to2.map LR)),(2,.optr 2 g 0 0),(13,.sl (to2.map LR)),(14,.int .i64 (to2.length : Int)),(15,.int .i64 s)]) (O:=fun s g=>[(2,some (g,⟨false,true,3,33,[.agg [.int .i64 f1.Params,.sl (f1.Slots.map LY),.sl (f1.Code.map LV)]]⟩))]) (body:=fun s=>Ru to2 f1 s) (s:=0) _ ((hE ⟨rfl,r,r,r,r,trivial⟩ ⟨rfl,trivial⟩))<|?_
  rintro x3 v2x1 nn
  try dsimp only
  unfold Ru
  refine sQ<|rG<|bN (v:=.bool (decide (x3 < (to2.length : Int)))) r r r r r<|nI<|xS<|sQ<|cD (c:=(decide (x3 < (to2.length : Int)))) r ?_ ?_
  ·refine sK<|xS<|sQ<|bK<|sQ<|rG<|mV r r<|bD fun x_x4 hx_x4=>iS (en:=LR) r r r hx_x4 r<|lF (v:=.int .i64 x_x4) r r r r<|aS r r<|aS r r<|nI<|xS<|sQ<|rG<|mV r r<|bN (v:=.bool (decide (x_x4 < 0))) r r r r r<|mV r r<|sP 22 (b:=(decide (x_x4 < 0))) r ?_ ?_
   ·refine oF r<|oF r<|oF r<|oF r<|pT r r r r<|mV r r<|oF r<|oF r<|oF r<|oF r<|oF r<|oF r<|oF r<|oF r<|oF r<|oF r<|oF r<|oF r<|oF r<|pT r r r r<|mV r r<|oF r<|oF r<|oF r<|oF r<|oF r<|oF r<|pT r r r r<|Mj (by kernel_rfl)<|xS<|MY r<|sQ<|rG<|aS r r<|nI<|xS<|rT<|bR<|xR<|lR<|bR<|xR<|Mf (b:=false) r ?_ r r ?_ r
    all_goals first|(simp;done)|(simp;omega)|rfl|(simp [Ma,LZ];done)
   ·refine mV r r<|mV r r<|lS r r<|bN (v:=.bool (decide (x_x4 ≥ (to2.length : Int)))) r r r r r<|pF r r r r<|mV r r<|sP 28 (b:=(decide (x_x4 ≥ (to2.length : Int)))) r ?_ ?_
    ·refine oF r<|oF r<|oF r<|oF r<|oF r<|oF r<|oF r<|oF r<|oF r<|oF r<|oF r<|oF r<|oF r<|pT r r r r<|mV r r<|oF r<|oF r<|oF r<|oF r<|oF r<|oF r<|pT r r r r<|Mj (by kernel_rfl)<|xS<|MY r<|sQ<|rG<|aS r r<|nI<|xS<|rT<|bR<|xR<|lR<|bR<|xR<|Mf (b:=false) r ?_ r r ?_ r
     all_goals first|(simp;done)|(simp;omega)|rfl|(simp [Ma,LZ];done)
    ·refine fA r r<|lO (v:=.sl (f1.Slots.map LY)) (z:=.agg [.int .i64 f1.Params,.sl (f1.Slots.map LY),.sl (f1.Code.map LV)]) r r r r r r<|mV r r<|bD fun x_x5 hx_x5=>iS (en:=LY) r r r hx_x5 r<|fF r r<|lF (v:=.int .i64 x_x5.Size) r r r r<|fA r r<|lO (v:=.sl (f1.Slots.map LY)) (z:=.agg [.int .i64 f1.Params,.sl (f1.Slots.map LY),.sl (f1.Code.map LV)]) r r r r r r<|mV r r<|bD fun x_x6 hx_x6=>iS (en:=LY) r r r hx_x6 r<|fF r r<|lF (v:=.int .i64 x_x6.Size) r r r r<|bN (v:=.bool (x_x5.Size != x_x6.Size)) r r r r r<|pF r r r r<|mV r r<|sP 43 (b:=(x_x5.Size != x_x6.Size)) r ?_ ?_
     ·refine oF r<|oF r<|oF r<|oF r<|oF r<|oF r<|pT r r r r<|Mj (by kernel_rfl)<|xS<|MY r<|sQ<|rG<|aS r r<|nI<|xS<|rT<|bR<|xR<|lR<|bR<|xR<|Mf (b:=false) r ?_ r r ?_ r
      all_goals first|(simp;done)|(simp;omega)|rfl|(simp [Ma,LZ];done)
     ·refine mV r r<|mV r r<|bD fun x_x7 hx_x7=>iS (en:=LR) r r r hx_x7 r<|lF (v:=.int .i64 x_x7) r r r r<|mV r r<|bN (v:=.bool (x_x7 != x_x4)) r r r r r<|pF r r r r<|Mj (by kernel_rfl)<|xS<|cD (c:=(x_x7 != x_x4)) r ?_ ?_
      ·refine sQ<|rG<|aS r r<|nI<|xS<|rT<|bR<|xR<|lR<|bR<|xR<|Mf (b:=false) r ?_ r r ?_ r
       all_goals first|(simp;done)|(simp;omega)|rfl|(simp [Ma,LZ];done)
      ·exact sK<|bM<|xS<|rG<|bN (v:=.int .i64 (IntKind.i64.wrap (x3 + 1))) r r r r r<|mV r r<|nI<|xL (s:=IntKind.i64.wrap (x3 + 1)) _ ((hE ⟨rfl,r,r,r,r,trivial⟩ ⟨rfl,trivial⟩))
  ·refine eT<|xE<|lE<|bH<|xS<|sQ<|rG<|aS r r<|nI<|xS<|rT<|Mf (b:=true) r ?_ r r ?_ r
   all_goals first|(simp;done)|(simp;omega)|rfl|(simp [Ma,LZ];done)

def AfM : Ml:=(.seq (.reg [P 1 (.box (T 0) 5 57),P 2 (.asg (.c (.bool false)) none)] false) (.seq (.reg [P 6 (.ld 5 true (T 1)),P 7 (.call (.c (.clo 56 [])) [(T 6)]),M 5 7,P 8 (.ext (T 5) 0),P 9 (.ext (T 5) 1),P 3 (.asg (T 8) none),P 4 (.asg (T 9) none)] false) (.seq (.reg [M 10 4,P 2 (.asg (T 10) none)] false) .ret)))
theorem Ais : (Tryd.f46.body.bind (Mn Tryd.prog Tryd.f46.ntmps)) = some AfM:=by kernel_rfl
theorem Ait : Tryd.f46.results.toList.mapM (Mw Tryd.prog) = some [(.t 2)]:=by kernel_rfl
def Sf (a : LS) : List D:=[LV a]
def Se (ds : List D) : LS:=Sv (ds.getD 0 .top)
theorem Wf (a : LS) : Se (Sf a) = a:=by simp [Se,Sf]
def Xf (b : Bool) : D:=.bool b
def Xe (_b : Bool) : List D:=[]
noncomputable def Tw : Dw.Spec:=Mk [] .ground Sf Se (fun a=>Qu a) Xf Xe
set_option maxHeartbeats 4000000 in
theorem Abe : Mi Tryd.prog 46 Tw:=by
 refine Mu (Mo (l:=[(56,Oq)]) (by simp [Uk])) Tryd.func46 (by decide) Ais Ait (np:=1) (by decide) Wf (fun _=>r) (fun _=>r) (by decide)<|?_
 intro x1
 show TrE (specs [(56,Oq)]) AfM (Mx [] .ground [(.t 2)] Xf Xe) ⟨[(0,.agg [.int .i64 x1.Op,.int .i64 x1.A,.int .i64 x1.B,.int .i64 x1.C,.int .u64 x1.Imm])],[],262144⟩ (Qu x1)
 refine Mp<|?_
 unfold AfM Qu
 refine sQ<|rG<|bX r r r r r<|aS r r<|nI<|xS<|sQ<|rG<|lO (v:=.agg [.int .i64 x1.Op,.int .i64 x1.A,.int .i64 x1.B,.int .i64 x1.C,.int .u64 x1.Imm]) (z:=.agg [.int .i64 x1.Op,.int .i64 x1.A,.int .i64 x1.B,.int .i64 x1.C,.int .u64 x1.Imm]) r r r r r r<|bD fun r2 hr2=>cG x1 r r r Rv r r (by simp) r hr2 r<|mV r r<|eX (v:=.int .i64 r2.1) r r r<|eX (v:=.bool r2.2) r r r<|aS r r<|aS r r<|nI<|xS<|sQ<|rG<|mV r r<|aS r r<|nI<|xS<|rT<|Mf (b:=r2.2) r ?_ r r ?_ r
 all_goals first|(simp;done)|(simp;omega)|rfl|(simp [Ma,LZ];done)

def Afx : Ml:=(.seq (.reg [P 2 (.box (T 0) 3 33),P 3 (.box (T 1) 2 45),P 4 (.asg (C 0) none)] false) (.seq (.seq (.reg [P 7 (.ld 3 true (T 2)),P 8 (.fldA 0 (T 3)),P 9 (.ld 1 false (T 8)),P 10 (.call (.c (.clo 45 [])) [(T 7),(T 9)]),P 11 (.un .not (T 10)),M 12 11,⟨(some 13),(.fldA 1 (T 3)),(some ⟨12,false⟩),[]⟩,⟨(some 14),(.ld 1 false (T 13)),(some ⟨12,false⟩),[]⟩,⟨(some 15),(.len false (T 14)),(some ⟨12,false⟩),[]⟩,⟨(some 16),(.fldA 2 (T 2)),(some ⟨12,false⟩),[]⟩,⟨(some 17),(.ld 1 false (T 16)),(some ⟨12,false⟩),[]⟩,⟨(some 18),(.len false (T 17)),(some ⟨12,false⟩),[]⟩,⟨(some 19),(.bin .neq (T 15) (T 18)),(some ⟨12,false⟩),[]⟩,P 20 (.pick (T 12) (.c (.bool true)) (T 19))] false) (.cond (T 20) (.seq (.reg [P 4 (.asg (C 12) none)] false) .ret) .skip)) (.seq (.seq (.reg [P 21 (.fldA 2 (T 2)),P 22 (.ld 1 false (T 21)),P 23 (.len false (T 22)),P 24 (.mv (C 0))] false) (.block 0 (.loop (.seq (.reg [P 25 (.bin .lss (T 24) (T 23))] false) (.seq (.cond (T 25) .skip (.exit 0)) (.seq (.block 1 (.seq (.reg [M 26 24,P 27 (.ixA 5 (T 22) (T 24)),P 28 (.ld 5 true (T 27)),P 6 (.new (.agg [(.int .i64 0),(.int .i64 0),(.int .i64 0),(.int .i64 0),(.int .u64 0)]) 5 57),P 5 (.asg (T 26) none),⟨none,(.st 5 (T 6) (T 28)),none,[]⟩] false) (.seq (.reg [P 29 (.fldA 1 (T 3)),P 30 (.ld 1 false (T 29)),M 31 5,P 32 (.ixA 1 (T 30) (T 31)),P 33 (.ld 1 false (T 32)),P 34 (.un .not (T 33)),M 35 34,⟨(some 36),(.ld 5 true (T 6)),(some ⟨35,true⟩),[]⟩,⟨(some 37),(.call (.c (.clo 46 [])) [(T 36)]),(some ⟨35,true⟩),[]⟩,⟨(some 38),(.un .not (T 37)),(some ⟨35,true⟩),[]⟩,P 39 (.pick (T 35) (T 38) (.c (.bool false)))] false) (.cond (T 39) (.seq (.reg [P 4 (.asg (C 12) none)] false) .ret) .skip)))) (.reg [P 40 (.bin .add (T 24) (C 1)),M 24 40] false))))))) (.seq (.reg [P 4 (.asg (C 0) none)] false) .ret))))
theorem AhO : (Tryd.f24.body.bind (Mn Tryd.prog Tryd.f24.ntmps)) = some Afx:=by kernel_rfl
theorem AhP : Tryd.f24.results.toList.mapM (Mw Tryd.prog) = some [(.t 4)]:=by kernel_rfl
def Uv (a : LX × MD) : List D:=[MF a.1,Sw a.2]
def Uu (ds : List D) : LX × MD:=(NJ (ds.getD 0 .top),Yw (ds.getD 1 .top))
theorem UX (a : LX × MD) : Uu (Uv a) = a:=by simp [Uu,Uv]
def ZA (b : Int) : D:=.int .i64 b
def Zz (_b : Int) : List D:=[]
noncomputable def Rg : Dw.Spec:=Mk [] .ground Uv Uu (fun a=>PT a.1 a.2) ZA Zz
set_option maxHeartbeats 4000000 in
theorem YY : Mi Tryd.prog 24 Rg:=by
 refine Mu (Mo (l:=[(45,UP),(46,Tw)]) (by simp [AbR,Abe])) Tryd.func24 (by decide) AhO AhP (np:=2) (by decide) UX (fun _=>r) (fun _=>r) (by decide)<|?_
 rintro ⟨f1,r2⟩
 show TrE (specs [(45,UP),(46,Tw)]) Afx (Mx [] .ground [(.t 4)] ZA Zz) ⟨[(0,.agg [.int .i64 f1.Params,.sl (f1.Slots.map LY),.sl (f1.Code.map LV)]),(1,.agg [.sl (r2.To.map LR),.sl (r2.Keep.map D.bool)])],[],262144⟩ (PT f1 r2)
 refine Mp<|?_
 unfold Afx PT
 refine sQ<|rG<|bX r r r r r<|bX r r r r r<|aS r r<|nI<|xS<|sC (E:=fun (s : Unit) (g : Nat × Nat)=>[(2,.optr 2 g.1 0 0),(3,.optr 3 g.2 0 0)]) (O:=fun s g=>[(2,some (g.1,⟨false,true,3,33,[.agg [.int .i64 f1.Params,.sl (f1.Slots.map LY),.sl (f1.Code.map LV)]]⟩)),(3,some (g.2,⟨false,true,2,45,[.agg [.sl (r2.To.map LR),.sl (r2.Keep.map D.bool)]]⟩))]) (j:=fun s=>Sl f1 r2) ?_ ?_
 ·refine sQ<|rG<|lO (v:=.agg [.int .i64 f1.Params,.sl (f1.Slots.map LY),.sl (f1.Code.map LV)]) (z:=.agg [.int .i64 f1.Params,.sl (f1.Slots.map LY),.sl (f1.Code.map LV)]) r r r r r r<|fA r r<|lO (v:=.sl (r2.To.map LR)) (z:=.agg [.sl (r2.To.map LR),.sl (r2.Keep.map D.bool)]) r r r r r r<|bD fun r3 hr3=>cG (f1,r2.To) r r r XI r r (by simp) r hr3 r<|uN (w:=.bool (!r3)) r r r r trivial<|mV r r<|sP 12 (b:=(!r3)) r ?_ ?_
  ·refine oF r<|oF r<|oF r<|oF r<|oF r<|oF r<|oF r<|pT r r r r<|nI<|xS<|MY r<|sQ<|rG<|aS r r<|nI<|xS<|rT<|zR<|Mf (b:=12) r ?_ r r ?_ r
   all_goals first|(simp;done)|(simp;omega)|rfl|(simp [Ma,LZ];done)
  ·refine fA r r<|lO (v:=.sl (r2.Keep.map D.bool)) (z:=.agg [.sl (r2.To.map LR),.sl (r2.Keep.map D.bool)]) r r r r r r<|lS r r<|fA r r<|lO (v:=.sl (f1.Code.map LV)) (z:=.agg [.int .i64 f1.Params,.sl (f1.Slots.map LY),.sl (f1.Code.map LV)]) r r r r r r<|lS r r<|bN (v:=.bool ((r2.Keep.length : Int) != (f1.Code.length : Int))) r r r r r<|pF r r r r<|nI<|xS<|cD (c:=((r2.Keep.length : Int) != (f1.Code.length : Int))) r ?_ ?_
   ·refine sQ<|rG<|aS r r<|nI<|xS<|rT<|zR<|Mf (b:=12) r ?_ r r ?_ r
    all_goals first|(simp;done)|(simp;omega)|rfl|(simp [Ma,LZ];done)
   ·exact sK<|xC (s:=()) (_,_) ((hE ⟨rfl,r,trivial⟩ ⟨rfl,r,trivial⟩))
 ·rintro ⟨⟩ ⟨v2x1,v3x1⟩ nn
  try dsimp only
  unfold Sl
  refine sQ<|sQ<|rG<|fA r r<|lO (v:=.sl (f1.Code.map LV)) (z:=.agg [.int .i64 f1.Params,.sl (f1.Slots.map LY),.sl (f1.Code.map LV)]) r r r r r r<|lS r r<|mV r r<|nI<|xS<|bK<|lP (E:=fun (s : Int) (g : Nat)=>[(3,.optr 3 g 0 0),(22,.sl (f1.Code.map LV)),(23,.int .i64 (f1.Code.length : Int)),(24,.int .i64 s)]) (O:=fun s g=>[(3,some (g,⟨false,true,2,45,[.agg [.sl (r2.To.map LR),.sl (r2.Keep.map D.bool)]]⟩))]) (body:=fun s=>Sk f1 r2 s) (s:=0) _ ((hE ⟨rfl,r,r,r,trivial⟩ ⟨rfl,trivial⟩))<|?_
  rintro x4 v3x2 nn
  try dsimp only
  unfold Sk
  refine sQ<|rG<|bN (v:=.bool (decide (x4 < (f1.Code.length : Int)))) r r r r r<|nI<|xS<|sQ<|cD (c:=(decide (x4 < (f1.Code.length : Int)))) r ?_ ?_
  ·refine sK<|xS<|sQ<|bK<|sQ<|rG<|mV r r<|bD fun x_x5 hx_x5=>iS (en:=LV) r r r hx_x5 r<|lF (v:=.agg [.int .i64 x_x5.Op,.int .i64 x_x5.A,.int .i64 x_x5.B,.int .i64 x_x5.C,.int .u64 x_x5.Imm]) r r r r<|nW r<|aS r r<|sV (z':=.agg [.int .i64 x_x5.Op,.int .i64 x_x5.A,.int .i64 x_x5.B,.int .i64 x_x5.C,.int .u64 x_x5.Imm]) r r r r r r r r r<|nI<|xS<|sQ<|rG<|fA r r<|lO (v:=.sl (r2.Keep.map D.bool)) (z:=.agg [.sl (r2.To.map LR),.sl (r2.Keep.map D.bool)]) r r r r r r<|mV r r<|bD fun x_x6 hx_x6=>iS (en:=D.bool) r r r hx_x6 r<|lF (v:=.bool x_x6) r r r r<|uN (w:=.bool (!x_x6)) r r r r trivial<|mV r r<|sP 35 (b:=(!x_x6)) r ?_ ?_
   ·refine lO (v:=.agg [.int .i64 x_x5.Op,.int .i64 x_x5.A,.int .i64 x_x5.B,.int .i64 x_x5.C,.int .u64 x_x5.Imm]) (z:=.agg [.int .i64 x_x5.Op,.int .i64 x_x5.A,.int .i64 x_x5.B,.int .i64 x_x5.C,.int .u64 x_x5.Imm]) r r r r r r<|bD fun r7 hr7=>cG x_x5 r r r Wf r r (by simp) r hr7 r<|uN (w:=.bool (!r7)) r r r r trivial<|pT r r r r<|nI<|xS<|cD (c:=(!r7)) r ?_ ?_
    ·refine sQ<|rG<|aS r r<|nI<|xS<|rT<|bR<|xR<|lR<|bR<|xR<|Mf (b:=12) r ?_ r r ?_ r
     all_goals first|(simp;done)|(simp;omega)|rfl|(simp [Ma,LZ];done)
    ·exact sK<|bM<|xS<|rG<|bN (v:=.int .i64 (IntKind.i64.wrap (x4 + 1))) r r r r r<|mV r r<|nI<|xL (s:=IntKind.i64.wrap (x4 + 1)) _ ((hE ⟨rfl,r,r,r,trivial⟩ ⟨rfl,trivial⟩))
   ·exact oF r<|oF r<|oF r<|pF r r r r<|nI<|xS<|Ny r<|sK<|bM<|xS<|rG<|bN (v:=.int .i64 (IntKind.i64.wrap (x4 + 1))) r r r r r<|mV r r<|nI<|xL (s:=IntKind.i64.wrap (x4 + 1)) _ ((hE ⟨rfl,r,r,r,trivial⟩ ⟨rfl,trivial⟩))
  ·refine eT<|xE<|lE<|bH<|xS<|sQ<|rG<|aS r r<|nI<|xS<|rT<|Mf (b:=0) r ?_ r r ?_ r
   all_goals first|(simp;done)|(simp;omega)|rfl|(simp [Ma,LZ];done)

def Agi : Ml:=(.seq (.reg [P 5 (.asg (C 0) none),P 6 (.asg (.c (.bool false)) none)] false) (.seq (.reg [P 12 (.fldA 2 (T 1)),P 13 (.ld 1 false (T 12)),M 14 0,P 15 (.ixA 5 (T 13) (T 14)),P 16 (.ld 5 true (T 15)),P 7 (.new (.agg [(.int .i64 0),(.int .i64 0),(.int .i64 0),(.int .i64 0),(.int .u64 0)]) 5 57),⟨none,(.st 5 (T 7) (T 16)),none,[]⟩] false) (.seq (.reg [P 18 (.ld 5 true (T 7)),P 19 (.call (.c (.clo 56 [])) [(T 18)]),M 17 19,P 20 (.ext (T 17) 0),P 21 (.ext (T 17) 1),P 8 (.asg (T 20) none),P 9 (.asg (T 21) none)] false) (.seq (.seq (.reg [M 22 9,⟨(some 23),(.un .not (T 22)),none,[0]⟩,⟨(some 24),(.mv (T 23)),none,[1]⟩,⟨(some 25),(.fldA 0 (T 7)),(some ⟨24,false⟩),[2]⟩,⟨(some 26),(.ld 1 false (T 25)),(some ⟨24,false⟩),[3,2]⟩,⟨(some 27),(.bin .eql (T 26) (C 17)),(some ⟨24,false⟩),[4,2]⟩,⟨(some 28),(.mv (T 27)),(some ⟨24,false⟩),[5,2,2]⟩,⟨(some 29),(.fldA 0 (T 2)),(some ⟨28,true⟩),[6]⟩,⟨(some 30),(.ld 1 false (T 29)),(some ⟨28,true⟩),[7,6]⟩,⟨(some 31),(.fldA 1 (T 7)),(some ⟨28,true⟩),[6]⟩,⟨(some 32),(.ld 1 false (T 31)),(some ⟨28,true⟩),[9,6]⟩,⟨(some 33),(.ixA 1 (T 30) (T 32)),(some ⟨28,true⟩),[8,10,6]⟩,⟨(some 34),(.ld 1 false (T 33)),(some ⟨28,true⟩),[11,6]⟩,⟨(some 35),(.fldA 0 (T 2)),(some ⟨28,true⟩),[6]⟩,⟨(some 36),(.ld 1 false (T 35)),(some ⟨28,true⟩),[13,6]⟩,⟨(some 37),(.fldA 2 (T 7)),(some ⟨28,true⟩),[6]⟩,⟨(some 38),(.ld 1 false (T 37)),(some ⟨28,true⟩),[15,6]⟩,⟨(some 39),(.ixA 1 (T 36) (T 38)),(some ⟨28,true⟩),[14,16,6]⟩,⟨(some 40),(.ld 1 false (T 39)),(some ⟨28,true⟩),[17,6]⟩,⟨(some 41),(.bin .eql (T 34) (T 40)),(some ⟨28,true⟩),[12,18,6]⟩,⟨(some 42),(.pick (T 28) (T 41) (.c (.bool false))),(some ⟨24,false⟩),[6,19,2]⟩,⟨(some 43),(.pick (T 24) (.c (.bool true)) (T 42)),none,[2,20]⟩] true) (.cond (T 43) (.seq (.reg [P 5 (.asg (C 0) none),P 6 (.asg (.c (.bool false)) none)] false) .ret) .skip)) (.seq (.seq (.reg [P 44 (.fldA 0 (T 3)),P 45 (.ld 1 false (T 44)),M 46 0,P 47 (.ixA 1 (T 45) (T 46)),P 48 (.ld 1 false (T 47)),P 49 (.len false (T 48)),P 50 (.mv (C 0))] false) (.block 0 (.loop (.seq (.reg [P 51 (.bin .lss (T 50) (T 49))] false) (.seq (.cond (T 51) .skip (.exit 0)) (.seq (.block 1 (.seq (.reg [P 52 (.ixA 1 (T 48) (T 50)),P 53 (.ld 1 false (T 52)),P 11 (.asg (T 53) none)] false) (.seq (.reg [P 54 (.fldA 1 (T 2)),⟨(some 55),(.ld 1 false (T 54)),none,[0]⟩,M 56 0,⟨(some 57),(.ixA 1 (T 55) (T 56)),none,[1,2]⟩,⟨(some 58),(.ld 1 false (T 57)),none,[3]⟩,M 59 11,M 60 8,⟨(some 61),(.bin .neq (T 59) (T 60)),none,[5,6]⟩,⟨(some 62),(.eqB false (T 58) (T 61)),none,[4,7]⟩,⟨(some 63),(.mv (T 62)),none,[8]⟩,⟨(some 64),(.fldA 0 (T 2)),(some ⟨63,true⟩),[9]⟩,⟨(some 65),(.ld 1 false (T 64)),(some ⟨63,true⟩),[10,9]⟩,⟨(some 66),(.mv (T 11)),(some ⟨63,true⟩),[9]⟩,⟨(some 67),(.ixA 1 (T 65) (T 66)),(some ⟨63,true⟩),[11,12,9]⟩,⟨(some 68),(.ld 1 false (T 67)),(some ⟨63,true⟩),[13,9]⟩,⟨(some 69),(.fldA 0 (T 2)),(some ⟨63,true⟩),[9]⟩,⟨(some 70),(.ld 1 false (T 69)),(some ⟨63,true⟩),[15,9]⟩,⟨(some 71),(.mv (T 8)),(some ⟨63,true⟩),[9]⟩,⟨(some 72),(.ixA 1 (T 70) (T 71)),(some ⟨63,true⟩),[16,17,9]⟩,⟨(some 73),(.ld 1 false (T 72)),(some ⟨63,true⟩),[18,9]⟩,⟨(some 74),(.bin .eql (T 68) (T 73)),(some ⟨63,true⟩),[14,19,9]⟩,⟨(some 75),(.pick (T 63) (T 74) (.c (.bool false))),none,[9,20]⟩] true) (.cond (T 75) (.seq (.reg [M 76 11,P 5 (.asg (T 76) none),P 6 (.asg (.c (.bool true)) none)] false) .ret) .skip)))) (.reg [P 77 (.bin .add (T 50) (C 1)),M 50 77] false))))))) (.seq (.reg [P 5 (.asg (C 0) none),P 6 (.asg (.c (.bool false)) none)] false) .ret))))))
theorem Ajk : (Tryd.f75.body.bind (Mn Tryd.prog Tryd.f75.ntmps)) = some Agi:=by kernel_rfl
theorem Ajl : Tryd.f75.results.toList.mapM (Mw Tryd.prog) = some [(.t 5),(.t 6)]:=by kernel_rfl
def Om (a : Int × LX × MD × Me) : List D:=[.int .i64 a.1,.fptr (MF a.2.1) 0,.fptr (Sw a.2.2.1) 0,.fptr (Nl a.2.2.2) 0]
def Ol (ds : List D) : Int × LX × MD × Me:=(uI (ds.getD 0 .top),NJ (fpD (ds.getD 1 .top)),Yw (fpD (ds.getD 2 .top)),Pb (fpD (ds.getD 3 .top)))
theorem Qy (a : Int × LX × MD × Me) : Ol (Om a) = a:=by simp [Ol,Om,uI,fpD]
def QG (b : Int × Bool) : D:=.tup [.int .i64 b.1,.bool b.2]
def QF (_b : Int × Bool) : List D:=[]
noncomputable def OJ : Dw.Spec:=Mk [] .ground Om Ol (fun a=>MU a.1 a.2.1 a.2.2.1 a.2.2.2) QG QF
set_option maxHeartbeats 4000000 in
theorem Va : Mi Tryd.prog 75 OJ:=by
 refine Mu (Mo (l:=[(56,Oq)]) (by simp [Uk])) Tryd.func75 (by decide) Ajk Ajl (np:=4) (by decide) Qy (fun _=>r) (fun _=>r) (by decide)<|?_
 rintro ⟨k1,cap2,cap3,cap4⟩
 show TrE (specs [(56,Oq)]) Agi (Mx [] .ground [(.t 5),(.t 6)] QG QF) ⟨[(0,.int .i64 k1),(1,.fptr (.agg [.int .i64 cap2.Params,.sl (cap2.Slots.map LY),.sl (cap2.Code.map LV)]) 0),(2,.fptr (.agg [.sl (cap3.To.map LR),.sl (cap3.Keep.map D.bool)]) 0),(3,.fptr (.agg [.sl (cap4.Out.map (eL LR))]) 0)],[],262144⟩ (MU k1 cap2 cap3 cap4)
 refine Mp<|?_
 unfold Agi MU
 refine sQ<|rG<|aS r r<|aS r r<|nI<|xS<|sQ<|rG<|fF r r<|lF (v:=.sl (cap2.Code.map LV)) r r r r<|mV r r<|bD fun x_x5 hx_x5=>iS (en:=LV) r r r hx_x5 r<|lF (v:=.agg [.int .i64 x_x5.Op,.int .i64 x_x5.A,.int .i64 x_x5.B,.int .i64 x_x5.C,.int .u64 x_x5.Imm]) r r r r<|nW r<|sV (z':=.agg [.int .i64 x_x5.Op,.int .i64 x_x5.A,.int .i64 x_x5.B,.int .i64 x_x5.C,.int .u64 x_x5.Imm]) r r r r r r r r r<|nI<|xS<|sQ<|rG<|lO (v:=.agg [.int .i64 x_x5.Op,.int .i64 x_x5.A,.int .i64 x_x5.B,.int .i64 x_x5.C,.int .u64 x_x5.Imm]) (z:=.agg [.int .i64 x_x5.Op,.int .i64 x_x5.A,.int .i64 x_x5.B,.int .i64 x_x5.C,.int .u64 x_x5.Imm]) r r r r r r<|bD fun r6 hr6=>cG x_x5 r r r Rv r r (by simp) r hr6 r<|mV r r<|eX (v:=.int .i64 r6.1) r r r<|eX (v:=.bool r6.2) r r r<|aS r r<|aS r r<|nI<|xS<|sC (E:=fun (s : Unit) (g : Unit)=>[(0,.int .i64 k1),(2,.fptr (.agg [.sl (cap3.To.map LR),.sl (cap3.Keep.map D.bool)]) 0),(3,.fptr (.agg [.sl (cap4.Out.map (eL LR))]) 0),(8,.int .i64 r6.1)]) (O:=fun s g=>[]) (j:=fun s=>MQ cap4 k1 cap3 r6) ?_ ?_
 ·refine sQ<|rG<|mV r r<|uN (w:=.bool (!r6.2)) r r r r trivial<|mV r r<|sP 24 (b:=(!r6.2)) r ?_ ?_
  ·refine oF r<|oF r<|oF r<|oF r<|oF r<|oF r<|oF r<|oF r<|oF r<|oF r<|oF r<|oF r<|oF r<|oF r<|oF r<|oF r<|oF r<|oF r<|pT r r r r<|Mj (by kernel_rfl)<|xS<|MY r<|sQ<|rG<|aS r r<|aS r r<|nI<|xS<|rT<|zR<|MB (b:=(0,false)) r ?_ r r ?_ r (by decide)
   all_goals first|(simp;done)|(simp;omega)|rfl|(simp [Ma,LZ];done)
  ·refine fA r r<|lO (v:=.int .i64 x_x5.Op) (z:=.agg [.int .i64 x_x5.Op,.int .i64 x_x5.A,.int .i64 x_x5.B,.int .i64 x_x5.C,.int .u64 x_x5.Imm]) r r r r r r<|bN (v:=.bool (x_x5.Op == 17)) r r r r r<|mV r r<|sP 28 (b:=(x_x5.Op == 17)) r ?_ ?_
   ·refine fF r r<|lF (v:=.sl (cap3.To.map LR)) r r r r<|fA r r<|lO (v:=.int .i64 x_x5.A) (z:=.agg [.int .i64 x_x5.Op,.int .i64 x_x5.A,.int .i64 x_x5.B,.int .i64 x_x5.C,.int .u64 x_x5.Imm]) r r r r r r<|bD fun x_x7 hx_x7=>iS (en:=LR) r r r hx_x7 r<|lF (v:=.int .i64 x_x7) r r r r<|fF r r<|lF (v:=.sl (cap3.To.map LR)) r r r r<|fA r r<|lO (v:=.int .i64 x_x5.B) (z:=.agg [.int .i64 x_x5.Op,.int .i64 x_x5.A,.int .i64 x_x5.B,.int .i64 x_x5.C,.int .u64 x_x5.Imm]) r r r r r r<|bD fun x_x8 hx_x8=>iS (en:=LR) r r r hx_x8 r<|lF (v:=.int .i64 x_x8) r r r r<|bN (v:=.bool (x_x7 == x_x8)) r r r r r<|pT r r r r<|pF r r r r<|Mj (by kernel_rfl)<|xS<|cD (c:=(x_x7 == x_x8)) r ?_ ?_
    ·refine sQ<|rG<|aS r r<|aS r r<|nI<|xS<|rT<|zR<|MB (b:=(0,false)) r ?_ r r ?_ r (by decide)
     all_goals first|(simp;done)|(simp;omega)|rfl|(simp [Ma,LZ];done)
    ·exact sK<|xC (s:=()) () ((hE ⟨rfl,r,r,r,trivial⟩ trivial))
   ·exact oF r<|oF r<|oF r<|oF r<|oF r<|oF r<|oF r<|oF r<|oF r<|oF r<|oF r<|oF r<|oF r<|pF r r r r<|pF r r r r<|Mj (by kernel_rfl)<|xS<|Ny r<|sK<|xC (s:=()) () ((hE ⟨rfl,r,r,r,trivial⟩ trivial))
 ·rintro ⟨⟩ ⟨⟩ nn
  try dsimp only
  unfold MQ
  refine sQ<|sQ<|rG<|fF r r<|lF (v:=.sl (cap4.Out.map (eL LR))) r r r r<|mV r r<|bD fun x_x9 hx_x9=>iS (en:=(eL LR)) r r r hx_x9 r<|lF (v:=.sl (x_x9.map LR)) r r r r<|lS r r<|mV r r<|nI<|xS<|bK<|lP (E:=fun (s : Int) (g : Unit)=>[(0,.int .i64 k1),(2,.fptr (.agg [.sl (cap3.To.map LR),.sl (cap3.Keep.map D.bool)]) 0),(8,.int .i64 r6.1),(48,.sl (x_x9.map LR)),(49,.int .i64 (x_x9.length : Int)),(50,.int .i64 s)]) (O:=fun s g=>[]) (body:=fun s=>NB x_x9 cap3 k1 r6 s) (s:=0) () ((hE ⟨rfl,r,r,r,r,r,trivial⟩ trivial))<|?_
  rintro x10 ⟨⟩ nn
  try dsimp only
  unfold NB
  refine sQ<|rG<|bN (v:=.bool (decide (x10 < (x_x9.length : Int)))) r r r r r<|nI<|xS<|sQ<|cD (c:=(decide (x10 < (x_x9.length : Int)))) r ?_ ?_
  ·refine sK<|xS<|sQ<|bK<|sQ<|rG<|bD fun x_x11 hx_x11=>iS (en:=LR) r r r hx_x11 r<|lF (v:=.int .i64 x_x11) r r r r<|aS r r<|nI<|xS<|sQ<|rG<|fF r r<|lF (v:=.sl (cap3.Keep.map D.bool)) r r r r<|mV r r<|bD fun x_x12 hx_x12=>iS (en:=D.bool) r r r hx_x12 r<|lF (v:=.bool x_x12) r r r r<|mV r r<|mV r r<|bN (v:=.bool (x_x11 != r6.1)) r r r r r<|eB r r r<|mV r r<|sP 63 (b:=(x_x12 == (x_x11 != r6.1))) r ?_ ?_
   ·refine fF r r<|lF (v:=.sl (cap3.To.map LR)) r r r r<|mV r r<|bD fun x_x13 hx_x13=>iS (en:=LR) r r r hx_x13 r<|lF (v:=.int .i64 x_x13) r r r r<|fF r r<|lF (v:=.sl (cap3.To.map LR)) r r r r<|mV r r<|bD fun x_x14 hx_x14=>iS (en:=LR) r r r hx_x14 r<|lF (v:=.int .i64 x_x14) r r r r<|bN (v:=.bool (x_x13 == x_x14)) r r r r r<|pT r r r r<|Mj (by kernel_rfl)<|xS<|cD (c:=(x_x13 == x_x14)) r ?_ ?_
    ·refine sQ<|rG<|mV r r<|aS r r<|aS r r<|nI<|xS<|rT<|bR<|xR<|lR<|bR<|xR<|MB (b:=(x_x11,true)) r ?_ r r ?_ r (by decide)
     all_goals first|(simp;done)|(simp;omega)|rfl|(simp [Ma,LZ];done)
    ·exact sK<|bM<|xS<|rG<|bN (v:=.int .i64 (IntKind.i64.wrap (x10 + 1))) r r r r r<|mV r r<|nI<|xL (s:=IntKind.i64.wrap (x10 + 1)) () ((hE ⟨rfl,r,r,r,r,r,trivial⟩ trivial))
   ·exact oF r<|oF r<|oF r<|oF r<|oF r<|oF r<|oF r<|oF r<|oF r<|oF r<|oF r<|pF r r r r<|Mj (by kernel_rfl)<|xS<|Ny r<|sK<|bM<|xS<|rG<|bN (v:=.int .i64 (IntKind.i64.wrap (x10 + 1))) r r r r r<|mV r r<|nI<|xL (s:=IntKind.i64.wrap (x10 + 1)) () ((hE ⟨rfl,r,r,r,r,r,trivial⟩ trivial))
  ·refine eT<|xE<|lE<|bH<|xS<|sQ<|rG<|aS r r<|aS r r<|nI<|xS<|rT<|MB (b:=(0,false)) r ?_ r r ?_ r (by decide)
   all_goals first|(simp;done)|(simp;omega)|rfl|(simp [Ma,LZ];done)

def AfN : Ml:=(.seq (.reg [P 3 (.box (T 0) 3 33),P 4 (.box (T 1) 1 37),P 5 (.box (T 2) 2 45),P 6 (.asg (.c .nilf) none)] false) (.seq (.reg [P 7 (.mkf 75 [(T 3),(T 5),(T 4)]),P 6 (.asg (T 7) none)] false) .ret))
theorem Aiu : (Tryd.f47.body.bind (Mn Tryd.prog Tryd.f47.ntmps)) = some AfN:=by kernel_rfl
theorem Aiv : Tryd.f47.results.toList.mapM (Mw Tryd.prog) = some [(.t 6)]:=by kernel_rfl

def Afy : Ml:=(.seq (.reg [P 3 (.box (T 0) 3 33),P 4 (.box (T 1) 1 37),P 5 (.box (T 2) 2 45),P 6 (.asg (C 0) none),P 7 (.asg (C 0) none),P 8 (.asg (.c (.bool false)) none)] false) (.seq (.seq (.reg [P 13 (.ld 3 true (T 3)),P 14 (.ld 1 true (T 4)),P 15 (.call (.c (.clo 23 [])) [(T 13),(T 14)]),P 16 (.bin .neq (T 15) (C 0)),M 17 16,⟨(some 18),(.ld 3 true (T 3)),(some ⟨17,false⟩),[]⟩,⟨(some 19),(.ld 2 true (T 5)),(some ⟨17,false⟩),[]⟩,⟨(some 20),(.call (.c (.clo 24 [])) [(T 18),(T 19)]),(some ⟨17,false⟩),[]⟩,⟨(some 21),(.bin .neq (T 20) (C 0)),(some ⟨17,false⟩),[]⟩,P 22 (.pick (T 17) (.c (.bool true)) (T 21))] false) (.cond (T 22) (.seq (.reg [P 6 (.asg (C 0) none),P 7 (.asg (C 0) none),P 8 (.asg (.c (.bool false)) none)] false) .ret) .skip)) (.seq (.reg [P 23 (.ld 3 true (T 3)),P 24 (.ld 1 true (T 4)),P 25 (.ld 2 true (T 5)),P 26 (.call (.c (.clo 47 [])) [(T 23),(T 24),(T 25)]),P 9 (.asg (T 26) none)] false) (.seq (.seq (.reg [P 27 (.fldA 2 (T 3)),P 28 (.ld 1 false (T 27)),P 29 (.len false (T 28)),P 30 (.mv (C 0))] false) (.block 0 (.loop (.seq (.reg [P 31 (.bin .lss (T 30) (T 29))] false) (.seq (.cond (T 31) .skip (.exit 0)) (.seq (.block 1 (.seq (.reg [M 32 30,P 10 (.asg (T 32) none)] false) (.seq (.reg [M 34 9,M 35 10,P 36 (.call (T 34) [(T 35)]),M 33 36,P 37 (.ext (T 33) 0),P 38 (.ext (T 33) 1),P 11 (.asg (T 37) none),P 12 (.asg (T 38) none)] false) (.seq (.reg [M 39 12] false) (.cond (T 39) (.seq (.reg [M 40 10,M 41 11,P 6 (.asg (T 40) none),P 7 (.asg (T 41) none),P 8 (.asg (.c (.bool true)) none)] false) .ret) .skip))))) (.reg [P 42 (.bin .add (T 30) (C 1)),M 30 42] false))))))) (.seq (.reg [P 6 (.asg (C 0) none),P 7 (.asg (C 0) none),P 8 (.asg (.c (.bool false)) none)] false) .ret)))))
theorem AhQ : (Tryd.f25.body.bind (Mn Tryd.prog Tryd.f25.ntmps)) = some Afy:=by kernel_rfl
theorem AhR : Tryd.f25.results.toList.mapM (Mw Tryd.prog) = some [(.t 6),(.t 7),(.t 8)]:=by kernel_rfl
def RS (a : LX × Me × MD) : List D:=[MF a.1,Nl a.2.1,Sw a.2.2]
def RR (ds : List D) : LX × Me × MD:=(NJ (ds.getD 0 .top),Pb (ds.getD 1 .top),Yw (ds.getD 2 .top))
theorem Wa (a : LX × Me × MD) : RR (RS a) = a:=by simp [RR,RS]
def Wi (b : Int × Int × Bool) : D:=.tup [.int .i64 b.1,.int .i64 b.2.1,.bool b.2.2]
def Wh (_b : Int × Int × Bool) : List D:=[]
noncomputable def Te : Dw.Spec:=Mk [] .ground RS RR (fun a=>OV a.1 a.2.1 a.2.2) Wi Wh
noncomputable def Rp : Dw.Spec:=AcS (specs []) 3 [(.t 6)] AfN
theorem Zg : Mi Tryd.prog 47 Rp:=AgJ (Nn) Tryd.func47 (by decide) Aiu Aiv (by decide)
set_option maxHeartbeats 4000000 in
theorem AaB : Mi Tryd.prog 25 Te:=by
 refine Mu (Mo (l:=[(23,PY),(24,Rg),(47,Rp),(75,OJ)]) (by simp [Xg,YY,Zg,Va])) Tryd.func25 (by decide) AhQ AhR (np:=3) (by decide) Wa (fun _=>r) (fun _=>r) (by decide)<|?_
 rintro ⟨f1,l2,r3⟩
 show TrE (specs [(23,PY),(24,Rg),(47,Rp),(75,OJ)]) Afy (Mx [] .ground [(.t 6),(.t 7),(.t 8)] Wi Wh) ⟨[(0,.agg [.int .i64 f1.Params,.sl (f1.Slots.map LY),.sl (f1.Code.map LV)]),(1,.agg [.sl (l2.Out.map (eL LR))]),(2,.agg [.sl (r3.To.map LR),.sl (r3.Keep.map D.bool)])],[],262144⟩ (OV f1 l2 r3)
 refine Mp<|?_
 unfold Afy OV
 refine sQ<|rG<|bX r r r r r<|bX r r r r r<|bX r r r r r<|aS r r<|aS r r<|aS r r<|nI<|xS<|sC (E:=fun (s : Unit) (g : Nat × Nat × Nat)=>[(3,.optr 3 g.1 0 0),(4,.optr 4 g.2.1 0 0),(5,.optr 5 g.2.2 0 0)]) (O:=fun s g=>[(3,some (g.1,⟨false,true,3,33,[.agg [.int .i64 f1.Params,.sl (f1.Slots.map LY),.sl (f1.Code.map LV)]]⟩)),(4,some (g.2.1,⟨false,true,1,37,[.agg [.sl (l2.Out.map (eL LR))]]⟩)),(5,some (g.2.2,⟨false,true,2,45,[.agg [.sl (r3.To.map LR),.sl (r3.Keep.map D.bool)]]⟩))]) (j:=fun s=>Qh f1 r3 l2) ?_ ?_
 ·refine sQ<|rG<|lO (v:=.agg [.int .i64 f1.Params,.sl (f1.Slots.map LY),.sl (f1.Code.map LV)]) (z:=.agg [.int .i64 f1.Params,.sl (f1.Slots.map LY),.sl (f1.Code.map LV)]) r r r r r r<|lO (v:=.agg [.sl (l2.Out.map (eL LR))]) (z:=.agg [.sl (l2.Out.map (eL LR))]) r r r r r r<|bD fun r4 hr4=>cG (f1,l2) r r r Ty r r (by simp) r hr4 r<|bN (v:=.bool (r4 != 0)) r r r r r<|mV r r<|sP 17 (b:=(r4 != 0)) r ?_ ?_
  ·refine oF r<|oF r<|oF r<|oF r<|pT r r r r<|nI<|xS<|MY r<|sQ<|rG<|aS r r<|aS r r<|aS r r<|nI<|xS<|rT<|zR<|MB (b:=(0,0,false)) r ?_ r r ?_ r (by decide)
   all_goals first|(simp;done)|(simp;omega)|rfl|(simp [Ma,LZ];done)
  ·refine lO (v:=.agg [.int .i64 f1.Params,.sl (f1.Slots.map LY),.sl (f1.Code.map LV)]) (z:=.agg [.int .i64 f1.Params,.sl (f1.Slots.map LY),.sl (f1.Code.map LV)]) r r r r r r<|lO (v:=.agg [.sl (r3.To.map LR),.sl (r3.Keep.map D.bool)]) (z:=.agg [.sl (r3.To.map LR),.sl (r3.Keep.map D.bool)]) r r r r r r<|bD fun r5 hr5=>cG (f1,r3) r r r UX r r (by simp) r hr5 r<|bN (v:=.bool (r5 != 0)) r r r r r<|pF r r r r<|nI<|xS<|cD (c:=(r5 != 0)) r ?_ ?_
   ·refine sQ<|rG<|aS r r<|aS r r<|aS r r<|nI<|xS<|rT<|zR<|MB (b:=(0,0,false)) r ?_ r r ?_ r (by decide)
    all_goals first|(simp;done)|(simp;omega)|rfl|(simp [Ma,LZ];done)
   ·exact sK<|xC (s:=()) (_,_,_) ((hE ⟨rfl,r,r,trivial⟩ ⟨rfl,r,r,trivial⟩))
 ·rintro ⟨⟩ ⟨v3x1,v4x1,v5x1⟩ nn
  try dsimp only
  unfold Qh
  refine sQ<|rG<|lO (v:=.agg [.int .i64 f1.Params,.sl (f1.Slots.map LY),.sl (f1.Code.map LV)]) (z:=.agg [.int .i64 f1.Params,.sl (f1.Slots.map LY),.sl (f1.Code.map LV)]) r r r r r r<|lO (v:=.agg [.sl (l2.Out.map (eL LR))]) (z:=.agg [.sl (l2.Out.map (eL LR))]) r r r r r r<|lO (v:=.agg [.sl (r3.To.map LR),.sl (r3.Keep.map D.bool)]) (z:=.agg [.sl (r3.To.map LR),.sl (r3.Keep.map D.bool)]) r r r r r r<|Ahl (E:=fun (g : Nat)=>[(3,.optr 1003 g 0 0),(23,.agg [.int .i64 f1.Params,.sl (f1.Slots.map LY),.sl (f1.Code.map LV)]),(24,.agg [.sl (l2.Out.map (eL LR))]),(25,.agg [.sl (r3.To.map LR),.sl (r3.Keep.map D.bool)])]) (O:=fun g=>[(1003,some (g,⟨false,true,3,33,[.agg [.int .i64 f1.Params,.sl (f1.Slots.map LY),.sl (f1.Code.map LV)]]⟩))]) _ ((Aaw (fun g=>bif Nat.ble 4096 g then g + 20000 else g + 1000) (by rfl) (hE ⟨rfl,r,r,r,trivial⟩ ⟨rfl,trivial⟩)))<|?_
  rintro v1003x2 nn
  try dsimp only
  refine AgO (ds:=[.agg [.int .i64 f1.Params,.sl (f1.Slots.map LY),.sl (f1.Code.map LV)],.agg [.sl (l2.Out.map (eL LR))],.agg [.sl (r3.To.map LR),.sl (r3.Keep.map D.bool)]]) (caps:=[]) (E:=[(0,.agg [.int .i64 f1.Params,.sl (f1.Slots.map LY),.sl (f1.Code.map LV)]),(1,.agg [.sl (l2.Out.map (eL LR))]),(2,.agg [.sl (r3.To.map LR),.sl (r3.Keep.map D.bool)])]) r r r r r r r r<|?_
  unfold AfN
  refine sQ<|rG<|bX r r r r r<|bX r r r r r<|bX r r r r r<|aS r r<|nI<|Qj (E:=[(3,.fptr (.agg [.int .i64 f1.Params,.sl (f1.Slots.map LY),.sl (f1.Code.map LV)]) 0),(4,.fptr (.agg [.sl (l2.Out.map (eL LR))]) 0),(5,.fptr (.agg [.sl (r3.To.map LR),.sl (r3.Keep.map D.bool)]) 0)]) (O:=[(1003,some (v1003x2,⟨false,true,3,33,[.agg [.int .i64 f1.Params,.sl (f1.Slots.map LY),.sl (f1.Code.map LV)]]⟩))]) ((Kx (g:=3) r (by first | rfl | (simp [cells,frp,Fh,Ma]; done)) (Kx (g:=4) r (by first | rfl | (simp [cells,frp,Fh,Ma]; done)) (Kx (g:=5) r (by first | rfl | (simp [cells,frp,Fh,Ma]; done)) (hE ⟨(by first | rfl | (simp [BM,lkO,frp,Fh,frO]; done) | (simp [BM,lkO,frp,Fh,frO]; rfl) | (simp [BM,lkO,frp,Fh,frO,nbq]; done)),(by first | rfl | (simp [BM,lkO,frp,Fh,frO]; done) | (simp [BM,lkO,frp,Fh,frO]; rfl) | (simp [BM,lkO,frp,Fh,frO,nbq]; done)),(by first | rfl | (simp [BM,lkO,frp,Fh,frO]; done) | (simp [BM,lkO,frp,Fh,frO]; rfl) | (simp [BM,lkO,frp,Fh,frO,nbq]; done)),trivial⟩ ⟨(by first | rfl | (simp [BM,lkO,frp,Fh,frO]; done) | (simp [BM,lkO,frp,Fh,frO]; rfl) | (simp [BM,lkO,frp,Fh,frO,nbq]; done)),trivial⟩))))) fun nn=>sQ<|rG<|mF (caps:=[.fptr (.agg [.int .i64 f1.Params,.sl (f1.Slots.map LY),.sl (f1.Code.map LV)]) 0,.fptr (.agg [.sl (r3.To.map LR),.sl (r3.Keep.map D.bool)]) 0,.fptr (.agg [.sl (l2.Out.map (eL LR))]) 0]) r r (by simp [FW])<|aS r r<|nI<|xS<|rT<|Ahn (d:=.clo 75 [.fptr (.agg [.int .i64 f1.Params,.sl (f1.Slots.map LY),.sl (f1.Code.map LV)]) 0,.fptr (.agg [.sl (r3.To.map LR),.sl (r3.Keep.map D.bool)]) 0,.fptr (.agg [.sl (l2.Out.map (eL LR))]) 0]) (E:=[(3,.optr 3 _ 0 0),(26,.clo 75 [.fptr (.agg [.int .i64 f1.Params,.sl (f1.Slots.map LY),.sl (f1.Code.map LV)]) 0,.fptr (.agg [.sl (r3.To.map LR),.sl (r3.Keep.map D.bool)]) 0,.fptr (.agg [.sl (l2.Out.map (eL LR))]) 0])]) (O:=[(3,some (_,⟨false,true,3,33,[.agg [.int .i64 f1.Params,.sl (f1.Slots.map LY),.sl (f1.Code.map LV)]]⟩))]) r (by first | rfl | (simp [PZ,MV,rdA,raw,strip,Od,S.ge,S.go,look,AgP,cells,Of]; done)) r ((Acp (E1:=[(3,.optr 1003 v1003x2 0 0),(26,.clo 75 [.fptr (.agg [.int .i64 f1.Params,.sl (f1.Slots.map LY),.sl (f1.Code.map LV)]) 0,.fptr (.agg [.sl (r3.To.map LR),.sl (r3.Keep.map D.bool)]) 0,.fptr (.agg [.sl (l2.Out.map (eL LR))]) 0])]) (O1:=[(1003,some (v1003x2,⟨false,true,3,33,[.agg [.int .i64 f1.Params,.sl (f1.Slots.map LY),.sl (f1.Code.map LV)]]⟩))]) (hE ⟨rfl,r,trivial⟩ ⟨rfl,trivial⟩) (fun _=>Aaw (fun g=>bif Nat.ble 24096 g then g - 20000 else bif (Nat.ble 1000 g && Nat.blt g 4096) then g - 1000 else g) (by rfl) (hE ⟨rfl,r,trivial⟩ ⟨rfl,trivial⟩)))) fun nn=>aS r r<|nI<|xS<|sQ<|sQ<|rG<|fA r r<|lO (v:=.sl (f1.Code.map LV)) (z:=.agg [.int .i64 f1.Params,.sl (f1.Slots.map LY),.sl (f1.Code.map LV)]) r r r r r r<|lS r r<|mV r r<|nI<|xS<|bK<|lP (E:=fun (s : Int) (g : Unit)=>[(9,.clo 75 [.fptr (.agg [.int .i64 f1.Params,.sl (f1.Slots.map LY),.sl (f1.Code.map LV)]) 0,.fptr (.agg [.sl (r3.To.map LR),.sl (r3.Keep.map D.bool)]) 0,.fptr (.agg [.sl (l2.Out.map (eL LR))]) 0]),(29,.int .i64 (f1.Code.length : Int)),(30,.int .i64 s)]) (O:=fun s g=>[]) (body:=fun s=>Qg f1 r3 l2 s) (s:=0) () ((hE ⟨rfl,r,r,trivial⟩ trivial))<|?_
  rintro x6 ⟨⟩ nn
  try dsimp only
  unfold Qg
  refine sQ<|rG<|bN (v:=.bool (decide (x6 < (f1.Code.length : Int)))) r r r r r<|nI<|xS<|sQ<|cD (c:=(decide (x6 < (f1.Code.length : Int)))) r ?_ ?_
  ·refine sK<|xS<|sQ<|bK<|sQ<|rG<|mV r r<|aS r r<|nI<|xS<|sQ<|rG<|mV r r<|mV r r<|bD fun r7 hr7=>cG (x6,f1,r3,l2) r r r Qy r r (by simp) r hr7 r<|mV r r<|eX (v:=.int .i64 r7.1) r r r<|eX (v:=.bool r7.2) r r r<|aS r r<|aS r r<|nI<|xS<|sQ<|rG<|mV r r<|nI<|xS<|cD (c:=r7.2) r ?_ ?_
   ·refine sQ<|rG<|mV r r<|mV r r<|aS r r<|aS r r<|aS r r<|nI<|xS<|rT<|bR<|xR<|lR<|bR<|xR<|MB (b:=(x6,r7.1,true)) r ?_ r r ?_ r (by decide)
    all_goals first|(simp;done)|(simp;omega)|rfl|(simp [Ma,LZ];done)
   ·exact sK<|bM<|xS<|rG<|bN (v:=.int .i64 (IntKind.i64.wrap (x6 + 1))) r r r r r<|mV r r<|nI<|xL (s:=IntKind.i64.wrap (x6 + 1)) () ((hE ⟨rfl,r,r,trivial⟩ trivial))
  ·refine eT<|xE<|lE<|bH<|xS<|sQ<|rG<|aS r r<|aS r r<|aS r r<|nI<|xS<|rT<|MB (b:=(0,0,false)) r ?_ r r ?_ r (by decide)
   all_goals first|(simp;done)|(simp;omega)|rfl|(simp [Ma,LZ];done)

end Go.Proofs.YtfpgidpffhmadaaDoor
