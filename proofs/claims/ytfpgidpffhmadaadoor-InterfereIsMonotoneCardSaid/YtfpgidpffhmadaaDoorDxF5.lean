/-
  Programs on typed data, and the proofs that the code does what they say; written by a program (dx.py).
-/
import Derived.Test.YtfpgidpffhmadaaDoorProg
import Derived.Test.YtfpgidpffhmadaaDoorDc
import Derived.KernelRfl
import Derived.Test.YtfpgidpffhmadaaDoorDxP
import Derived.Test.YtfpgidpffhmadaaDoorDxF4
namespace Go.Proofs.YtfpgidpffhmadaaDoor
open Go Go.Dw Go.Proofs
set_option maxRecDepth 100000
open Go.Dw renaming Yj → mV,VN → bN,Pu → lO,TV → bD,XC → cK,VQ → nI,VT → xS,Yl → rG,Yn → sQ,Rj → aO,VM → aS,VR → oF,Zl → bL,VO → bS,OE → cV,MG → cG,Qo → cR,Pv → sV,QP → iS,Tu → iO,QS → lS,Tv → lW,TW → fA,ZC → fF,Zm → eX,AaC → nC,Sy → lF,Sz → sP,Ob → pT,Nl → pF,Yk → uN,VP → nW,XB → bX,Ri → aN,Xx → aL,AdB → mS,VU → cD,TY → bK,Ym → rT,VY → sK,VV → eT,VS → xC,TX → xL,PK → xR,Qq → lR,Sh → hE,Oc → lE,OG → bH,Nm → bM,PJ → bR,OH → xE,Yh → cP,VW → lP,QT → sC,AdC → mF,rf → r
def AfO : Jt:=(.seq (.reg [P 4 (.asg (.c (.int .u64 0)) none)] false) (.seq (.reg [M 5 0,M 6 1,P 7 (.bin .andNot (T 5) (T 6)),P 4 (.asg (T 7) none)] false) .ret))
theorem Ajn : (Tryd.f90.body.bind (Ju Tryd.prog Tryd.f90.ntmps)) = some AfO:=by kernel_rfl
theorem Ajo : Tryd.f90.results.toList.mapM (JE Tryd.prog) = some [(.t 4)]:=by kernel_rfl
def RV (a : Int × Int) : List D:=[.int .u64 a.1,.int .u64 a.2]
def RU (ds : List D) : Int × Int:=(uI (ds.getD 0 .top),uI (ds.getD 1 .top))
theorem WR (a : Int × Int) : RU (RV a) = a:=by simp [RU,RV,uI]
def XF (b : Int) : D:=.int .u64 b
def XE (_b : Int) : List D:=[]
noncomputable def TF : Dw.Spec:=Js [] .ground RV RU (fun a=>Oq a.1 a.2) XF XE
set_option maxHeartbeats 4000000 in
theorem AaK : Jr Tryd.prog 90 TF:=by
 refine JA (JW) Tryd.func90 (by decide) Ajn Ajo (np:=2) (by decide) WR (fun _=>r) (fun _=>r) (by decide)<|?_
 rintro ⟨x1,y2⟩
 show TrE (specs []) AfO (JH [] .ground [(.t 4)] XF XE) ⟨[(0,.int .u64 x1),(1,.int .u64 y2)],[],262144⟩ (Oq x1 y2)
 refine Jv<|?_
 unfold AfO Oq
 refine sQ<|rG<|aS r r<|nI<|xS<|sQ<|rG<|mV r r<|mV r r<|bN (v:=.int .u64 (IntKind.u64.wrap ((BitVec.ofInt IntKind.u64.bits x1 &&& ~~~ BitVec.ofInt IntKind.u64.bits y2).toNat))) r r r r r<|aS r r<|nI<|xS<|rT<|Jo (b:=IntKind.u64.wrap ((BitVec.ofInt IntKind.u64.bits x1 &&& ~~~ BitVec.ofInt IntKind.u64.bits y2).toNat)) r ?_ r r ?_ r
 all_goals first|(simp;done)|(simp;omega)|rfl|(simp [Jk,Ji];done)

def Mp (a : Jf × Jf) : List D:=[JO a.1,JO a.2,.clo 90 []]
def Mo (ds : List D) : Jf × Jf:=(Lu (ds.getD 0 .top),Lu (ds.getD 1 .top))
theorem Pe (a : Jf × Jf) : Mo (Mp a) = a:=by simp [Mo,Mp]
def PM (b : Jf × Jf × Jf) : D:=JO b.1
def PL (b : Jf × Jf × Jf) : List D:=[JO b.2.1,JO b.2.2]
noncomputable def Ln : Dw.Spec:=Js [(0,(8,120)),(1,(8,120))] (.ptr 8 120) Mp Mo (fun a=>Kq a.1 a.2) PM PL
set_option maxHeartbeats 4000000 in
theorem Uu : Jr Tryd.prog 87 Ln:=by
 refine JA (Jw (l:=[(90,TF)]) (by simp [AaK])) Tryd.func87 (by decide) Aea Aeb (np:=3) (by decide) Pe (fun _=>r) (fun _=>r) (by decide)<|?_
 rintro ⟨s1,t2⟩
 show TrE (specs [(90,TF)]) AcK (JH [(0,(8,120)),(1,(8,120))] (.ptr 8 120) [(.t 6)] PM PL) ⟨[(0,.optr 8192 0 0 0),(1,.optr 8193 1 0 0),(2,.clo 90 [])],[(8192,some (0,⟨false,true,8,120,[.agg [.int .u64 s1.a0,.int .u64 s1.a1,.int .u64 s1.a2,.int .u64 s1.a3,.int .u64 s1.a4,.int .u64 s1.a5,.int .u64 s1.a6,.int .u64 s1.a7]]⟩)),(8193,some (1,⟨false,true,8,120,[.agg [.int .u64 t2.a0,.int .u64 t2.a1,.int .u64 t2.a2,.int .u64 t2.a3,.int .u64 t2.a4,.int .u64 t2.a5,.int .u64 t2.a6,.int .u64 t2.a7]]⟩))],262144⟩ (Kq s1 t2)
 refine Jv<|?_
 unfold AcK Kq
 refine sQ<|rG<|aS r r<|nI<|xS<|sQ<|rG<|bL (cs:=[.int .u64 0,.int .u64 0,.int .u64 0,.int .u64 0,.int .u64 0,.int .u64 0,.int .u64 0,.int .u64 0]) (ps:=[]) r r r r<|bX r r r r r<|aS r r<|nI<|xS<|sQ<|sQ<|rG<|mV r r<|nI<|xS<|bK<|lP (E:=fun (s : Jf × Int) (g : Nat)=>[(0,.optr 8192 0 0 0),(1,.optr 8193 1 0 0),(2,.clo 90 []),(7,.optr 10 g 0 0),(11,.int .i64 s.2)]) (O:=fun s g=>[(10,some (g,⟨false,true,8,120,[.agg [.int .u64 s.1.a0,.int .u64 s.1.a1,.int .u64 s.1.a2,.int .u64 s.1.a3,.int .u64 s.1.a4,.int .u64 s.1.a5,.int .u64 s.1.a6,.int .u64 s.1.a7]]⟩)),(8192,some (0,⟨false,true,8,120,[.agg [.int .u64 s1.a0,.int .u64 s1.a1,.int .u64 s1.a2,.int .u64 s1.a3,.int .u64 s1.a4,.int .u64 s1.a5,.int .u64 s1.a6,.int .u64 s1.a7]]⟩)),(8193,some (1,⟨false,true,8,120,[.agg [.int .u64 t2.a0,.int .u64 t2.a1,.int .u64 t2.a2,.int .u64 t2.a3,.int .u64 t2.a4,.int .u64 t2.a5,.int .u64 t2.a6,.int .u64 t2.a7]]⟩))]) (body:=fun s=>Kz s1 t2 s.1 s.2) (s:=((Jf.mk 0 0 0 0 0 0 0 0),0)) _ ((hE ⟨rfl,r,r,r,r,trivial⟩ ⟨rfl,r,r,trivial⟩))<|?_
 rintro ⟨x3,x4⟩ v10x1 nn
 try dsimp only
 unfold Kz
 refine sQ<|rG<|bN (v:=.bool (decide (x4 < 8))) r r r r r<|nI<|xS<|sQ<|cD (c:=(decide (x4 < 8))) r ?_ ?_
 ·exact sK<|xS<|sQ<|bK<|sQ<|rG<|mV r r<|aS r r<|nI<|xS<|rG<|mV r r<|mV r r<|mV r r<|mV r r<|mV r r<|nC r r r<|cK fun hq=>Qp r r r hq<|bD fun s_e5 hs_e5=>QQ (q:=s_e5) (l:=s1.toList) (en:=TO) (j:=x4.toNat) (by simp) r r r hs_e5 r (fun _=>r)<|mV r r<|mV r r<|nC r r r<|cK fun hq=>Qp r r r hq<|bD fun t_e6 ht_e6=>QQ (q:=t_e6) (l:=t2.toList) (en:=TO) (j:=x4.toNat) (by simp) r r r ht_e6 r (fun _=>r)<|bD fun r7 hr7=>cG (s_e5,t_e6) r r r WR r r (by simp) r hr7 r<|nC r r r<|cK fun hq=>Qp r r r hq<|bD fun x_o8 hx_o8=>AbD (q:=x_o8) (q':=r7) (l:=x3.toList) (en:=TO) (j:=x4.toNat) (z':=.agg [.int .u64 ((x3.set x4.toNat r7).a0),.int .u64 ((x3.set x4.toNat r7).a1),.int .u64 ((x3.set x4.toNat r7).a2),.int .u64 ((x3.set x4.toNat r7).a3),.int .u64 ((x3.set x4.toNat r7).a4),.int .u64 ((x3.set x4.toNat r7).a5),.int .u64 ((x3.set x4.toNat r7).a6),.int .u64 ((x3.set x4.toNat r7).a7)]) (by simp) r r r r r hx_o8 r r (congrArg (fun l=>D.agg (l.map TO)) (Ly x3 x4.toNat r7).symm)<|Jz (by kernel_rfl)<|bM<|xS<|rG<|bN (v:=.int .i64 (IntKind.i64.wrap (x4 + 1))) r r r r r<|mV r r<|nI<|xL (s:=((x3.set x4.toNat r7),IntKind.i64.wrap (x4 + 1))) _ ((hE ⟨rfl,r,r,r,r,trivial⟩ ⟨rfl,r,r,trivial⟩))
 ·refine eT<|xE<|lE<|bH<|xS<|sQ<|rG<|mV r r<|aS r r<|nI<|xS<|rT<|AaH (b:=(x3,s1,t2)) r ?_ r ?_ r r ?_ r
  all_goals first|(simp;done)|(simp;omega)|rfl|(simp [Jk,Ji];done)

def AfC : Jt:=(.seq (.reg [⟨(some 4),(.asg (.c .nils) (some ⟨1,3⟩)),none,[]⟩] false) (.seq (.reg [M 5 0,P 6 (.call (.c (.clo 86 [])) [(T 5)]),M 7 1,P 8 (.call (.c (.clo 86 [])) [(T 7)]),P 9 (.call (.c (.clo 87 [])) [(T 6),(T 8),(.c (.clo 90 []))]),P 10 (.call (.c (.clo 89 [])) [(T 9)]),⟨(some 4),(.asg (T 10) (some ⟨1,3⟩)),none,[]⟩] false) .ret))
theorem AiP : (Tryd.f74.body.bind (Ju Tryd.prog Tryd.f74.ntmps)) = some AfC:=by kernel_rfl
theorem AiQ : Tryd.f74.results.toList.mapM (JE Tryd.prog) = some [(.t 4)]:=by kernel_rfl
def TH (a : (List Int) × (List Int)) : List D:=[.sl (a.1.map Jc),.sl (a.2.map Jc)]
def TG (ds : List D) : (List Int) × (List Int):=((uL uI) (ds.getD 0 .top),(uL uI) (ds.getD 1 .top))
theorem Yr (a : (List Int) × (List Int)) : TG (TH a) = a:=by simp [TG,TH,KE (u:=uI) (en:=Jc) (fun _=>rfl)]
def Vk (b : (List Int)) : D:=.sl (b.map Jc)
def YV (_b : (List Int)) : List D:=[]
noncomputable def Vl : Dw.Spec:=Js [] .val TH TG (fun a=>Ow a.1 a.2) Vk YV
set_option maxHeartbeats 4000000 in
theorem Abq : Jr Tryd.prog 74 Vl:=by
 refine JA (Jw (l:=[(86,Ld),(372823,Ln),(89,Kg)]) (by simp [QA,Uu,Nq])) Tryd.func74 (by decide) AiP AiQ (np:=2) (by decide) Yr (fun _=>r) (fun _=>r) (by decide)<|?_
 rintro ⟨a1,b2⟩
 show TrE (specs [(86,Ld),(372823,Ln),(89,Kg)]) AfC (JH [] .val [(.t 4)] Vk YV) ⟨[(0,.sl (a1.map Jc)),(1,.sl (b2.map Jc))],[],262144⟩ (Ow a1 b2)
 refine Jv<|?_
 unfold AfC Ow
 refine sQ<|rG<|aN (α:=Int) r Jc r<|nI<|xS<|sQ<|rG<|mV r r<|bD fun r3 hr3=>cP a1 r r r LY r r (by simp) r hr3<|mV r r<|bD fun r4 hr4=>cP b2 r r r LY r r (by simp) rfl hr4<|bD fun r5 hr5=>cP (r3,r4) rfl rfl (show _ = some Ln from by kernel_rfl) Pe rfl rfl (by simp) r hr5<|bD fun r6 hr6=>cR (l:=r6.1) (en:=Jc) r5.1 r r r LP r r (by simp) r hr6 r<|aO (l:=r6.1) (en:=Jc) r r r r<|nI<|xS<|rT<|JY (b:=r6.1) r ?_ r r ?_ (by first | rfl | (simp only [JC,JJ]; rfl) | simp [Vk])
 all_goals first|(simp;done)|(simp;omega)|rfl|(simp [Jk,Ji];done)

def AfA : Jt:=(.seq (.reg [P 5 (.asg (.c (.bool false)) none)] false) (.seq (.reg [P 6 (.ld 1 false (T 1)),M 7 0,P 8 (.fldA 0 (T 2)),⟨(some 9),(.ld 1 false (T 8)),none,[2]⟩,P 10 (.ld 1 false (T 3)),⟨(some 11),(.ixA 1 (T 9) (T 10)),none,[3,4]⟩,⟨(some 12),(.ld 1 false (T 11)),none,[5]⟩,⟨(some 13),(.call (.c (.clo 74 [])) [(T 7),(T 12)]),none,[1,6]⟩,⟨(some 14),(.call (.c (.clo 73 [])) [(T 6),(T 13)]),none,[0,7,7]⟩,⟨none,(.st 1 (T 1) (T 14)),none,[8,8,0,1,2,3,4,5,6,7,8]⟩] true) (.seq (.reg [P 5 (.asg (.c (.bool true)) none)] false) .ret)))
theorem AiL : (Tryd.f72.body.bind (Ju Tryd.prog Tryd.f72.ntmps)) = some AfA:=by kernel_rfl
theorem AiM : Tryd.f72.results.toList.mapM (JE Tryd.prog) = some [(.t 5)]:=by kernel_rfl
def MR (a : (List Int) × (List Int) × Jp × Int) : List D:=[.sl (a.1.map Jc),.sl (a.2.1.map Jc),.fptr (KL a.2.2.1) 0,.fptr (.int .i64 a.2.2.2) 0]
def MQ (ds : List D) : (List Int) × (List Int) × Jp × Int:=((uL uI) (ds.getD 0 .top),(uL uI) (ds.getD 1 .top),Px (fpD (ds.getD 2 .top)),uI (fpD (ds.getD 3 .top)))
theorem Qg (a : (List Int) × (List Int) × Jp × Int) : MQ (MR a) = a:=by simp [MQ,MR,uI,fpD,KE (u:=uI) (en:=Jc) (fun _=>rfl)]
def Qx (b : Bool × (List Int)) : D:=.bool b.1
def Qw (b : Bool × (List Int)) : List D:=[.sl (b.2.map Jc)]
noncomputable def Nx : Dw.Spec:=Js [(1,(1,42))] .val MR MQ (fun a=>Lh a.1 a.2.1 a.2.2.1 a.2.2.2) Qx Qw
set_option maxHeartbeats 4000000 in
theorem Vv : Jr Tryd.prog 72 Nx:=by
 refine JA (Jw (l:=[(74,Vl),(73,PW)]) (by simp [Abq,Yt])) Tryd.func72 (by decide) AiL AiM (np:=4) (by decide) Qg (fun _=>r) (fun _=>r) (by decide)<|?_
 rintro ⟨need1,cap2,cap3,cap4⟩
 show TrE (specs [(74,Vl),(73,PW)]) AfA (JH [(1,(1,42))] .val [(.t 5)] Qx Qw) ⟨[(0,.sl (need1.map Jc)),(1,.optr 8193 1 0 0),(2,.fptr (.agg [.sl (cap3.Out.map (eL Jc))]) 0),(3,.fptr (.int .i64 cap4) 0)],[(8193,some (1,⟨false,true,1,42,[.sl (cap2.map Jc)]⟩))],262144⟩ (Lh need1 cap2 cap3 cap4)
 refine Jv<|?_
 unfold AfA Lh
 refine sQ<|rG<|aS r r<|nI<|xS<|sQ<|rG<|lO (v:=.sl (cap2.map Jc)) (z:=.sl (cap2.map Jc)) r r r r r r<|mV r r<|fF r r<|lF (v:=.sl (cap3.Out.map (eL Jc))) r r r r<|lF (v:=.int .i64 cap4) r r r r<|bD fun x_x5 hx_x5=>iS (en:=(eL Jc)) r r r hx_x5 r<|lF (v:=.sl (x_x5.map Jc)) r r r r<|bD fun r6 hr6=>cV (need1,x_x5) r r r Yr r r (by simp) r hr6<|bD fun r7 hr7=>cV (cap2,r6) r r r RN r r (by simp) r hr7<|Tx (i:=0) (es':=[.sl (r7.map Jc)]) r r r r r r r (by first | trivial | (simp; done) | (simp; omega)) r r r r r r<|Jz (by kernel_rfl)<|xS<|sQ<|rG<|aS r r<|nI<|xS<|rT<|JY (b:=(true,r7)) r ?_ r r ?_ r
 all_goals first|(simp;done)|(simp;omega)|rfl|(simp [Jk,Ji];done)

def Afy : Jt:=(.seq (.reg [P 4 (.box (T 0) 3 33),P 8 (.asg (.c (.bool false)) none)] false) (.seq (.seq (.reg [P 11 (.ld 3 true (T 4)),M 12 1,P 13 (.call (.c (.clo 83 [])) [(T 11),(T 12)]),P 14 (.len false (T 13)),P 15 (.mv (C 0))] false) (.block 0 (.loop (.seq (.reg [P 16 (.bin .lss (T 15) (T 14))] false) (.seq (.cond (T 16) .skip (.exit 0)) (.seq (.block 1 (.seq (.reg [P 17 (.ixA 1 (T 13) (T 15)),P 18 (.ld 1 false (T 17)),P 10 (.asg (T 18) none)] false) (.seq (.reg [M 19 3,P 20 (.fldA 2 (T 4)),⟨(some 21),(.ld 1 false (T 20)),none,[1]⟩,M 22 10,⟨(some 23),(.ixA 5 (T 21) (T 22)),none,[2,3]⟩,⟨(some 24),(.ld 5 true (T 23)),none,[4]⟩,M 25 2,M 26 10,⟨(some 27),(.call (T 25) [(T 26)]),none,[6,7]⟩,⟨(some 28),(.call (.c (.clo 84 [])) [(T 24),(T 27)]),none,[5,8,8]⟩,⟨(some 29),(.call (T 19) [(T 28)]),none,[0,9,9]⟩,⟨(some 30),(.un .not (T 29)),none,[10]⟩] true) (.cond (T 30) (.seq (.reg [P 8 (.asg (.c (.bool false)) none)] false) .ret) .skip)))) (.reg [P 31 (.bin .add (T 15) (C 1)),M 15 31] false))))))) (.seq (.reg [P 8 (.asg (.c (.bool true)) none)] false) .ret)))
theorem AiH : (Tryd.f70.body.bind (Ju Tryd.prog Tryd.f70.ntmps)) = some Afy:=by kernel_rfl
theorem AiI : Tryd.f70.results.toList.mapM (JE Tryd.prog) = some [(.t 8)]:=by kernel_rfl
def Kv (a : Jh × Int × Jp × (List Int) × Jp × Int) : List D:=[JS a.1,.int .i64 a.2.1,.clo 85 [.fptr (KL a.2.2.1) 0],.clo 72 [.sl (a.2.2.2.1.map Jc),.fptr (KL a.2.2.2.2.1) 0,.fptr (.int .i64 a.2.2.2.2.2) 0]]
def Lj (ds : List D) : Jh × Int × Jp × (List Int) × Jp × Int:=(Mn (ds.getD 0 .top),uI (ds.getD 1 .top),Px (fpD (Zr (ds.getD 2 .top) 0)),(uL uI) (Zr (ds.getD 3 .top) 0),Px (fpD (Zr (ds.getD 3 .top) 1)),uI (fpD (Zr (ds.getD 3 .top) 2)))
theorem Ny (a : Jh × Int × Jp × (List Int) × Jp × Int) : Lj (Kv a) = a:=by simp [Lj,Kv,uI,fpD,Zr,KE (u:=uI) (en:=Jc) (fun _=>rfl)]
def NP (b : Bool × (List Int)) : D:=.bool b.1
def NO (b : Bool × (List Int)) : List D:=[.sl (b.2.map Jc)]
noncomputable def KG : Dw.Spec:=Js [(256,(1,42))] .val Kv Lj (fun a=>Ka a.1 a.2.1 a.2.2.1 a.2.2.2.1 a.2.2.2.2.1 a.2.2.2.2.2) NP NO
set_option maxHeartbeats 4000000 in
theorem Sm : Jr Tryd.prog 70 KG:=by
 refine JA (Jw (l:=[(83,YM),(85,Qi),(84,YL),(72,Nx)]) (by simp [AcN,YN,AcM,Vv])) Tryd.func70 (by decide) AiH AiI (np:=4) (by decide) Ny (fun _=>r) (fun _=>r) (by decide)<|?_
 rintro ⟨f1,k2,set3,visit4,visit5,visit6⟩
 show TrE (specs [(83,YM),(85,Qi),(84,YL),(72,Nx)]) Afy (JH [(256,(1,42))] .val [(.t 8)] NP NO) ⟨[(0,.agg [.int .i64 f1.Params,.sl (f1.Slots.map Jj),.sl (f1.Code.map Jg)]),(1,.int .i64 k2),(2,.clo 85 [.fptr (.agg [.sl (set3.Out.map (eL Jc))]) 0]),(3,.clo 72 [.optr 8448 256 0 0,.fptr (.agg [.sl (visit5.Out.map (eL Jc))]) 0,.fptr (.int .i64 visit6) 0])],[(8448,some (256,⟨false,true,1,42,[.sl (visit4.map Jc)]⟩))],262144⟩ (Ka f1 k2 set3 visit4 visit5 visit6)
 refine Jv<|?_
 unfold Afy Ka
 refine sQ<|rG<|bX r r r r r<|aS r r<|nI<|xS<|sQ<|sQ<|rG<|lO (v:=.agg [.int .i64 f1.Params,.sl (f1.Slots.map Jj),.sl (f1.Code.map Jg)]) (z:=.agg [.int .i64 f1.Params,.sl (f1.Slots.map Jj),.sl (f1.Code.map Jg)]) r r r r r r<|mV r r<|bD fun r7 hr7=>cR (l:=r7) (en:=Jc) (f1,k2) r r r Aai r r (by simp) r hr7 r<|lW r r<|mV r r<|nI<|xS<|bK<|lP (E:=fun (s : (List Int) × Int) (g : Nat × Nat)=>[(2,.clo 85 [.fptr (.agg [.sl (set3.Out.map (eL Jc))]) 0]),(3,.clo 72 [.optr 8448 256 0 0,.fptr (.agg [.sl (visit5.Out.map (eL Jc))]) 0,.fptr (.int .i64 visit6) 0]),(4,.optr 4 g.1 0 0),(13,.osl 13 g.2 0 r7.length),(14,.int .i64 (r7.length : Int)),(15,.int .i64 s.2)]) (O:=fun s g=>[(4,some (g.1,⟨false,true,3,33,[.agg [.int .i64 f1.Params,.sl (f1.Slots.map Jj),.sl (f1.Code.map Jg)]]⟩)),(13,some (g.2,⟨false,false,1,3,r7.map Jc⟩)),(8448,some (256,⟨false,true,1,42,[.sl (s.1.map Jc)]⟩))]) (body:=fun s=>JT r7 f1 set3 visit5 visit6 s.1 s.2) (s:=(visit4,0)) (_,_) ((hE ⟨rfl,r,r,r,r,r,trivial⟩ ⟨rfl,r,r,trivial⟩))<|?_
 rintro ⟨x8,x9⟩ ⟨v4x1,v13x1⟩ nn
 try dsimp only
 unfold JT
 refine sQ<|rG<|bN (v:=.bool (decide (x9 < (r7.length : Int)))) r r r r r<|nI<|xS<|sQ<|cD (c:=(decide (x9 < (r7.length : Int)))) r ?_ ?_
 ·refine sK<|xS<|sQ<|bK<|sQ<|rG<|cK fun hq=>iO (l:=r7) (en:=Jc) r r r r r hq<|bD fun x_e10 hx_e10=>lO (v:=.int .i64 x_e10) (z:=Jc x_e10) r r r (MI hx_e10) r r<|aS r r<|nI<|xS<|sQ<|rG<|mV r r<|fA r r<|lO (v:=.sl (f1.Code.map Jg)) (z:=.agg [.int .i64 f1.Params,.sl (f1.Slots.map Jj),.sl (f1.Code.map Jg)]) r r r r r r<|mV r r<|bD fun x_x11 hx_x11=>iS (en:=Jg) r r r hx_x11 r<|lF (v:=.agg [.int .i64 x_x11.Op,.int .i64 x_x11.A,.int .i64 x_x11.B,.int .i64 x_x11.C,.int .u64 x_x11.Imm]) r r r r<|mV r r<|mV r r<|bD fun r12 hr12=>cV (x_e10,set3) r r r To r r (by simp) r hr12<|bD fun r13 hr13=>cV (x_x11,r12) r r r Aah r r (by simp) r hr13<|bD fun r14 hr14=>cV (r13,x8,visit5,visit6) r r r Qg r r (by simp) r hr14<|uN (w:=.bool (!r14.1)) r r r r trivial<|Jz (by kernel_rfl)<|xS<|cD (c:=(!r14.1)) r ?_ ?_
  ·refine sQ<|rG<|aS r r<|nI<|xS<|rT<|bR<|xR<|lR<|bR<|xR<|JY (b:=(false,r14.2)) r ?_ r r ?_ r
   all_goals first|(simp;done)|(simp;omega)|rfl|(simp [Jk,Ji];done)
  ·exact sK<|bM<|xS<|rG<|bN (v:=.int .i64 (IntKind.i64.wrap (x9 + 1))) r r r r r<|mV r r<|nI<|xL (s:=(r14.2,IntKind.i64.wrap (x9 + 1))) (_,_) ((hE ⟨rfl,r,r,r,r,r,trivial⟩ ⟨rfl,r,r,trivial⟩))
 ·refine eT<|xE<|lE<|bH<|xS<|sQ<|rG<|aS r r<|nI<|xS<|rT<|JY (b:=(true,x8)) r ?_ r r ?_ r
  all_goals first|(simp;done)|(simp;omega)|rfl|(simp [Jk,Ji];done)

def Afe : Jt:=(.seq (.reg [P 2 (.box (T 0) 3 33),P 3 (.box (T 1) 1 37),P 4 (.asg (C 0) none),P 5 (.asg (C 0) none),P 6 (.asg (.c (.bool false)) none)] false) (.seq (.seq (.reg [P 9 (.ld 3 true (T 2)),P 10 (.ld 1 true (T 3)),P 11 (.call (.c (.clo 43 [])) [(T 9),(T 10)]),P 12 (.un .not (T 11))] false) (.cond (T 12) (.seq (.reg [P 4 (.asg (C 0) none),P 5 (.asg (C 0) none),P 6 (.asg (.c (.bool false)) none)] false) .ret) .skip)) (.seq (.seq (.reg [P 13 (.fldA 2 (T 2)),P 14 (.ld 1 false (T 13)),P 15 (.len false (T 14)),P 16 (.mv (C 0))] false) (.block 0 (.loop (.seq (.reg [P 17 (.bin .lss (T 16) (T 15))] false) (.seq (.cond (T 17) .skip (.exit 0)) (.seq (.block 1 (.seq (.reg [M 18 16,P 7 (.new (.int .i64 0) 1 3),⟨none,(.st 1 (T 7) (T 18)),none,[]⟩] false) (.seq (.reg [P 8 (.new .nils 1 42)] false) (.seq (.reg [P 19 (.ld 3 true (T 2)),P 20 (.ld 1 false (T 7)),P 21 (.ld 1 true (T 3)),⟨(some 22),(.call (.c (.clo 71 [])) [(T 21)]),none,[2]⟩,P 23 (.mkf 72 [(T 8),(T 3),(T 7)]),⟨(some 24),(.call (.c (.clo 70 [])) [(T 19),(T 20),(T 22),(T 23)]),none,[0,1,3,4,3]⟩] true) (.seq (.reg [P 25 (.ld 1 false (T 8)),P 26 (.len false (T 25)),P 27 (.bin .gtr (T 26) (C 0))] false) (.cond (T 27) (.seq (.reg [P 28 (.ld 1 false (T 7)),P 29 (.ld 1 false (T 8)),⟨(some 30),(.ixA 1 (T 29) (C 0)),none,[1]⟩,⟨(some 31),(.ld 1 false (T 30)),none,[2]⟩,⟨(some 4),(.asg (T 28) none),none,[0,0]⟩,⟨(some 5),(.asg (T 31) none),none,[3,4,0,1,2,3,4]⟩,⟨(some 6),(.asg (.c (.bool true)) none),none,[5,0,1,2,3,4,5]⟩] true) .ret) .skip)))))) (.reg [P 32 (.bin .add (T 16) (C 1)),M 16 32] false))))))) (.seq (.reg [P 4 (.asg (C 0) none),P 5 (.asg (C 0) none),P 6 (.asg (.c (.bool false)) none)] false) .ret))))
theorem AhT : (Tryd.f44.body.bind (Ju Tryd.prog Tryd.f44.ntmps)) = some Afe:=by kernel_rfl
theorem AhU : Tryd.f44.results.toList.mapM (JE Tryd.prog) = some [(.t 4),(.t 5),(.t 6)]:=by kernel_rfl
def RI (a : Jh × Jp) : List D:=[JS a.1,KL a.2]
def RH (ds : List D) : Jh × Jp:=(Mn (ds.getD 0 .top),Px (ds.getD 1 .top))
theorem Ws (a : Jh × Jp) : RH (RI a) = a:=by simp [RH,RI]
def Xq (b : Int × Int × Bool) : D:=.tup [.int .i64 b.1,.int .i64 b.2.1,.bool b.2.2]
def Xp (_b : Int × Int × Bool) : List D:=[]
noncomputable def Tg : Dw.Spec:=Js [] .ground RI RH (fun a=>NN a.1 a.2) Xq Xp
set_option maxHeartbeats 4000000 in
theorem Aan : Jr Tryd.prog 44 Tg:=by
 refine JA (Jw (l:=[(43,Nz),(71,TP),(1225089094,KG)]) (by simp [Vh,AaN,Sm])) Tryd.func44 (by decide) AhT AhU (np:=2) (by decide) Ws (fun _=>r) (fun _=>r) (by decide)<|?_
 rintro ⟨f1,l2⟩
 show TrE (specs [(43,Nz),(71,TP),(1225089094,KG)]) Afe (JH [] .ground [(.t 4),(.t 5),(.t 6)] Xq Xp) ⟨[(0,.agg [.int .i64 f1.Params,.sl (f1.Slots.map Jj),.sl (f1.Code.map Jg)]),(1,.agg [.sl (l2.Out.map (eL Jc))])],[],262144⟩ (NN f1 l2)
 refine Jv<|?_
 unfold Afe NN
 refine sQ<|rG<|bX r r r r r<|bX r r r r r<|aS r r<|aS r r<|aS r r<|nI<|KM (E:=[(2,.optr 2 _ 0 0),(3,.fptr (.agg [.sl (l2.Out.map (eL Jc))]) 0)]) (O:=[(2,some (_,⟨false,true,3,33,[.agg [.int .i64 f1.Params,.sl (f1.Slots.map Jj),.sl (f1.Code.map Jg)]]⟩))]) ((Zw (g:=3) r (by first | rfl | (simp [cells,frp,Lc,Jk]; done)) (hE ⟨(by first | rfl | (simp [Kf,lkO,frp,Lc,frO]; done) | (simp [Kf,lkO,frp,Lc,frO]; rfl)),(by first | rfl | (simp [Kf,lkO,frp,Lc,frO]; done) | (simp [Kf,lkO,frp,Lc,frO]; rfl)),trivial⟩ ⟨(by first | rfl | (simp [Kf,lkO,frp,Lc,frO]; done) | (simp [Kf,lkO,frp,Lc,frO]; rfl)),trivial⟩))) fun nn=>sQ<|sQ<|rG<|lO (v:=.agg [.int .i64 f1.Params,.sl (f1.Slots.map Jj),.sl (f1.Code.map Jg)]) (z:=.agg [.int .i64 f1.Params,.sl (f1.Slots.map Jj),.sl (f1.Code.map Jg)]) r r r r r r<|lF (v:=.agg [.sl (l2.Out.map (eL Jc))]) r r r r<|bD fun r3 hr3=>cG (f1,l2) r r r RJ r r (by simp) r hr3 r<|uN (w:=.bool (!r3)) r r r r trivial<|nI<|xS<|cD (c:=(!r3)) r ?_ ?_
 ·refine sQ<|rG<|aS r r<|aS r r<|aS r r<|nI<|xS<|rT<|xR<|Km (b:=(0,0,false)) r ?_ r r ?_ r (by decide)
  all_goals first|(simp;done)|(simp;omega)|rfl|(simp [Jk,Ji];done)
 ·refine sK<|xS<|sQ<|sQ<|rG<|fA r r<|lO (v:=.sl (f1.Code.map Jg)) (z:=.agg [.int .i64 f1.Params,.sl (f1.Slots.map Jj),.sl (f1.Code.map Jg)]) r r r r r r<|lS r r<|mV r r<|nI<|xS<|bK<|lP (E:=fun (s : Int) (g : Nat)=>[(2,.optr 2 g 0 0),(3,.fptr (.agg [.sl (l2.Out.map (eL Jc))]) 0),(15,.int .i64 (f1.Code.length : Int)),(16,.int .i64 s)]) (O:=fun s g=>[(2,some (g,⟨false,true,3,33,[.agg [.int .i64 f1.Params,.sl (f1.Slots.map Jj),.sl (f1.Code.map Jg)]]⟩))]) (body:=fun s=>Pq f1 l2 s) (s:=0) _ ((hE ⟨rfl,r,r,r,trivial⟩ ⟨rfl,trivial⟩))<|?_
  rintro x4 v2x1 nn
  try dsimp only
  unfold Pq
  refine sQ<|rG<|bN (v:=.bool (decide (x4 < (f1.Code.length : Int)))) r r r r r<|nI<|xS<|sQ<|cD (c:=(decide (x4 < (f1.Code.length : Int)))) r ?_ ?_
  ·refine sK<|xS<|sQ<|bK<|sQ<|rG<|mV r r<|nW r<|sV (z':=.int .i64 x4) r r r r r r r r r<|nI<|KM (E:=[(2,.optr 2 _ 0 0),(3,.fptr (.agg [.sl (l2.Out.map (eL Jc))]) 0),(7,.fptr (.int .i64 x4) 0),(15,.int .i64 (f1.Code.length : Int)),(16,.int .i64 x4)]) (O:=[(2,some (_,⟨false,true,3,33,[.agg [.int .i64 f1.Params,.sl (f1.Slots.map Jj),.sl (f1.Code.map Jg)]]⟩))]) ((Zw (g:=7) r (by first | rfl | (simp [cells,frp,Lc,Jk]; done)) (hE ⟨(by first | rfl | (simp [Kf,lkO,frp,Lc,frO]; done) | (simp [Kf,lkO,frp,Lc,frO]; rfl)),(by first | rfl | (simp [Kf,lkO,frp,Lc,frO]; done) | (simp [Kf,lkO,frp,Lc,frO]; rfl)),(by first | rfl | (simp [Kf,lkO,frp,Lc,frO]; done) | (simp [Kf,lkO,frp,Lc,frO]; rfl)),(by first | rfl | (simp [Kf,lkO,frp,Lc,frO]; done) | (simp [Kf,lkO,frp,Lc,frO]; rfl)),(by first | rfl | (simp [Kf,lkO,frp,Lc,frO]; done) | (simp [Kf,lkO,frp,Lc,frO]; rfl)),trivial⟩ ⟨(by first | rfl | (simp [Kf,lkO,frp,Lc,frO]; done) | (simp [Kf,lkO,frp,Lc,frO]; rfl)),trivial⟩))) fun nn=>sQ<|rG<|nW r<|nI<|xS<|sQ<|rG<|lO (v:=.agg [.int .i64 f1.Params,.sl (f1.Slots.map Jj),.sl (f1.Code.map Jg)]) (z:=.agg [.int .i64 f1.Params,.sl (f1.Slots.map Jj),.sl (f1.Code.map Jg)]) r r r r r r<|lF (v:=.int .i64 x4) r r r r<|lF (v:=.agg [.sl (l2.Out.map (eL Jc))]) r r r r<|bD fun r5 hr5=>cV l2 r r r Xr r r (by simp) r hr5<|mF (caps:=[.optr 8 _ 0 0,.fptr (.agg [.sl (l2.Out.map (eL Jc))]) 0,.fptr (.int .i64 x4) 0]) r r (by simp [XA])<|bD fun r6 hr6=>cV (f1,x4,r5,[],l2,x4) rfl rfl (show _ = some KG from by kernel_rfl) Ny rfl rfl (by simp) (by first | rfl | (simp only [JC,JJ]; rfl) | simp [Kv,JS,KL,KL]) hr6<|Jz (by kernel_rfl)<|xS<|sQ<|rG<|lO (v:=.sl (r6.2.map Jc)) (z:=.sl (r6.2.map Jc)) r r r r r r<|lS r r<|bN (v:=.bool (decide ((r6.2.length : Int) > 0))) r r r r r<|nI<|xS<|cD (c:=(decide ((r6.2.length : Int) > 0))) r ?_ ?_
   ·refine sQ<|rG<|lF (v:=.int .i64 x4) r r r r<|lO (v:=.sl (r6.2.map Jc)) (z:=.sl (r6.2.map Jc)) r r r r r r<|bD fun x_x7 hx_x7=>iS (en:=Jc) r r r hx_x7 r<|lF (v:=.int .i64 x_x7) r r r r<|aS r r<|aS r r<|aS r r<|Jz (by kernel_rfl)<|xS<|rT<|bR<|xR<|lR<|bR<|xR<|Km (b:=(x4,x_x7,true)) r ?_ r r ?_ r (by decide)
    all_goals first|(simp;done)|(simp;omega)|rfl|(simp [Jk,Ji];done)
   ·exact sK<|bM<|xS<|rG<|bN (v:=.int .i64 (IntKind.i64.wrap (x4 + 1))) r r r r r<|mV r r<|nI<|xL (s:=IntKind.i64.wrap (x4 + 1)) _ ((hE ⟨rfl,r,r,r,trivial⟩ ⟨rfl,trivial⟩))
  ·refine eT<|xE<|lE<|bH<|xS<|sQ<|rG<|aS r r<|aS r r<|aS r r<|nI<|xS<|rT<|Km (b:=(0,0,false)) r ?_ r r ?_ r (by decide)
   all_goals first|(simp;done)|(simp;omega)|rfl|(simp [Jk,Ji];done)

def AeN : Jt:=(.seq (.reg [P 2 (.box (T 0) 3 33),P 3 (.box (T 1) 1 37),P 4 (.asg (C 0) none)] false) (.seq (.seq (.reg [P 8 (.ld 3 true (T 2)),P 9 (.ld 1 true (T 3)),P 10 (.call (.c (.clo 43 [])) [(T 8),(T 9)]),P 11 (.un .not (T 10))] false) (.cond (T 11) (.seq (.reg [P 4 (.asg (C 11) none)] false) .ret) .skip)) (.seq (.seq (.reg [P 13 (.ld 3 true (T 2)),P 14 (.ld 1 true (T 3)),P 15 (.call (.c (.clo 44 [])) [(T 13),(T 14)]),M 12 15,P 16 (.ext (T 12) 0),P 17 (.ext (T 12) 1),P 18 (.ext (T 12) 2),P 5 (.asg (T 16) none),P 6 (.asg (T 17) none),P 7 (.asg (T 18) none)] false) (.seq (.reg [M 19 7] false) (.cond (T 19) (.seq (.reg [P 4 (.asg (C 11) none)] false) .ret) .skip))) (.seq (.reg [P 4 (.asg (C 0) none)] false) .ret))))
theorem Ahl : (Tryd.f23.body.bind (Ju Tryd.prog Tryd.f23.ntmps)) = some AeN:=by kernel_rfl
theorem Ahm : Tryd.f23.results.toList.mapM (JE Tryd.prog) = some [(.t 4)]:=by kernel_rfl
def RG (a : Jh × Jp) : List D:=[JS a.1,KL a.2]
def RF (ds : List D) : Jh × Jp:=(Mn (ds.getD 0 .top),Px (ds.getD 1 .top))
theorem Sl (a : Jh × Jp) : RF (RG a) = a:=by simp [RF,RG]
def Xo (b : Int) : D:=.int .i64 b
def Xn (_b : Int) : List D:=[]
noncomputable def Of : Dw.Spec:=Js [] .ground RG RF (fun a=>MC a.1 a.2) Xo Xn
set_option maxHeartbeats 4000000 in
theorem Wq : Jr Tryd.prog 23 Of:=by
 refine JA (Jw (l:=[(43,Nz),(44,Tg)]) (by simp [Vh,Aan])) Tryd.func23 (by decide) Ahl Ahm (np:=2) (by decide) Sl (fun _=>r) (fun _=>r) (by decide)<|?_
 rintro ⟨f1,l2⟩
 show TrE (specs [(43,Nz),(44,Tg)]) AeN (JH [] .ground [(.t 4)] Xo Xn) ⟨[(0,.agg [.int .i64 f1.Params,.sl (f1.Slots.map Jj),.sl (f1.Code.map Jg)]),(1,.agg [.sl (l2.Out.map (eL Jc))])],[],262144⟩ (MC f1 l2)
 refine Jv<|?_
 unfold AeN MC
 refine sQ<|rG<|bX r r r r r<|bX r r r r r<|aS r r<|nI<|xS<|sQ<|sQ<|rG<|lO (v:=.agg [.int .i64 f1.Params,.sl (f1.Slots.map Jj),.sl (f1.Code.map Jg)]) (z:=.agg [.int .i64 f1.Params,.sl (f1.Slots.map Jj),.sl (f1.Code.map Jg)]) r r r r r r<|lO (v:=.agg [.sl (l2.Out.map (eL Jc))]) (z:=.agg [.sl (l2.Out.map (eL Jc))]) r r r r r r<|bD fun r3 hr3=>cG (f1,l2) r r r RJ r r (by simp) r hr3 r<|uN (w:=.bool (!r3)) r r r r trivial<|nI<|xS<|cD (c:=(!r3)) r ?_ ?_
 ·refine sQ<|rG<|aS r r<|nI<|xS<|rT<|xR<|Jo (b:=11) r ?_ r r ?_ r
  all_goals first|(simp;done)|(simp;omega)|rfl|(simp [Jk,Ji];done)
 ·refine sK<|xS<|sQ<|sQ<|rG<|lO (v:=.agg [.int .i64 f1.Params,.sl (f1.Slots.map Jj),.sl (f1.Code.map Jg)]) (z:=.agg [.int .i64 f1.Params,.sl (f1.Slots.map Jj),.sl (f1.Code.map Jg)]) r r r r r r<|lO (v:=.agg [.sl (l2.Out.map (eL Jc))]) (z:=.agg [.sl (l2.Out.map (eL Jc))]) r r r r r r<|bD fun r4 hr4=>cG (f1,l2) r r r Ws r r (by simp) r hr4 r<|mV r r<|eX (v:=.int .i64 r4.1) r r r<|eX (v:=.int .i64 r4.2.1) r r r<|eX (v:=.bool r4.2.2) r r r<|aS r r<|aS r r<|aS r r<|nI<|xS<|sQ<|rG<|mV r r<|nI<|xS<|cD (c:=r4.2.2) r ?_ ?_
  ·refine sQ<|rG<|aS r r<|nI<|xS<|rT<|xR<|Jo (b:=11) r ?_ r r ?_ r
   all_goals first|(simp;done)|(simp;omega)|rfl|(simp [Jk,Ji];done)
  ·refine sK<|xS<|sQ<|rG<|aS r r<|nI<|xS<|rT<|Jo (b:=0) r ?_ r r ?_ r
   all_goals first|(simp;done)|(simp;omega)|rfl|(simp [Jk,Ji];done)

def AeS : Jt:=(.seq (.reg [P 2 (.box (T 0) 5 57),P 4 (.asg (.c (.bool false)) none)] false) (.seq (.reg [P 5 (.fldA 0 (T 2)),P 6 (.ld 1 false (T 5)),P 7 (.bin .eql (T 6) (C 17)),M 8 7,⟨(some 9),(.fldA 2 (T 2)),(some ⟨8,true⟩),[]⟩,⟨(some 10),(.ld 1 false (T 9)),(some ⟨8,true⟩),[]⟩,⟨(some 11),(.mv (T 1)),(some ⟨8,true⟩),[]⟩,⟨(some 12),(.bin .eql (T 10) (T 11)),(some ⟨8,true⟩),[]⟩,P 13 (.pick (T 8) (T 12) (.c (.bool false))),P 4 (.asg (T 13) none)] false) .ret))
theorem Ahv : (Tryd.f31.body.bind (Ju Tryd.prog Tryd.f31.ntmps)) = some AeS:=by kernel_rfl
theorem Ahw : Tryd.f31.results.toList.mapM (JE Tryd.prog) = some [(.t 4)]:=by kernel_rfl
def Qe (a : Je × Int) : List D:=[Jg a.1,.int .i64 a.2]
def Qd (ds : List D) : Je × Int:=(Qr (ds.getD 0 .top),uI (ds.getD 1 .top))
theorem UD (a : Je × Int) : Qd (Qe a) = a:=by simp [Qd,Qe,uI]
def Vf (b : Bool) : D:=.bool b
def Ve (_b : Bool) : List D:=[]
noncomputable def RB : Dw.Spec:=Js [] .ground Qe Qd (fun a=>MH a.1 a.2) Vf Ve
set_option maxHeartbeats 4000000 in
theorem Zz : Jr Tryd.prog 31 RB:=by
 refine JA (JW) Tryd.func31 (by decide) Ahv Ahw (np:=2) (by decide) UD (fun _=>r) (fun _=>r) (by decide)<|?_
 rintro ⟨x1,y2⟩
 show TrE (specs []) AeS (JH [] .ground [(.t 4)] Vf Ve) ⟨[(0,.agg [.int .i64 x1.Op,.int .i64 x1.A,.int .i64 x1.B,.int .i64 x1.C,.int .u64 x1.Imm]),(1,.int .i64 y2)],[],262144⟩ (MH x1 y2)
 refine Jv<|?_
 unfold AeS MH
 refine sQ<|rG<|bX r r r r r<|aS r r<|nI<|xS<|sQ<|rG<|fA r r<|lO (v:=.int .i64 x1.Op) (z:=.agg [.int .i64 x1.Op,.int .i64 x1.A,.int .i64 x1.B,.int .i64 x1.C,.int .u64 x1.Imm]) r r r r r r<|bN (v:=.bool (x1.Op == 17)) r r r r r<|mV r r<|sP 8 (b:=(x1.Op == 17)) r ?_ ?_
 ·refine fA r r<|lO (v:=.int .i64 x1.B) (z:=.agg [.int .i64 x1.Op,.int .i64 x1.A,.int .i64 x1.B,.int .i64 x1.C,.int .u64 x1.Imm]) r r r r r r<|mV r r<|bN (v:=.bool (x1.B == y2)) r r r r r<|pT r r r r<|aS r r<|nI<|xS<|rT<|Jo (b:=(x1.B == y2)) r ?_ r r ?_ r
  all_goals first|(simp;done)|(simp;omega)|rfl|(simp [Jk,Ji];done)
 ·refine oF r<|oF r<|oF r<|oF r<|pF r r r r<|aS r r<|nI<|xS<|rT<|Jo (b:=false) r ?_ r r ?_ r
  all_goals first|(simp;done)|(simp;omega)|rfl|(simp [Jk,Ji];done)

def Afn : Jt:=(.seq (.reg [⟨(some 2),(.asg (.c .nils) (some ⟨1,42⟩)),none,[]⟩] false) (.seq (.reg [M 8 0,P 9 (.len false (T 8)),P 10 (.mkS 1 42 24 .nils (T 9) (T 9)),⟨(some 3),(.asg (T 10) (some ⟨1,42⟩)),none,[]⟩] false) (.seq (.seq (.reg [M 11 0,P 12 (.len false (T 11)),P 13 (.mv (C 0))] false) (.block 0 (.loop (.seq (.reg [P 14 (.bin .lss (T 13) (T 12))] false) (.seq (.cond (T 14) .skip (.exit 0)) (.seq (.block 1 (.seq (.reg [M 15 13,P 16 (.ixA 1 (T 11) (T 13)),P 17 (.ld 1 false (T 16)),P 4 (.asg (T 15) none),⟨(some 5),(.asg (T 17) (some ⟨1,4⟩)),none,[]⟩] false) (.seq (.reg [M 18 5,P 19 (.len false (T 18)),P 20 (.mv (C 0))] false) (.block 2 (.loop (.seq (.reg [P 21 (.bin .lss (T 20) (T 19))] false) (.seq (.cond (T 21) .skip (.exit 2)) (.seq (.block 3 (.seq (.reg [M 22 20,P 23 (.ixA 1 (T 18) (T 20)),P 24 (.ld 1 false (T 23)),P 6 (.asg (T 22) none),P 7 (.asg (T 24) none)] false) (.seq (.reg [M 25 7] false) (.cond (T 25) (.reg [M 26 3,M 27 4,M 28 3,M 29 4,P 30 (.ixA 1 (T 28) (T 29)),P 31 (.ld 1 false (T 30)),M 32 6,⟨(some 33),(.bldS 1 3 (.int .i64 0) 1 [⟨0,(T 32)⟩]),none,[]⟩,P 34 (.app 1 3 8 (T 31) (T 33)),P 35 (.ixA 1 (T 26) (T 27)),⟨none,(.st 1 (T 35) (T 34)),none,[]⟩] false) .skip)))) (.reg [P 36 (.bin .add (T 20) (C 1)),M 20 36] false))))))))) (.reg [P 37 (.bin .add (T 13) (C 1)),M 13 37] false))))))) (.seq (.reg [M 38 3,⟨(some 2),(.asg (T 38) (some ⟨1,42⟩)),none,[]⟩] false) .ret))))
theorem Ail : (Tryd.f57.body.bind (Ju Tryd.prog Tryd.f57.ntmps)) = some Afn:=by kernel_rfl
theorem Aim : Tryd.f57.results.toList.mapM (JE Tryd.prog) = some [(.t 2)]:=by kernel_rfl
def Lf (a : (List (List Bool))) : List D:=[.sl (a.map (eL D.bool))]
def Oi (ds : List D) : (List (List Bool)):=(uL (uL uBo)) (ds.getD 0 .top)
theorem Oy (a : (List (List Bool))) : Oi (Lf a) = a:=by simp [Oi,Lf,KE (u:=(uL uBo)) (en:=(eL D.bool)) (KE (u:=uBo) (en:=D.bool) (fun _=>rfl))]
def OV (b : (List (List Int))) : D:=.sl (b.map (eL Jc))
def SK (_b : (List (List Int))) : List D:=[]
noncomputable def LG : Dw.Spec:=Js [] .val Lf Oi (fun a=>KJ a) OV SK
set_option maxHeartbeats 4000000 in
theorem Sk : Jr Tryd.prog 57 LG:=by
 refine JA (JW) Tryd.func57 (by decide) Ail Aim (np:=1) (by decide) Oy (fun _=>r) (fun _=>r) (by decide)<|?_
 intro m1
 show TrE (specs []) Afn (JH [] .val [(.t 2)] OV SK) ⟨[(0,.sl (m1.map (eL D.bool)))],[],262144⟩ (KJ m1)
 refine Jv<|?_
 unfold Afn KJ
 refine sQ<|rG<|aN (α:=(List Int)) r (eL Jc) r<|nI<|xS<|sQ<|rG<|mV r r<|lS r r<|cK fun hq=>Tw (α:=Int) r r r hq r<|aO (l:=List.replicate (m1.length : Int).toNat ([] : (List Int))) (en:=(fun _=>D.nils)) r r r r<|nI<|KM (E:=[(0,.sl (m1.map (eL D.bool))),(3,.osl 4099 _ 0 ((List.replicate (m1.length : Int).toNat ([] : (List Int))).length))]) (O:=[(4099,some (_,⟨false,false,1,42,(List.replicate (m1.length : Int).toNat ([] : (List Int))).map (eR 1 3 Jc)⟩))]) ((Zv (g:=3) (g2:=4099) r r r (Abl (l:=List.replicate (m1.length : Int).toNat ([] : (List Int))) (s':=1) (ty':=3) Jc (by decide) (fun _ h=>List.eq_of_mem_replicate h)) (hE ⟨rfl,r,trivial⟩ ⟨rfl,trivial⟩))) fun nn=>sQ<|sQ<|rG<|mV r r<|lS r r<|mV r r<|nI<|xS<|bK<|lP (E:=fun (s : (List (List Int)) × Int) (g : Nat)=>[(3,.osl 4099 g 0 s.1.length),(11,.sl (m1.map (eL D.bool))),(12,.int .i64 (m1.length : Int)),(13,.int .i64 s.2)]) (O:=fun s g=>[(4099,some (g,⟨false,false,1,42,s.1.map (eR 1 3 Jc)⟩))]) (body:=fun s=>MA m1 s.1 s.2) (s:=(List.replicate (m1.length : Int).toNat ([] : (List Int)),0)) _ ((hE ⟨rfl,r,r,r,trivial⟩ ⟨rfl,trivial⟩))<|?_
 rintro ⟨out2,x3⟩ v4099x1 nn
 try dsimp only
 unfold MA
 refine sQ<|rG<|bN (v:=.bool (decide (x3 < (m1.length : Int)))) r r r r r<|nI<|xS<|sQ<|cD (c:=(decide (x3 < (m1.length : Int)))) r ?_ ?_
 ·refine sK<|xS<|sQ<|bK<|sQ<|rG<|mV r r<|bD fun x_x4 hx_x4=>iS (en:=(eL D.bool)) r r r hx_x4 r<|lF (v:=.sl (x_x4.map D.bool)) r r r r<|aS r r<|aL r r<|nI<|xS<|sQ<|rG<|mV r r<|lS r r<|mV r r<|nI<|xS<|bK<|lP (E:=fun (s : (List (List Int)) × Int) (g : Nat)=>[(3,.osl 4099 g 0 s.1.length),(4,.int .i64 x3),(11,.sl (m1.map (eL D.bool))),(12,.int .i64 (m1.length : Int)),(13,.int .i64 x3),(18,.sl (x_x4.map D.bool)),(19,.int .i64 (x_x4.length : Int)),(20,.int .i64 s.2)]) (O:=fun s g=>[(4099,some (g,⟨false,false,1,42,s.1.map (eR 1 3 Jc)⟩))]) (body:=fun s=>MB x_x4 x3 s.1 s.2) (s:=(out2,0)) _ ((hE ⟨rfl,r,r,r,r,r,r,r,trivial⟩ ⟨rfl,trivial⟩))<|?_
  rintro ⟨out5,x6⟩ v4099x2 nn
  try dsimp only
  unfold MB
  refine sQ<|rG<|bN (v:=.bool (decide (x6 < (x_x4.length : Int)))) r r r r r<|nI<|xS<|sQ<|cD (c:=(decide (x6 < (x_x4.length : Int)))) r ?_ ?_
  ·refine sK<|xS<|sQ<|bK<|sQ<|rG<|mV r r<|bD fun x_x7 hx_x7=>iS (en:=D.bool) r r r hx_x7 r<|lF (v:=.bool x_x7) r r r r<|aS r r<|aS r r<|nI<|xS<|sQ<|rG<|mV r r<|nI<|xS<|cD (c:=x_x7) r ?_ ?_
   ·exact rG<|mV r r<|mV r r<|mV r r<|mV r r<|cK fun hq=>iO (l:=out5) (en:=(eR 1 3 Jc)) r r r r r hq<|bD fun out_e8 hout_e8=>Aes (q:=out_e8) Jc r r r hout_e8<|mV r r<|bS ([x6] : List Int) Jc r r r (by simp) r r r<|cK fun hq=>Aer (out_e8) (([x6] : List Int)) Jc r r r r r r r (by simp) (JI _ _ r) r r (by simp) (Jl _ _ r) (fun _=>r) r hq (fun _=>r)<|cK fun hq=>Tt (by simp) r r r r (by simpa using hq)<|YQ (l:=out5) (q:=out_e8) (q':=out_e8 ++ ([x6] : List Int)) Jc rfl rfl rfl rfl (.inr ⟨_,_,_,rfl⟩) hout_e8 rfl rfl ⟨⟨rfl,rfl,by simp,Aao fun _=>rfl⟩,trivial,rfl⟩ (congrArg (fun z=>[D.row _ _ z]) (Jl _ _ rfl)) rfl<|nI<|bM<|xS<|rG<|bN (v:=.int .i64 (IntKind.i64.wrap (x6 + 1))) rfl rfl rfl rfl rfl<|mV rfl rfl<|nI<|xL (s:=(out5.set x3.toNat (out_e8 ++ ([x6] : List Int)),IntKind.i64.wrap (x6 + 1))) _ ((hE ⟨(SB (q:=out5.length) rfl (by simp)),r,r,r,r,r,r,r,trivial⟩ ⟨rfl,trivial⟩))
   ·exact sK<|bM<|xS<|rG<|bN (v:=.int .i64 (IntKind.i64.wrap (x6 + 1))) r r r r r<|mV r r<|nI<|xL (s:=(out5,IntKind.i64.wrap (x6 + 1))) _ ((hE ⟨rfl,r,r,r,r,r,r,r,trivial⟩ ⟨rfl,trivial⟩))
  ·exact eT<|xE<|lE<|bH<|bM<|xS<|rG<|bN (v:=.int .i64 (IntKind.i64.wrap (x3 + 1))) r r r r r<|mV r r<|nI<|xL (s:=(out5,IntKind.i64.wrap (x3 + 1))) _ ((hE ⟨rfl,r,r,r,trivial⟩ ⟨rfl,trivial⟩))
 ·refine eT<|xE<|lE<|bH<|KM (E:=[(3,.osl 4099 _ 0 out2.length)]) (O:=[(4099,some (_,⟨false,false,1,42,out2.map (eL Jc)⟩))]) ((Aaj (g:=4099) r (Abm (l:=out2) Jc (fun _=>r)) (hE ⟨rfl,trivial⟩ ⟨rfl,trivial⟩))) fun nn=>sQ<|rG<|mV r r<|Sx r r r<|nI<|xS<|rT<|JY (b:=out2) r ?_ r r ?_ (by first | rfl | (simp only [JC,JJ]; rfl) | simp [OV])
  all_goals first|(simp;done)|(simp;omega)|rfl|(simp [Jk,Ji];done)

def AcJ : Jt:=(.seq (.reg [⟨(some 2),(.asg (.c .nils) (some ⟨1,43⟩)),none,[]⟩] false) (.seq (.reg [M 5 0,P 6 (.mkS 1 43 24 .nils (T 5) (T 5)),⟨(some 3),(.asg (T 6) (some ⟨1,43⟩)),none,[]⟩] false) (.seq (.seq (.reg [M 7 3,P 8 (.len false (T 7)),P 9 (.mv (C 0))] false) (.block 0 (.loop (.seq (.reg [P 10 (.bin .lss (T 9) (T 8))] false) (.seq (.cond (T 10) .skip (.exit 0)) (.seq (.block 1 (.seq (.reg [M 11 9,P 4 (.asg (T 11) none)] false) (.reg [M 12 3,M 13 4,M 14 0,P 15 (.mkS 1 4 1 (.bool false) (T 14) (T 14)),P 16 (.ixA 1 (T 12) (T 13)),⟨none,(.st 1 (T 16) (T 15)),none,[]⟩] false))) (.reg [P 17 (.bin .add (T 9) (C 1)),M 9 17] false))))))) (.seq (.reg [M 18 3,⟨(some 2),(.asg (T 18) (some ⟨1,43⟩)),none,[]⟩] false) .ret))))
theorem AdY : (Tryd.f55.body.bind (Ju Tryd.prog Tryd.f55.ntmps)) = some AcJ:=by kernel_rfl
theorem AdZ : Tryd.f55.results.toList.mapM (JE Tryd.prog) = some [(.t 2)]:=by kernel_rfl

def AcI : Jt:=(.seq (.reg [P 3 (.box (T 0) 3 33),P 4 (.box (T 1) 1 37),⟨(some 6),(.asg (.c .nils) (some ⟨1,42⟩)),none,[]⟩,P 7 (.asg (C 0) none)] false) (.seq (.seq (.reg [P 16 (.ld 3 true (T 3)),P 17 (.ld 1 true (T 4)),P 18 (.call (.c (.clo 23 [])) [(T 16),(T 17)]),P 8 (.asg (T 18) none)] false) (.seq (.reg [M 19 8,P 20 (.bin .neq (T 19) (C 0))] false) (.cond (T 20) (.seq (.reg [M 21 8,⟨(some 6),(.asg (.c .nils) (some ⟨1,42⟩)),none,[]⟩,P 7 (.asg (T 21) none)] false) .ret) .skip))) (.seq (.reg [P 22 (.fldA 1 (T 3)),P 23 (.ld 1 false (T 22)),P 24 (.len false (T 23)),P 25 (.call (.c (.clo 55 [])) [(T 24)]),⟨(some 9),(.asg (T 25) (some ⟨1,43⟩)),none,[]⟩] false) (.seq (.seq (.reg [P 26 (.fldA 2 (T 3)),P 27 (.ld 1 false (T 26)),P 28 (.len false (T 27)),P 29 (.mv (C 0))] false) (.block 0 (.loop (.seq (.reg [P 30 (.bin .lss (T 29) (T 28))] false) (.seq (.cond (T 30) .skip (.exit 0)) (.seq (.block 1 (.seq (.reg [M 31 29,P 32 (.ixA 5 (T 27) (T 29)),P 33 (.ld 5 true (T 32)),P 11 (.new (.agg [(.int .i64 0),(.int .i64 0),(.int .i64 0),(.int .i64 0),(.int .u64 0)]) 5 57),P 10 (.asg (T 31) none),⟨none,(.st 5 (T 11) (T 33)),none,[]⟩] false) (.seq (.reg [P 35 (.ld 5 true (T 11)),P 36 (.call (.c (.clo 56 [])) [(T 35)]),M 34 36,P 37 (.ext (T 34) 0),P 38 (.ext (T 34) 1),P 12 (.asg (T 37) none),P 13 (.asg (T 38) none)] false) (.seq (.seq (.reg [M 39 13,P 40 (.un .not (T 39)),M 41 40,⟨(some 42),(.fldA 0 (T 11)),(some ⟨41,false⟩),[]⟩,⟨(some 43),(.ld 1 false (T 42)),(some ⟨41,false⟩),[]⟩,⟨(some 44),(.bin .eql (T 43) (C 17)),(some ⟨41,false⟩),[]⟩,⟨(some 45),(.mv (T 44)),(some ⟨41,false⟩),[]⟩,⟨(some 46),(.fldA 1 (T 11)),(some ⟨45,true⟩),[]⟩,⟨(some 47),(.ld 1 false (T 46)),(some ⟨45,true⟩),[]⟩,⟨(some 48),(.fldA 2 (T 11)),(some ⟨45,true⟩),[]⟩,⟨(some 49),(.ld 1 false (T 48)),(some ⟨45,true⟩),[]⟩,⟨(some 50),(.bin .eql (T 47) (T 49)),(some ⟨45,true⟩),[]⟩,⟨(some 51),(.pick (T 45) (T 50) (.c (.bool false))),(some ⟨41,false⟩),[]⟩,P 52 (.pick (T 41) (.c (.bool true)) (T 51))] false) (.cond (T 52) (.exit 1) .skip)) (.seq (.reg [P 53 (.fldA 0 (T 4)),P 54 (.ld 1 false (T 53)),M 55 10,P 56 (.ixA 1 (T 54) (T 55)),P 57 (.ld 1 false (T 56)),P 58 (.len false (T 57)),P 59 (.mv (C 0))] false) (.block 2 (.loop (.seq (.reg [P 60 (.bin .lss (T 59) (T 58))] false) (.seq (.cond (T 60) .skip (.exit 2)) (.seq (.block 3 (.seq (.reg [P 61 (.ixA 1 (T 57) (T 59)),P 62 (.ld 1 false (T 61)),P 15 (.asg (T 62) none)] false) (.seq (.reg [M 63 15,M 64 12,P 65 (.bin .neq (T 63) (T 64)),M 66 65,⟨(some 67),(.mv (T 2)),(some ⟨66,true⟩),[]⟩,⟨(some 68),(.ld 5 true (T 11)),(some ⟨66,true⟩),[]⟩,⟨(some 69),(.mv (T 15)),(some ⟨66,true⟩),[]⟩,⟨(some 70),(.call (T 67) [(T 68),(T 69)]),(some ⟨66,true⟩),[]⟩,⟨(some 71),(.un .not (T 70)),(some ⟨66,true⟩),[]⟩,P 72 (.pick (T 66) (T 71) (.c (.bool false)))] false) (.cond (T 72) (.reg [M 73 9,M 74 12,⟨(some 75),(.ixA 1 (T 73) (T 74)),none,[0,1]⟩,⟨(some 76),(.ld 1 false (T 75)),none,[2]⟩,M 77 15,M 78 9,M 79 15,⟨(some 80),(.ixA 1 (T 78) (T 79)),none,[5,6]⟩,⟨(some 81),(.ld 1 false (T 80)),none,[7]⟩,M 82 12,⟨(some 83),(.ixA 1 (T 76) (T 77)),none,[3,4,0,1,2,3,4,8]⟩,⟨none,(.st 1 (T 83) (.c (.bool true))),none,[10,0,1,2,3,4,8]⟩,⟨(some 84),(.ixA 1 (T 81) (T 82)),none,[8,9,0,1,2,3,4,5,6,7,8,9,10,11]⟩,⟨none,(.st 1 (T 84) (.c (.bool true))),none,[12,11,0,1,2,3,4,5,6,7,8,9,10,11]⟩] true) .skip)))) (.reg [P 85 (.bin .add (T 59) (C 1)),M 59 85] false))))))))))) (.reg [P 86 (.bin .add (T 29) (C 1)),M 29 86] false))))))) (.seq (.reg [M 87 9,P 88 (.call (.c (.clo 57 [])) [(T 87)]),⟨(some 6),(.asg (T 88) (some ⟨1,42⟩)),none,[]⟩,P 7 (.asg (C 0) none)] false) .ret)))))
theorem AdW : (Tryd.f30.body.bind (Ju Tryd.prog Tryd.f30.ntmps)) = some AcI:=by kernel_rfl
theorem AdX : Tryd.f30.results.toList.mapM (JE Tryd.prog) = some [(.t 6),(.t 7)]:=by kernel_rfl
def Nw (a : Jh × Jp) : List D:=[JS a.1,KL a.2,.clo 31 []]
def Nv (ds : List D) : Jh × Jp:=(Mn (ds.getD 0 .top),Px (ds.getD 1 .top))
theorem QW (a : Jh × Jp) : Nv (Nw a) = a:=by simp [Nv,Nw]
def Oh (b : (List (List Int)) × Int) : D:=.tup [.sl (b.1.map (eL Jc)),.int .i64 b.2]
def RO (_b : (List (List Int)) × Int) : List D:=[]
noncomputable def Mm : Dw.Spec:=Js [] .val Nw Nv (fun a=>LF a.1 a.2) Oh RO
noncomputable def Nd : Dw.Spec:=AbN (specs []) 1 [(.t 2)] AcJ
theorem UZ : Jr Tryd.prog 55 Nd:=AcX (JW) Tryd.func55 (by decide) AdY AdZ (by decide)
set_option maxHeartbeats 4000000 in
theorem WH : Jr Tryd.prog 30 Mm:=by
 refine JA (Jw (l:=[(23,Of),(55,Nd),(56,LZ),(31,RB),(57,LG)]) (by simp [Wq,UZ,Tc,Zz,Sk])) Tryd.func30 (by decide) AdW AdX (np:=3) (by decide) QW (fun _=>r) (fun _=>r) (by decide)<|?_
 rintro ⟨f1,l2⟩
 show TrE (specs [(23,Of),(55,Nd),(56,LZ),(31,RB),(57,LG)]) AcI (JH [] .val [(.t 6),(.t 7)] Oh RO) ⟨[(0,.agg [.int .i64 f1.Params,.sl (f1.Slots.map Jj),.sl (f1.Code.map Jg)]),(1,.agg [.sl (l2.Out.map (eL Jc))]),(2,.clo 31 [])],[],262144⟩ (LF f1 l2)
 refine Jv<|?_
 unfold AcI LF
 refine sQ<|rG<|bX r r r r r<|bX r r r r r<|aN (α:=(List Int)) r (eL Jc) r<|aS r r<|nI<|xS<|sQ<|sQ<|rG<|lO (v:=.agg [.int .i64 f1.Params,.sl (f1.Slots.map Jj),.sl (f1.Code.map Jg)]) (z:=.agg [.int .i64 f1.Params,.sl (f1.Slots.map Jj),.sl (f1.Code.map Jg)]) r r r r r r<|lO (v:=.agg [.sl (l2.Out.map (eL Jc))]) (z:=.agg [.sl (l2.Out.map (eL Jc))]) r r r r r r<|bD fun r3 hr3=>cG (f1,l2) r r r Sl r r (by simp) r hr3 r<|aS r r<|nI<|xS<|sQ<|rG<|mV r r<|bN (v:=.bool (r3 != 0)) r r r r r<|nI<|xS<|cD (c:=(r3 != 0)) r ?_ ?_
 ·refine sQ<|rG<|mV r r<|aN (α:=(List Int)) r (eL Jc) r<|aS r r<|nI<|xS<|rT<|xR<|Nt (b:=(([] : List (List Int)),r3)) r ?_ r r ?_ (by first | rfl | (simp only [JC,JJ]; rfl) | simp [Oh]) (by decide)
  all_goals first|(simp;done)|(simp;omega)|rfl|(simp [Jk,Ji];done)
 ·refine sK<|xS<|sQ<|rG<|fA r r<|lO (v:=.sl (f1.Slots.map Jj)) (z:=.agg [.int .i64 f1.Params,.sl (f1.Slots.map Jj),.sl (f1.Code.map Jg)]) r r r r r r<|lS r r<|AdA (E:=fun (g : Nat × Nat)=>[(2,.clo 31 []),(3,.optr 1003 g.1 0 0),(4,.optr 1004 g.2 0 0),(24,.int .i64 (f1.Slots.length : Int))]) (O:=fun g=>[(1003,some (g.1,⟨false,true,3,33,[.agg [.int .i64 f1.Params,.sl (f1.Slots.map Jj),.sl (f1.Code.map Jg)]]⟩)),(1004,some (g.2,⟨false,true,1,37,[.agg [.sl (l2.Out.map (eL Jc))]]⟩))]) (_,_) ((Zx (fun g=>bif Nat.ble 4096 g then g + 20000 else g + 1000) (by rfl) (hE ⟨rfl,r,r,r,trivial⟩ ⟨rfl,r,trivial⟩)))<|?_
  rintro ⟨v1003x1,v1004x1⟩ nn
  try dsimp only
  refine Adz (ES:=fun (s : (List (List Bool))) (g : Nat × Nat × Nat)=>[(2,.clo 31 []),(3,.optr 3 g.1 0 0),(4,.optr 4 g.2.1 0 0),(25,.osl 4697 g.2.2 0 s.length)]) (OS:=fun s g=>[(3,some (g.1,⟨false,true,3,33,[.agg [.int .i64 f1.Params,.sl (f1.Slots.map Jj),.sl (f1.Code.map Jg)]]⟩)),(4,some (g.2.1,⟨false,true,1,37,[.agg [.sl (l2.Out.map (eL Jc))]]⟩)),(4697,some (g.2.2,⟨false,false,1,43,s.map (eR 1 4 D.bool)⟩))]) (j:=fun s=>KY f1 l2 s) (ds:=[.int .i64 (f1.Slots.length : Int)]) (caps:=[]) (E:=[(0,.int .i64 (f1.Slots.length : Int))]) r r r r r r r r ?_ ?_
  ·unfold AcJ
   refine sQ<|rG<|aN (α:=(List Bool)) r (eL D.bool) r<|nI<|xS<|sQ<|rG<|mV r r<|cK fun hq=>Tw (α:=Bool) r r r hq r<|aO (l:=List.replicate (f1.Slots.length : Int).toNat ([] : (List Bool))) (en:=(fun _=>D.nils)) r r r r<|nI<|KM (E:=[(0,.int .i64 (f1.Slots.length : Int)),(3,.osl 4099 _ 0 ((List.replicate (f1.Slots.length : Int).toNat ([] : (List Bool))).length))]) (O:=[(1003,some (v1003x1,⟨false,true,3,33,[.agg [.int .i64 f1.Params,.sl (f1.Slots.map Jj),.sl (f1.Code.map Jg)]]⟩)),(1004,some (v1004x1,⟨false,true,1,37,[.agg [.sl (l2.Out.map (eL Jc))]]⟩)),(4099,some (_,⟨false,false,1,43,(List.replicate (f1.Slots.length : Int).toNat ([] : (List Bool))).map (eR 1 4 D.bool)⟩))]) ((Zv (g:=3) (g2:=4099) r r r (Abl (l:=List.replicate (f1.Slots.length : Int).toNat ([] : (List Bool))) (s':=1) (ty':=4) D.bool (by decide) (fun _ h=>List.eq_of_mem_replicate h)) (hE ⟨rfl,r,trivial⟩ ⟨rfl,r,r,trivial⟩))) fun nn=>sQ<|sQ<|rG<|mV r r<|lW r r<|mV r r<|nI<|xS<|bK<|lP (E:=fun (s : (List (List Bool)) × Int) (g : Nat)=>[(0,.int .i64 (f1.Slots.length : Int)),(3,.osl 4099 g 0 s.1.length),(8,.int .i64 ((List.replicate (f1.Slots.length : Int).toNat ([] : (List Bool))).length : Int)),(9,.int .i64 s.2)]) (O:=fun s g=>[(1003,some (v1003x1,⟨false,true,3,33,[.agg [.int .i64 f1.Params,.sl (f1.Slots.map Jj),.sl (f1.Code.map Jg)]]⟩)),(1004,some (v1004x1,⟨false,true,1,37,[.agg [.sl (l2.Out.map (eL Jc))]]⟩)),(4099,some (g,⟨false,false,1,43,s.1.map (eR 1 4 D.bool)⟩))]) (body:=fun s=>LU f1 l2 s.1 s.2) (s:=(List.replicate (f1.Slots.length : Int).toNat ([] : (List Bool)),0)) _ ((hE ⟨rfl,r,r,r,trivial⟩ ⟨rfl,r,r,trivial⟩))<|?_
   rintro ⟨m5,x6⟩ v4099x2 nn
   try dsimp only
   unfold LU
   refine sQ<|rG<|bN (v:=.bool (decide (x6 < ((List.replicate (f1.Slots.length : Int).toNat ([] : (List Bool))).length : Int)))) r r r r r<|nI<|xS<|sQ<|cD (c:=(decide (x6 < ((List.replicate (f1.Slots.length : Int).toNat ([] : (List Bool))).length : Int)))) r ?_ ?_
   ·exact sK<|xS<|sQ<|bK<|sQ<|rG<|mV rfl rfl<|aS rfl rfl<|nI<|xS<|rG<|mV rfl rfl<|mV rfl rfl<|mV rfl rfl<|cK fun hq=>mS (q:=false) D.bool rfl rfl rfl rfl hq rfl<|cK fun hq=>iO (l:=m5) (en:=(eR 1 4 D.bool)) rfl rfl rfl rfl rfl hq<|bD fun o7 ho7=>YQ (l:=m5) (q:=o7) (q':=List.replicate (f1.Slots.length : Int).toNat false) D.bool rfl rfl rfl rfl (.inl rfl) ho7 rfl rfl ⟨⟨rfl,rfl,by simp,Aao fun _=>rfl⟩,trivial,rfl⟩ (congrArg (fun z=>[D.row _ _ z]) (Jl _ _ rfl)) rfl<|nI<|bM<|xS<|rG<|bN (v:=.int .i64 (IntKind.i64.wrap (x6 + 1))) rfl rfl rfl rfl rfl<|mV rfl rfl<|nI<|xL (s:=(m5.set x6.toNat (List.replicate (f1.Slots.length : Int).toNat false),IntKind.i64.wrap (x6 + 1))) _ ((hE ⟨rfl,(SB (q:=m5.length) rfl (by simp)),r,r,trivial⟩ ⟨rfl,r,r,trivial⟩))
   ·exact eT<|xE<|lE<|bH<|xS<|sQ<|rG<|mV r r<|Sx r r r<|nI<|xS<|rT<|Adg (d:=.osl 4099 _ 0 m5.length) (s:=m5) (_,_,_) r (by first | rfl | (simp [Ql,Ki,rdA,raw,strip,Lz,S.ge,S.go,look,AdQ,cells,LM]; done)) r ((AcR (E1:=[(2,.clo 31 []),(3,.optr 1003 v1003x1 0 0),(4,.optr 1004 v1004x1 0 0),(25,.osl 4099 _ 0 m5.length)]) (O1:=[(1003,some (v1003x1,⟨false,true,3,33,[.agg [.int .i64 f1.Params,.sl (f1.Slots.map Jj),.sl (f1.Code.map Jg)]]⟩)),(1004,some (v1004x1,⟨false,true,1,37,[.agg [.sl (l2.Out.map (eL Jc))]]⟩)),(4099,some (_,⟨false,false,1,43,m5.map (eR 1 4 D.bool)⟩))]) (hE ⟨rfl,r,r,r,trivial⟩ ⟨rfl,r,r,trivial⟩) (fun _=>Zx (fun g=>bif Nat.ble 24096 g then g - 20000 else bif (Nat.ble 1000 g && Nat.blt g 4096) then g - 1000 else bif Nat.beq g 4099 then 4697 else g) (by rfl) (hE ⟨rfl,r,r,r,trivial⟩ ⟨rfl,r,r,trivial⟩))))
  ·rintro x4 ⟨v3x3,v4x3,v4697x3⟩ nn
   try dsimp only
   unfold KY
   refine Sx r r r<|nI<|xS<|sQ<|sQ<|rG<|fA r r<|lO (v:=.sl (f1.Code.map Jg)) (z:=.agg [.int .i64 f1.Params,.sl (f1.Slots.map Jj),.sl (f1.Code.map Jg)]) r r r r r r<|lS r r<|mV r r<|nI<|xS<|bK<|lP (E:=fun (s : (List (List Bool)) × Int) (g : Nat × Nat)=>[(2,.clo 31 []),(4,.optr 4 g.1 0 0),(9,.osl 4697 g.2 0 s.1.length),(27,.sl (f1.Code.map Jg)),(28,.int .i64 (f1.Code.length : Int)),(29,.int .i64 s.2)]) (O:=fun s g=>[(4,some (g.1,⟨false,true,1,37,[.agg [.sl (l2.Out.map (eL Jc))]]⟩)),(4697,some (g.2,⟨false,false,1,43,s.1.map (eR 1 4 D.bool)⟩))]) (body:=fun s=>LV f1 l2 s.1 s.2) (s:=(x4,0)) (_,_) ((hE ⟨rfl,r,r,r,r,r,trivial⟩ ⟨rfl,r,trivial⟩))<|?_
   rintro ⟨x8,x9⟩ ⟨v4x4,v4697x4⟩ nn
   try dsimp only
   unfold LV
   refine sQ<|rG<|bN (v:=.bool (decide (x9 < (f1.Code.length : Int)))) r r r r r<|nI<|xS<|sQ<|cD (c:=(decide (x9 < (f1.Code.length : Int)))) r ?_ ?_
   ·refine sK<|xS<|sQ<|bK<|sQ<|rG<|mV r r<|bD fun x_x10 hx_x10=>iS (en:=Jg) r r r hx_x10 r<|lF (v:=.agg [.int .i64 x_x10.Op,.int .i64 x_x10.A,.int .i64 x_x10.B,.int .i64 x_x10.C,.int .u64 x_x10.Imm]) r r r r<|nW r<|aS r r<|sV (z':=.agg [.int .i64 x_x10.Op,.int .i64 x_x10.A,.int .i64 x_x10.B,.int .i64 x_x10.C,.int .u64 x_x10.Imm]) r r r r r r r r r<|nI<|xS<|sQ<|rG<|lO (v:=.agg [.int .i64 x_x10.Op,.int .i64 x_x10.A,.int .i64 x_x10.B,.int .i64 x_x10.C,.int .u64 x_x10.Imm]) (z:=.agg [.int .i64 x_x10.Op,.int .i64 x_x10.A,.int .i64 x_x10.B,.int .i64 x_x10.C,.int .u64 x_x10.Imm]) r r r r r r<|bD fun r11 hr11=>cG x_x10 r r r PU r r (by simp) r hr11 r<|mV r r<|eX (v:=.int .i64 r11.1) r r r<|eX (v:=.bool r11.2) r r r<|aS r r<|aS r r<|nI<|xS<|sC (E:=fun (s : Bool × Bool) (g : Nat × Nat × Nat)=>[(2,.clo 31 []),(4,.optr 4 g.1 0 0),(9,.osl 4697 g.2.2 0 x8.length),(10,.int .i64 x9),(11,.optr 11 g.2.1 0 0),(12,.int .i64 r11.1),(27,.sl (f1.Code.map Jg)),(28,.int .i64 (f1.Code.length : Int)),(29,.int .i64 x9),(42,.optr 11 g.2.1 0 0),(43,.int .i64 x_x10.Op),(44,.bool (x_x10.Op == 17)),(45,.bool s.1),(51,.bool s.2)]) (O:=fun s g=>[(4,some (g.1,⟨false,true,1,37,[.agg [.sl (l2.Out.map (eL Jc))]]⟩)),(11,some (g.2.1,⟨false,true,5,57,[.agg [.int .i64 x_x10.Op,.int .i64 x_x10.A,.int .i64 x_x10.B,.int .i64 x_x10.C,.int .u64 x_x10.Imm]]⟩)),(4697,some (g.2.2,⟨false,false,1,43,x8.map (eR 1 4 D.bool)⟩))]) (j:=fun s=>Ky l2 x9 r11 x_x10 x8 s.1 s.2) ?_ ?_
    ·refine sQ<|rG<|mV r r<|uN (w:=.bool (!r11.2)) r r r r trivial<|mV r r<|sP 41 (b:=(!r11.2)) r ?_ ?_
     ·exact oF r<|oF r<|oF r<|oF r<|oF r<|oF r<|oF r<|oF r<|oF r<|oF r<|pT r r r r<|nI<|xS<|JX r<|eT<|NF<|bH<|xS<|rG<|bN (v:=.int .i64 (IntKind.i64.wrap (x9 + 1))) r r r r r<|mV r r<|nI<|xL (s:=(x8,IntKind.i64.wrap (x9 + 1))) (_,_) ((hE ⟨rfl,r,r,r,r,r,trivial⟩ ⟨rfl,r,trivial⟩))
     ·refine fA r r<|lO (v:=.int .i64 x_x10.Op) (z:=.agg [.int .i64 x_x10.Op,.int .i64 x_x10.A,.int .i64 x_x10.B,.int .i64 x_x10.C,.int .u64 x_x10.Imm]) r r r r r r<|bN (v:=.bool (x_x10.Op == 17)) r r r r r<|mV r r<|sP 45 (b:=(x_x10.Op == 17)) r ?_ ?_
      ·refine fA r r<|lO (v:=.int .i64 x_x10.A) (z:=.agg [.int .i64 x_x10.Op,.int .i64 x_x10.A,.int .i64 x_x10.B,.int .i64 x_x10.C,.int .u64 x_x10.Imm]) r r r r r r<|fA r r<|lO (v:=.int .i64 x_x10.B) (z:=.agg [.int .i64 x_x10.Op,.int .i64 x_x10.A,.int .i64 x_x10.B,.int .i64 x_x10.C,.int .u64 x_x10.Imm]) r r r r r r<|bN (v:=.bool (x_x10.A == x_x10.B)) r r r r r<|pT r r r r<|pF r r r r<|nI<|xS<|cD (c:=(x_x10.A == x_x10.B)) r ?_ ?_
       ·exact eT<|NF<|bH<|xS<|rG<|bN (v:=.int .i64 (IntKind.i64.wrap (x9 + 1))) r r r r r<|mV r r<|nI<|xL (s:=(x8,IntKind.i64.wrap (x9 + 1))) (_,_) ((hE ⟨rfl,r,r,r,r,r,trivial⟩ ⟨rfl,r,trivial⟩))
       ·exact sK<|xC (s:=(true,(x_x10.A == x_x10.B))) (_,_,_) ((hE ⟨rfl,r,r,r,r,r,r,r,r,r,r,r,r,r,trivial⟩ ⟨rfl,r,r,trivial⟩))
      ·exact oF r<|oF r<|oF r<|oF r<|oF r<|pF r r r r<|pF r r r r<|nI<|xS<|ML r<|sK<|xC (s:=(false,false)) (_,_,_) ((hE ⟨rfl,r,r,r,r,r,r,r,r,r,r,r,r,r,trivial⟩ ⟨rfl,r,r,trivial⟩))
    ·rintro ⟨x12,x13⟩ ⟨v4x5,v11x5,v4697x5⟩ nn
     try dsimp only
     unfold Ky
     refine sQ<|rG<|fA r r<|lO (v:=.sl (l2.Out.map (eL Jc))) (z:=.agg [.sl (l2.Out.map (eL Jc))]) r r r r r r<|mV r r<|bD fun x_x14 hx_x14=>iS (en:=(eL Jc)) r r r hx_x14 r<|lF (v:=.sl (x_x14.map Jc)) r r r r<|lS r r<|mV r r<|nI<|xS<|bK<|lP (E:=fun (s : (List (List Bool)) × Int) (g : Nat × Nat × Nat)=>[(2,.clo 31 []),(4,.optr 4 g.1 0 0),(9,.osl 4697 g.2.2 0 s.1.length),(11,.optr 11 g.2.1 0 0),(12,.int .i64 r11.1),(27,.sl (f1.Code.map Jg)),(28,.int .i64 (f1.Code.length : Int)),(29,.int .i64 x9),(42,.optr 11 g.2.1 0 0),(43,.int .i64 x_x10.Op),(44,.bool (x_x10.Op == 17)),(45,.bool x12),(51,.bool x13),(57,.sl (x_x14.map Jc)),(58,.int .i64 (x_x14.length : Int)),(59,.int .i64 s.2)]) (O:=fun s g=>[(4,some (g.1,⟨false,true,1,37,[.agg [.sl (l2.Out.map (eL Jc))]]⟩)),(11,some (g.2.1,⟨false,true,5,57,[.agg [.int .i64 x_x10.Op,.int .i64 x_x10.A,.int .i64 x_x10.B,.int .i64 x_x10.C,.int .u64 x_x10.Imm]]⟩)),(4697,some (g.2.2,⟨false,false,1,43,s.1.map (eR 1 4 D.bool)⟩))]) (body:=fun s=>LW x_x14 r11 x_x10 x9 s.1 s.2) (s:=(x8,0)) (_,_,_) ((hE ⟨rfl,r,r,r,r,r,r,r,r,r,r,r,r,r,r,r,trivial⟩ ⟨rfl,r,r,trivial⟩))<|?_
     rintro ⟨x15,x16⟩ ⟨v4x6,v11x6,v4697x6⟩ nn
     try dsimp only
     unfold LW
     refine sQ<|rG<|bN (v:=.bool (decide (x16 < (x_x14.length : Int)))) r r r r r<|nI<|xS<|sQ<|cD (c:=(decide (x16 < (x_x14.length : Int)))) r ?_ ?_
     ·refine sK<|xS<|sQ<|bK<|sQ<|rG<|bD fun x_x17 hx_x17=>iS (en:=Jc) r r r hx_x17 r<|lF (v:=.int .i64 x_x17) r r r r<|aS r r<|nI<|xS<|sC (E:=fun (s : Bool) (g : Nat × Nat × Nat)=>[(2,.clo 31 []),(4,.optr 4 g.1 0 0),(9,.osl 4697 g.2.2 0 x15.length),(11,.optr 11 g.2.1 0 0),(12,.int .i64 r11.1),(15,.int .i64 x_x17),(27,.sl (f1.Code.map Jg)),(28,.int .i64 (f1.Code.length : Int)),(29,.int .i64 x9),(42,.optr 11 g.2.1 0 0),(43,.int .i64 x_x10.Op),(44,.bool (x_x10.Op == 17)),(45,.bool x12),(51,.bool x13),(57,.sl (x_x14.map Jc)),(58,.int .i64 (x_x14.length : Int)),(59,.int .i64 x16),(72,.bool s)]) (O:=fun s g=>[(4,some (g.1,⟨false,true,1,37,[.agg [.sl (l2.Out.map (eL Jc))]]⟩)),(11,some (g.2.1,⟨false,true,5,57,[.agg [.int .i64 x_x10.Op,.int .i64 x_x10.A,.int .i64 x_x10.B,.int .i64 x_x10.C,.int .u64 x_x10.Imm]]⟩)),(4697,some (g.2.2,⟨false,false,1,43,x15.map (eR 1 4 D.bool)⟩))]) (j:=fun s=>JZ x15 r11 x_x17 x16 s) ?_ ?_
      ·refine rG<|mV r r<|mV r r<|bN (v:=.bool (x_x17 != r11.1)) r r r r r<|mV r r<|sP 66 (b:=(x_x17 != r11.1)) r ?_ ?_
       ·exact mV r r<|lO (v:=.agg [.int .i64 x_x10.Op,.int .i64 x_x10.A,.int .i64 x_x10.B,.int .i64 x_x10.C,.int .u64 x_x10.Imm]) (z:=.agg [.int .i64 x_x10.Op,.int .i64 x_x10.A,.int .i64 x_x10.B,.int .i64 x_x10.C,.int .u64 x_x10.Imm]) r r r r r r<|mV r r<|bD fun r19 hr19=>cG (x_x10,x_x17) r r r UD r r (by simp) r hr19 r<|uN (w:=.bool (!r19)) r r r r trivial<|pT r r r r<|nI<|xC (s:=(!r19)) (_,_,_) ((hE ⟨rfl,r,r,r,r,r,r,r,r,r,r,r,r,r,r,r,r,r,trivial⟩ ⟨rfl,r,r,trivial⟩))
       ·exact oF r<|oF r<|oF r<|oF r<|oF r<|pF r r r r<|nI<|xC (s:=false) (_,_,_) ((hE ⟨rfl,r,r,r,r,r,r,r,r,r,r,r,r,r,r,r,r,r,trivial⟩ ⟨rfl,r,r,trivial⟩))
      ·rintro x18 ⟨v4x7,v11x7,v4697x7⟩ nn
       try dsimp only
       unfold JZ
       refine cD (c:=x18) r ?_ ?_
       ·exact AaI fun row20 hrow20=>AaI fun row21 hrow21=>Aet fun hnrow20=>AbE (E:=[(2,.clo 31 []),(4,.optr 4 _ 0 0),(9,.osl 4697 _ 0 x15.length),(11,.optr 11 _ 0 0),(12,.int .i64 r11.1),(15,.int .i64 x_x17),(27,.sl (f1.Code.map Jg)),(28,.int .i64 (f1.Code.length : Int)),(29,.int .i64 x9),(42,.optr 11 _ 0 0),(43,.int .i64 x_x10.Op),(44,.bool (x_x10.Op == 17)),(45,.bool x12),(51,.bool x13),(57,.sl (x_x14.map Jc)),(58,.int .i64 (x_x14.length : Int)),(59,.int .i64 x16)]) (O:=[(4,some (_,⟨false,true,1,37,[.agg [.sl (l2.Out.map (eL Jc))]]⟩)),(11,some (_,⟨false,true,5,57,[.agg [.int .i64 x_x10.Op,.int .i64 x_x10.A,.int .i64 x_x10.B,.int .i64 x_x10.C,.int .u64 x_x10.Imm]]⟩)),(4697,some (_,⟨false,false,1,43,((x15.map (eR 1 4 D.bool)).set r11.1.toNat (.hole 4718 _ row20.length)).set x_x17.toNat (.hole 4719 _ row21.length)⟩)),(4718,some (_,⟨false,false,1,4,row20.map D.bool⟩)),(4719,some (_,⟨false,false,1,4,row21.map D.bool⟩))]) (AbZ (g:=4697) (i:=r11.1.toNat) (j:=x_x17.toNat) (t1:=622) (t2:=623) D.bool r hrow20 hrow21 hnrow20 (hE ⟨rfl,r,r,r,r,r,r,r,r,r,r,r,r,r,r,r,r,trivial⟩ ⟨rfl,r,r,r,r,trivial⟩)) fun nn=>mV r r<|mV r r<|cK fun hq=>Tt (by simp) r r r r (by simpa using hq)<|VZ (nm:=4718) (q:=row20.length) r r r (Adv hrow20 hnrow20)<|mV r r<|mV r r<|mV r r<|cK fun hq=>Tt (by simp) r r r r (by simpa using hq)<|VZ (nm:=4719) (q:=row21.length) r r r (Adw hrow21)<|mV r r<|cK fun hq=>iO (l:=row20) (en:=D.bool) r r r r r hq<|bD fun x_o22 hx_o22=>TC (l:=row20) (en:=D.bool) (q:=x_o22) (q':=true) r r r r r hx_o22 r (fun _=>r) r r r ⟨trivial,trivial,r⟩<|cK fun hq=>iO (l:=row21) (en:=D.bool) r r r r r hq<|bD fun x_o23 hx_o23=>TC (l:=row21) (en:=D.bool) (q:=x_o23) (q':=true) r r r r r hx_o23 r (fun _=>r) r r r ⟨trivial,trivial,r⟩<|Jz (by kernel_rfl)<|bM<|KM (E:=[(2,.clo 31 []),(4,.optr 4 _ 0 0),(9,.osl 4697 _ 0 x15.length),(11,.optr 11 _ 0 0),(12,.int .i64 r11.1),(27,.sl (f1.Code.map Jg)),(28,.int .i64 (f1.Code.length : Int)),(29,.int .i64 x9),(42,.optr 11 _ 0 0),(43,.int .i64 x_x10.Op),(44,.bool (x_x10.Op == 17)),(45,.bool x12),(51,.bool x13),(57,.sl (x_x14.map Jc)),(58,.int .i64 (x_x14.length : Int)),(59,.int .i64 x16)]) (O:=[(4,some (_,⟨false,true,1,37,[.agg [.sl (l2.Out.map (eL Jc))]]⟩)),(11,some (_,⟨false,true,5,57,[.agg [.int .i64 x_x10.Op,.int .i64 x_x10.A,.int .i64 x_x10.B,.int .i64 x_x10.C,.int .u64 x_x10.Imm]]⟩)),(4697,some (_,⟨false,false,1,43,((x15.set r11.1.toNat (row20.set x_x17.toNat true)).set x_x17.toNat (row21.set r11.1.toNat true)).map (eR 1 4 D.bool)⟩))]) ((Abw (g:=4697) (g1:=4718) (g2:=4719) (l:=x15) (en:=D.bool) (i:=r11.1.toNat) (j:=x_x17.toNat) (q1:=row20) (q2:=row21) (q1':=row20.set x_x17.toNat true) (q2':=row21.set r11.1.toNat true) hrow20 hrow21 hnrow20 r r r (by simp) (by simp) (fun _=>r) (hE ⟨rfl,r,(SB (q:=x15.length) r (by simp)),r,r,r,r,r,r,r,r,r,r,r,r,r,trivial⟩ ⟨rfl,r,r,trivial⟩))) fun nn=>rG<|bN (v:=.int .i64 (IntKind.i64.wrap (x16 + 1))) r r r r r<|mV r r<|nI<|xL (s:=((x15.set r11.1.toNat (row20.set x_x17.toNat true)).set x_x17.toNat (row21.set r11.1.toNat true),IntKind.i64.wrap (x16 + 1))) (_,_,_) ((hE ⟨rfl,r,(SB (q:=x15.length) r (by simp)),r,r,r,r,r,r,r,r,r,r,r,r,r,trivial⟩ ⟨rfl,r,r,trivial⟩))
       ·exact sK<|bM<|xS<|rG<|bN (v:=.int .i64 (IntKind.i64.wrap (x16 + 1))) r r r r r<|mV r r<|nI<|xL (s:=(x15,IntKind.i64.wrap (x16 + 1))) (_,_,_) ((hE ⟨rfl,r,r,r,r,r,r,r,r,r,r,r,r,r,r,r,trivial⟩ ⟨rfl,r,r,trivial⟩))
     ·exact eT<|xE<|lE<|bH<|bM<|xS<|rG<|bN (v:=.int .i64 (IntKind.i64.wrap (x9 + 1))) r r r r r<|mV r r<|nI<|xL (s:=(x15,IntKind.i64.wrap (x9 + 1))) (_,_) ((hE ⟨rfl,r,r,r,r,r,trivial⟩ ⟨rfl,r,trivial⟩))
   ·refine eT<|xE<|lE<|bH<|KM (E:=[(9,.osl 4697 _ 0 x8.length)]) (O:=[(4697,some (_,⟨false,false,1,43,x8.map (eL D.bool)⟩))]) ((Aaj (g:=4697) r (Abm (l:=x8) D.bool (fun _=>r)) (hE ⟨rfl,trivial⟩ ⟨rfl,trivial⟩))) fun nn=>sQ<|rG<|mV r r<|bD fun r24 hr24=>cV x8 r r r Oy r r (by simp) (by first | rfl | (simp only [JC,JJ]; rfl) | simp [Lf]) hr24<|aL r r<|aS r r<|nI<|xS<|rT<|Nt (b:=(r24,0)) r ?_ r r ?_ r (by decide)
    all_goals first|(simp;done)|(simp;omega)|rfl|(simp [Jk,Ji];done)

def AeG : Jt:=(.seq (.reg [P 2 (.box (T 0) 3 33),P 3 (.box (T 1) 1 37),⟨(some 4),(.asg (.c .nils) (some ⟨1,42⟩)),none,[]⟩,P 5 (.asg (C 0) none)] false) (.seq (.reg [P 6 (.ld 3 true (T 2)),P 7 (.ld 1 true (T 3)),P 8 (.call (.c (.clo 30 [])) [(T 6),(T 7),(.c (.clo 31 []))]),P 9 (.ext (T 8) 0),P 10 (.ext (T 8) 1),⟨(some 4),(.asg (T 9) (some ⟨1,42⟩)),none,[]⟩,P 5 (.asg (T 10) none)] false) .ret))
theorem AgX : (Tryd.f15.body.bind (Ju Tryd.prog Tryd.f15.ntmps)) = some AeG:=by kernel_rfl
theorem AgY : Tryd.f15.results.toList.mapM (JE Tryd.prog) = some [(.t 4),(.t 5)]:=by kernel_rfl
def RD (a : Jh × Jp) : List D:=[JS a.1,KL a.2]
def RC (ds : List D) : Jh × Jp:=(Mn (ds.getD 0 .top),Px (ds.getD 1 .top))
theorem Si (a : Jh × Jp) : RC (RD a) = a:=by simp [RC,RD]
def Xk (b : (List (List Int)) × Int) : D:=.tup [.sl (b.1.map (eL Jc)),.int .i64 b.2]
def Xj (_b : (List (List Int)) × Int) : List D:=[]
noncomputable def Te : Dw.Spec:=Js [] .val RD RC (fun a=>Mz a.1 a.2) Xk Xj
set_option maxHeartbeats 4000000 in
theorem Aal : Jr Tryd.prog 15 Te:=by
 refine JA (Jw (l:=[(131102,Mm)]) (by simp [WH])) Tryd.func15 (by decide) AgX AgY (np:=2) (by decide) Si (fun _=>r) (fun _=>r) (by decide)<|?_
 rintro ⟨f1,l2⟩
 show TrE (specs [(131102,Mm)]) AeG (JH [] .val [(.t 4),(.t 5)] Xk Xj) ⟨[(0,.agg [.int .i64 f1.Params,.sl (f1.Slots.map Jj),.sl (f1.Code.map Jg)]),(1,.agg [.sl (l2.Out.map (eL Jc))])],[],262144⟩ (Mz f1 l2)
 refine Jv<|?_
 unfold AeG Mz
 refine sQ<|rG<|bX rfl rfl rfl rfl rfl<|bX rfl rfl rfl rfl rfl<|aN (α:=(List Int)) rfl (eL Jc) rfl<|aS rfl rfl<|nI<|xS<|sQ<|rG<|lO (v:=.agg [.int .i64 f1.Params,.sl (f1.Slots.map Jj),.sl (f1.Code.map Jg)]) (z:=.agg [.int .i64 f1.Params,.sl (f1.Slots.map Jj),.sl (f1.Code.map Jg)]) rfl rfl rfl rfl rfl rfl<|lO (v:=.agg [.sl (l2.Out.map (eL Jc))]) (z:=.agg [.sl (l2.Out.map (eL Jc))]) rfl rfl rfl rfl rfl rfl<|bD fun r3 hr3=>cV (f1,l2) rfl rfl (show _ = some Mm from by kernel_rfl) QW rfl rfl (by simp) r hr3<|eX (v:=.sl (r3.1.map (eL Jc))) r r r<|eX (v:=.int .i64 r3.2) r r r<|aL r r<|aS r r<|nI<|xS<|rT<|Nt (b:=(r3.1,r3.2)) r ?_ r r ?_ r (by decide)
 all_goals first|(simp;done)|(simp;omega)|rfl|(simp [Jk,Ji];done)

def AeT : Jt:=(.seq (.reg [P 2 (.box (T 0) 5 57),P 4 (.asg (.c (.bool false)) none)] false) (.seq (.reg [P 4 (.asg (.c (.bool false)) none)] false) .ret))
theorem Ahx : (Tryd.f32.body.bind (Ju Tryd.prog Tryd.f32.ntmps)) = some AeT:=by kernel_rfl
theorem Ahy : Tryd.f32.results.toList.mapM (JE Tryd.prog) = some [(.t 4)]:=by kernel_rfl
def PG (a : Je × Int) : List D:=[Jg a.1,.int .i64 a.2]
def PF (ds : List D) : Je × Int:=(Qr (ds.getD 0 .top),uI (ds.getD 1 .top))
theorem Uj (a : Je × Int) : PF (PG a) = a:=by simp [PF,PG,uI]
def UF (b : Bool) : D:=.bool b
def UE (_b : Bool) : List D:=[]
noncomputable def QH : Dw.Spec:=Js [] .ground PG PF (fun a=>Nu a.1 a.2) UF UE
set_option maxHeartbeats 4000000 in
theorem Zb : Jr Tryd.prog 32 QH:=by
 refine JA (JW) Tryd.func32 (by decide) Ahx Ahy (np:=2) (by decide) Uj (fun _=>r) (fun _=>r) (by decide)<|?_
 rintro ⟨p1,p2⟩
 show TrE (specs []) AeT (JH [] .ground [(.t 4)] UF UE) ⟨[(0,.agg [.int .i64 p1.Op,.int .i64 p1.A,.int .i64 p1.B,.int .i64 p1.C,.int .u64 p1.Imm]),(1,.int .i64 p2)],[],262144⟩ (Nu p1 p2)
 refine Jv<|?_
 unfold AeT Nu
 refine sQ<|rG<|bX r r r r r<|aS r r<|nI<|xS<|sQ<|rG<|aS r r<|nI<|xS<|rT<|Jo (b:=false) r ?_ r r ?_ r
 all_goals first|(simp;done)|(simp;omega)|rfl|(simp [Jk,Ji];done)

end Go.Proofs.YtfpgidpffhmadaaDoor
